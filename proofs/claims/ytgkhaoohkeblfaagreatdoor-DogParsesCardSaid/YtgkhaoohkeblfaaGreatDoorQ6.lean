/- DogParses: dog.Parse reads each line as the document does, or tells the same fault at the same byte, for every text within the statement's bounds. -/
import Derived.Test.YtgkhaoohkeblfaaGreatDoorQ5
import Derived.KernelRfl
import Derived.Test.YtgkhaoohkeblfaaGreatDoorCards
import Derived.Test.YtgkhaoohkeblfaaGreatDoorTie
import Derived.OpenShut
set_option linter.unusedVariables false
set_option linter.unusedSimpArgs false
namespace Go.AM
theorem digit03 (n : Nat) (x : UInt8) : F.ref03_digit n (x.toNat : Int) = some (isDig x) := by
  unfold F.ref03_digit isDig
  by_cases h : 48 ≤ x.toNat
  · rw [bif_pos (by omega)]; simp [h]; omega
  · rw [bif_neg (by omega)]; simp [h]
theorem behind_loop (n : Nat) (X : Type) (k0 : (List UInt8) → Bool → (List UInt8) → Int → Bool → Bool → Int → Int → Int → Int → Option X) (kr : Bool → Int → Int → Int → Int → Option X) (s : List UInt8) (neg : Bool) (pt : Nat) (hs : s.length ≤ 1000000) :
    ∀ (r : List UInt8) (k m : Nat) (d : List UInt8) (must : Bool), s.drop k = r → k ≤ s.length → r.length < m → d.length ≤ k →
    F.ref03_Parse.L8 n k0 kr m s neg (k : Int) d (pt : Int) must false 0 0 0 0 =
      if k + (tw r).length = s.length then k0 s neg (d ++ tw r) (pt : Int) (must && decide ((tw r).length = 0)) false 0 0 0 0 else kr false 0 0 14 ((k + (tw r).length : Nat) : Int) := by
  intro r
  induction r with
  | nil =>
    intro k m d must hk hkl hm hd
    have := drop_nil' hk
    obtain ⟨m, rfl⟩ : ∃ q, m = q + 1 := ⟨m - 1, by omega⟩
    show F.ref03_Parse.L8.step n _ k0 kr _ _ _ _ _ _ _ _ _ _ _ = _
    unfold F.ref03_Parse.L8.step
    have e : tw ([] : List UInt8) = [] := rfl
    rw [bif_neg (by omega), e, List.length_nil, if_pos (by omega), List.append_nil]
    simp
  | cons x r ih =>
    intro k m d must hk hkl hm hd
    obtain ⟨h1, h2, h3⟩ := drop_cons hk
    obtain ⟨m, rfl⟩ : ∃ q, m = q + 1 := ⟨m - 1, by omega⟩
    show F.ref03_Parse.L8.step n (F.ref03_Parse.L8 n k0 kr m) k0 kr _ _ _ _ _ _ _ _ _ _ _ = _
    unfold F.ref03_Parse.L8.step
    rw [bif_pos (by omega), idx_nat, h2, some_bind', digit03, some_bind', some_bind', wrap_succ (by omega)]
    by_cases hx : isDig x = true
    · have hsub : sub s (k : Int) ((k + 1 : Nat) : Int) = some [x] := by
        rw [sub_nat s k (k + 1) (by omega) (by omega), List.take_add_one, h2]
        have : (s.take k).length = k := by simp; omega
        simp [List.drop_append, this]
      have e : tw (x :: r) = x :: tw r := by unfold tw; simp [List.takeWhile_cons, hx]
      rw [hx, cond_true, hsub, some_bind', bif_pos (by rw [strMax_eq]; simp; omega), ih (k + 1) m (d ++ [x]) false h3 (by omega) (by simp at hm; omega) (by simp; omega), e, List.length_cons, List.append_assoc]
      have e1 : k + 1 + (tw r).length = k + ((tw r).length + 1) := by omega
      rw [e1]
      simp
    · have hx' : isDig x = false := by simpa using hx
      have e : tw (x :: r) = [] := by unfold tw; simp [List.takeWhile_cons, hx']
      have hpt : decide ((pt : Int) < 0) = false := by simp
      rw [hx', cond_false, hpt, cond_false, e, List.length_nil, if_neg (by omega)]
      cases ((x.toNat : Int) == 46) <;> rfl
theorem ahead_loop (n : Nat) (X : Type) (k0 : (List UInt8) → Bool → (List UInt8) → Int → Bool → Bool → Int → Int → Int → Int → Option X) (kr : Bool → Int → Int → Int → Int → Option X) (s : List UInt8) (neg : Bool) (hs : s.length ≤ 1000000) :
    ∀ (r : List UInt8) (k m : Nat) (d : List UInt8) (must : Bool), s.drop k = r → k ≤ s.length → r.length < m → d.length ≤ k →
    F.ref03_Parse.L8 n k0 kr m s neg (k : Int) d (-1) must false 0 0 0 0 =
      if k + (tw r).length = s.length then k0 s neg (d ++ tw r) (-1) (must && decide ((tw r).length = 0)) false 0 0 0 0
      else if (s.drop (k + (tw r).length)).head? = some 46 ∧ (must && decide ((tw r).length = 0)) = false then
        (if k + (tw r).length + 1 + (tw (s.drop (k + (tw r).length + 1))).length = s.length then
          k0 s neg ((d ++ tw r) ++ tw (s.drop (k + (tw r).length + 1))) ((d ++ tw r).length : Int) (decide ((tw (s.drop (k + (tw r).length + 1))).length = 0)) false 0 0 0 0
         else kr false 0 0 14 ((k + (tw r).length + 1 + (tw (s.drop (k + (tw r).length + 1))).length : Nat) : Int))
      else kr false 0 0 14 ((k + (tw r).length : Nat) : Int) := by
  intro r
  induction r with
  | nil =>
    intro k m d must hk hkl hm hd
    have := drop_nil' hk
    obtain ⟨m, rfl⟩ : ∃ q, m = q + 1 := ⟨m - 1, by omega⟩
    show F.ref03_Parse.L8.step n _ k0 kr _ _ _ _ _ _ _ _ _ _ _ = _
    unfold F.ref03_Parse.L8.step
    have e : tw ([] : List UInt8) = [] := rfl
    rw [bif_neg (by omega), e, List.length_nil, if_pos (by omega), List.append_nil]
    simp
  | cons x r ih =>
    intro k m d must hk hkl hm hd
    obtain ⟨h1, h2, h3⟩ := drop_cons hk
    obtain ⟨m, rfl⟩ : ∃ q, m = q + 1 := ⟨m - 1, by omega⟩
    show F.ref03_Parse.L8.step n (F.ref03_Parse.L8 n k0 kr m) k0 kr _ _ _ _ _ _ _ _ _ _ _ = _
    unfold F.ref03_Parse.L8.step
    rw [bif_pos (by omega), idx_nat, h2, some_bind', digit03, some_bind', some_bind', wrap_succ (by omega)]
    by_cases hx : isDig x = true
    · have hsub : sub s (k : Int) ((k + 1 : Nat) : Int) = some [x] := by
        rw [sub_nat s k (k + 1) (by omega) (by omega), List.take_add_one, h2]
        have : (s.take k).length = k := by simp; omega
        simp [List.drop_append, this]
      have e : tw (x :: r) = x :: tw r := by unfold tw; simp [List.takeWhile_cons, hx]
      rw [hx, cond_true, hsub, some_bind', bif_pos (by rw [strMax_eq]; simp; omega), ih (k + 1) m (d ++ [x]) false h3 (by omega) (by simp at hm; omega) (by simp; omega), e, List.length_cons, List.append_assoc]
      have e1 : k + 1 + (tw r).length = k + ((tw r).length + 1) := by omega
      rw [e1]
      simp
    · have hx' : isDig x = false := by simpa using hx
      have e : tw (x :: r) = [] := by unfold tw; simp [List.takeWhile_cons, hx']
      have hpt : decide ((-1 : Int) < 0) = true := rfl
      rw [hx', cond_false, hpt, cond_true, e, List.length_nil, if_neg (by omega)]
      simp only [Nat.add_zero, hk, List.append_nil]
      by_cases h46 : x = 46
      · subst h46
        have e2 : ((((46 : UInt8).toNat : Nat) : Int) == 46) = true := rfl
        rw [e2, cond_true]
        cases must
        · simp only [Bool.not_false, cond_true, Bool.false_and, List.head?_cons, and_self, if_true]
          have hb := behind_loop n X k0 kr s neg d.length hs (s.drop (k + 1)) (k + 1) m d true rfl (by omega) (by rw [h3]; simp at hm; omega) (by omega)
          rw [hb]
          simp
        · simp
      · have e2 : ((x.toNat : Int) == 46) = false := by
          have : ¬ (x.toNat : Int) = 46 := fun hh => h46 (u8_ext (by simp; omega))
          simpa using this
        rw [e2, cond_false, if_neg]
        rintro ⟨q, _⟩
        exact h46 (by simpa using q)
theorem make_out (n : Nat) (hn : 200000 ≤ n) (neg : Bool) (d : List UInt8) (hd : Digs d) (hl : d.length ≤ 10000) (e : Int) :
    ((F.ref03_Make n neg d e).bind fun y7 =>
                bif !y7.2.1 then
                  some (((false, (0 : Int), (0 : Int), ()), ((10 : Int), (0 : Int), ()), ()))
                else
                  some (((y7.1.1, y7.1.2.1, y7.1.2.2.1, ()), ((0 : Int), (0 : Int), ()), ()))) = some (outR (valR neg d e)) := by
  rw [make_eq n hn neg d hd hl e, some_bind']
  unfold outR
  rcases valR_code neg d e with h | ⟨h1, h2⟩
  · rw [h, if_pos rfl]; rfl
  · rw [h1, if_neg (by decide)]; rfl
theorem refparse_core (n : Nat) (hn : 200000 ≤ n) (s : List UInt8) (hs : s.length ≤ 10000) (neg : Bool) (q : Nat) (hq : q ≤ s.length) :
    F.ref03_Parse.L8 n
          (fun e6_0 e6_4 e6_6 e6_7 e6_8 e6_b0_0 e6_b0_1 e6_b0_2 e6_b1_0 e6_b1_1 =>
            bif e6_8 then
              some (((false, (0 : Int), (0 : Int), ()), ((11 : Int), (e6_0.length : Int), ()), ()))
            else
            bif decide (e6_7 ≥ (0 : Int)) then
              (F.ref03_Make n e6_4 e6_6 (IntKind.wrap .i64 (e6_7 - (e6_6.length : Int)))).bind fun y7 =>
                bif !y7.2.1 then
                  some (((false, (0 : Int), (0 : Int), ()), ((10 : Int), (0 : Int), ()), ()))
                else
                  some (((y7.1.1, y7.1.2.1, y7.1.2.2.1, ()), ((0 : Int), (0 : Int), ()), ()))
            else
              (F.ref03_Make n e6_4 e6_6 (0 : Int)).bind fun y8 =>
                bif !y8.2.1 then
                  some (((false, (0 : Int), (0 : Int), ()), ((10 : Int), (0 : Int), ()), ()))
                else
                  some (((y8.1.1, y8.1.2.1, y8.1.2.2.1, ()), ((0 : Int), (0 : Int), ()), ())))
          (fun e9_b0_0 e9_b0_1 e9_b0_2 e9_b1_0 e9_b1_1 =>
            some (((e9_b0_0, e9_b0_1, e9_b0_2, ()), (e9_b1_0, e9_b1_1, ()), ()))) n s neg (q : Int) [] (-1 : Int) true false (0 : Int) (0 : Int) (0 : Int) (0 : Int)
    = some (if (lookQ q s).1 = 0 then outR (valR neg (tw (s.drop q) ++ (if (s.drop (p1q q s)).head? = some 46 then tw (s.drop (p1q q s + 1)) else [])) (-(((if (s.drop (p1q q s)).head? = some 46 then tw (s.drop (p1q q s + 1)) else [] : List UInt8).length : Nat) : Int))) else badR (lookQ q s)) := by
  rw [ahead_loop n _ _ _ s neg (by omega) (s.drop q) q n [] true rfl hq (by simp; omega) (by simp)]
  have hp1 : q + (tw (s.drop q)).length = p1q q s := rfl
  have hp3 : p1q q s + 1 + (tw (s.drop (p1q q s + 1))).length = p3q q s := rfl
  have hA : (tw (s.drop q)).length ≤ 10000 := by have := tw_le (s.drop q); simp at this; omega
  have hB : (tw (s.drop (p1q q s + 1))).length ≤ 10000 := by have := tw_le (s.drop (p1q q s + 1)); simp at this; omega
  have hAB : (tw (s.drop q)).length + (tw (s.drop (p1q q s + 1))).length ≤ 10000 := by
    have h1 := tw_le (s.drop q)
    have h2 := tw_le (s.drop (p1q q s + 1))
    simp at h1 h2
    omega
  rw [hp1, hp3]
  simp only [List.nil_append, Bool.true_and]
  have look : ∀ f : FaultR, lookQ q s = f → (¬ f.1 = 0) → some (badR f) = some (if (lookQ q s).1 = 0 then outR (valR neg (tw (s.drop q) ++ (if (s.drop (p1q q s)).head? = some 46 then tw (s.drop (p1q q s + 1)) else [])) (-(((if (s.drop (p1q q s)).head? = some 46 then tw (s.drop (p1q q s + 1)) else [] : List UInt8).length : Nat) : Int))) else badR (lookQ q s)) := by
    intro f hf h0
    rw [hf, if_neg h0]
  by_cases hend : p1q q s = s.length
  ·
    have hdrop : s.drop (p1q q s) = [] := List.drop_eq_nil_of_le (by omega)
    have hno : ¬ ((s.drop (p1q q s)).head? = some 46) := by rw [hdrop]; simp
    rw [if_pos hend]
    by_cases hz : (tw (s.drop q)).length = 0
    · have hl : lookQ q s = (11, (s.length : Int), ()) := by
        unfold lookQ endR
        rw [if_neg (fun h => hno h.2), if_neg (fun h => by have := h.1; omega), if_pos hend, hend]
      rw [decide_eq_true hz, cond_true]
      exact look _ hl (by show ¬ (11 : Int) = 0; decide)
    · have hh : ¬ (-1 : Int) ≥ 0 := by omega
      have hl : lookQ q s = (0, 0, ()) := by
        unfold lookQ endR
        rw [if_neg (fun h => hno h.2), if_pos ⟨by omega, hend⟩]
      rw [decide_eq_false hz, cond_false, bif_neg hh, hl, if_pos rfl, if_neg hno, List.append_nil]
      exact make_out n hn neg _ (tw_digs _) hA 0
  · rw [if_neg hend]
    by_cases hpt : (s.drop (p1q q s)).head? = some 46
    · by_cases hz : (tw (s.drop q)).length = 0
      · have hl : lookQ q s = (14, (p1q q s : Int), ()) := by
          unfold lookQ endR
          rw [if_neg (fun h => by have := h.1; omega), if_neg (fun h => hend h.2), if_neg hend]
        rw [if_neg (by simp [hz])]
        exact look _ hl (by show ¬ (14 : Int) = 0; decide)
      · rw [if_pos ⟨hpt, by simp [hz]⟩]
        have hpp : q < p1q q s ∧ (s.drop (p1q q s)).head? = some 46 := ⟨by omega, hpt⟩
        by_cases h3 : p3q q s = s.length
        · rw [if_pos h3]
          by_cases hb : (tw (s.drop (p1q q s + 1))).length = 0
          · have hl : lookQ q s = (11, (s.length : Int), ()) := by
              unfold lookQ endR
              rw [if_pos hpp, if_neg (fun h => by have := h.1; omega), if_pos h3, h3]
            rw [decide_eq_true hb, cond_true]
            exact look _ hl (by show ¬ (11 : Int) = 0; decide)
          · have hl : lookQ q s = (0, 0, ()) := by
              unfold lookQ endR
              rw [if_pos hpp, if_pos ⟨by omega, h3⟩]
            rw [decide_eq_false hb, cond_false, bif_pos (by omega), hl, if_pos rfl, if_pos hpt]
            have hw : IntKind.wrap .i64 (((tw (s.drop q)).length : Int) - ((tw (s.drop q) ++ tw (s.drop (p1q q s + 1))).length : Int)) = -(((tw (s.drop (p1q q s + 1))).length : Nat) : Int) := by
              rw [List.length_append, wrap_in (by omega)]; omega
            rw [hw]
            exact make_out n hn neg _ (digs_append.2 ⟨tw_digs _, tw_digs _⟩) (by rw [List.length_append]; exact hAB) _
        · have hl : lookQ q s = (14, (p3q q s : Int), ()) := by
            unfold lookQ endR
            rw [if_pos hpp, if_neg (fun h => h3 h.2), if_neg h3]
          rw [if_neg h3]
          exact look _ hl (by show ¬ (14 : Int) = 0; decide)
    · have hl : lookQ q s = (14, (p1q q s : Int), ()) := by
        unfold lookQ endR
        rw [if_neg (fun h => hpt h.2), if_neg (fun h => hend h.2), if_neg hend]
      rw [if_neg (fun h => hpt h.1)]
      exact look _ hl (by show ¬ (14 : Int) = 0; decide)
theorem refparse_eq (n : Nat) (hn : 200000 ≤ n) (s : List UInt8) (hs : s.length ≤ 10000) : F.ref03_Parse n s = some (parseR s) := by
  unfold F.ref03_Parse
  cases s with
  | nil => exact refparse_core n hn [] hs false 0 (by simp)
  | cons b s =>
    have ei : idx (b :: s) (0 : Int) = some b := rfl
    rw [bif_pos (by simp), ei, some_bind']
    by_cases h : b = 45
    · subst h
      have e2 : ((((45 : UInt8).toNat : Nat) : Int) == 45) = true := rfl
      rw [e2, cond_true]
      exact refparse_core n hn (45 :: s) hs true 1 (by simp)
    · have e2 : ((b.toNat : Int) == 45) = false := by
        have : ¬ (b.toNat : Int) = 45 := fun hh => h (u8_ext (by simp; omega))
        simpa using this
      rw [e2, cond_false]
      have hp : p0 (b :: s) = 0 := by unfold p0; rw [if_neg (by simpa using h)]
      have hneg : negD (b :: s) = false := by unfold negD; simpa using h
      have := refparse_core n hn (b :: s) hs false 0 (by simp)
      refine this.trans ?_
      unfold parseR lookR behindD aheadD
      rw [hp, hneg]
end Go.AM
set_option linter.unusedVariables false
set_option linter.unusedSimpArgs false
namespace Go.AM
abbrev DecL := Bool × Int × Int
abbrev TagL := List UInt8 × List UInt8
def DecLOK (d : DecL) : Prop := True ∧ (0 ≤ d.2.1 ∧ d.2.1 ≤ 18446744073709551615) ∧ -9223372036854775808 ≤ d.2.2 ∧ d.2.2 ≤ 9223372036854775807
def decC (d : DecL) : Int := checkR d.1 d.2.1.toNat d.2.2
theorem decL_nat {d : DecL} (h : DecLOK d) : ∃ (neg : Bool) (c : Nat) (e : Int), d = (neg, (c : Int), e) ∧ c < two64 ∧ -9223372036854775808 ≤ e ∧ e ≤ 9223372036854775807 := by
  obtain ⟨neg, c, e⟩ := d
  obtain ⟨_, ⟨h1, h2⟩, h3, h4⟩ := h
  simp only at h1 h2 h3 h4
  refine ⟨neg, c.toNat, e, ?_, ?_, h3, h4⟩
  · rw [show ((c.toNat : Nat) : Int) = c from by omega]
  · rw [two64_eq]; omega
theorem decC_chk (n : Nat) (hn : 100 ≤ n) {d : DecL} (h : DecLOK d) : F.dec_Check n (d.1, d.2.1, d.2.2, ()) = some (decC d) := by
  obtain ⟨neg, c, e, rfl, hc, he⟩ := decL_nat h
  exact check_eq n hn neg c hc e he
def nameOK (s : List UInt8) : Bool := (textF 1 s 1 200).1 == 0
def tagGood (t : TagL) : Bool := ((textF 2 t.1 1 64).1 == 0) && ((textF 3 t.2 0 100).1 == 0)
theorem textF_both (c : Int) (s : List UInt8) (lo hi : Int) : (((textF c s lo hi).1 == 0) && ((textF c s lo hi).2.1 == 0)) = ((textF c s lo hi).1 == 0) := by
  by_cases h : (textF c s lo hi).1 = 0
  · rw [h, textF_at h]; rfl
  · rw [beq_eq_false_iff_ne.2 h]; rfl
theorem text4_ref (n : Nat) (hn : 100 ≤ n) (c : Int) (s : List UInt8) (lo hi : Int) (hm : may c = true) (hlo : 0 ≤ lo) (hhi : lo ≤ hi) (hs : s.length < 4611686018427387904) (hl : s.length < n) : F.ref04_Text n c s lo hi = some (textF c s lo hi) := by
  unfold F.ref04_Text textF
  rw [bad_ref n hn c s hs hl, some_bind', if_neg (by simp [hm]; omega)]
  by_cases h3 : (s.length : Int) < lo
  · rw [bif_pos h3, if_pos h3]
  · rw [bif_neg h3, if_neg h3]
    by_cases h4 : (s.length : Int) > hi
    · rw [bif_pos h4, if_pos h4]
    · rw [bif_neg h4, if_neg h4]
      by_cases h5 : 0 ≤ badK (cls c) 0 s
      · rw [bif_pos (by omega), if_pos h5]
      · rw [bif_neg (by omega), if_neg h5]
def TagLOK (t : TagL) : Prop := t.1.length ≤ 10000 ∧ t.2.length ≤ 10000
theorem tag_chk (n : Nat) (hn : 200000 ≤ n) {t : TagL} (h : TagLOK t) : F.tag_Check n (t.1, t.2, ()) = some (bif tagGood t then 0 else 19) := by
  obtain ⟨h1, h2⟩ := h
  unfold F.tag_Check tagGood
  simp only [text_cls n 2 t.1 1 64 (by omega) (by omega), text_cls n 3 t.2 0 100 (by omega) (by omega), some_bind', textF_both]
  cases ((textF 2 t.1 1 64).1 == 0) <;> cases ((textF 3 t.2 0 100).1 == 0) <;> rfl
def kindB (k : Int) : Bool := decide (1 ≤ k) && decide (k ≤ 5)
def valsB (vs : List DecL) : Bool := decide (1 ≤ vs.length) && (decide (vs.length ≤ 64) && vs.all fun d => decC d == 0)
def rateB (k r : Int) : Bool := decide (1 ≤ r) && (decide (r ≤ 1000000) && (!(k == 2) || r == 1000000))
def tagsB (ts : List TagL) : Bool := decide (ts.length ≤ 32) && ts.all tagGood
def timeB (t : Int) : Bool := decide (0 ≤ t) && decide (t ≤ 1099511627776)
def chkM (m : MetD) : Int :=
  bif !nameOK m.1 then 15 else bif !kindB m.2.1 then 16 else bif !valsB m.2.2.1 then 17 else bif !rateB m.2.1 m.2.2.2.1 then 18 else bif !tagsB m.2.2.2.2.1 then 19 else bif !timeB m.2.2.2.2.2.1 then 20 else 0
def MetOK (m : MetD) : Prop := m.1.length ≤ 10000 ∧ (m.2.2.1.length ≤ 10000 ∧ ∀ d ∈ m.2.2.1, DecLOK d) ∧ (m.2.2.2.2.1.length ≤ 10000 ∧ ∀ t ∈ m.2.2.2.2.1, TagLOK t)
theorem vals_loop (n : Nat) (hn : 200000 ≤ n) (k0 : List UInt8 → Int → List DecL → Int → List TagL → Int → Option Bool) (kr : Int → List UInt8 → Int → List DecL → Int → List TagL → Int → Option Bool) (h0 : ∀ a b c d e f, k0 a b c d e f = some true) (hr : ∀ i a b c d e f, 0 ≤ i → kr i a b c d e f = some false) (vs : List DecL) (hs : vs.length ≤ 10000) (hok : ∀ d ∈ vs, DecLOK d) (b0 : List UInt8) (b1 : Int) (b2 : List DecL) (b3 : Int) (b4 : List TagL) (b5 : Int) : ∀ (r : List DecL) (k m : Nat), vs.drop k = r → r.length < m →
    F.metric_look_values.L2_slices_IndexFunc_api_Dec_api_Dec n k0 kr m vs (vs.length : Int) (k : Int) b0 b1 b2 b3 b4 b5 = some (r.all fun d => decC d == 0) := by
  intro r
  induction r with
  | nil =>
    intro k m hk hm
    have := drop_nil' hk
    cases m with
    | zero => simp at hm
    | succ m =>
      show F.metric_look_values.L2_slices_IndexFunc_api_Dec_api_Dec.step n _ k0 kr vs _ _ _ _ _ _ _ _ = _
      unfold F.metric_look_values.L2_slices_IndexFunc_api_Dec_api_Dec.step
      rw [bif_neg (by omega), h0]
      rfl
  | cons x r ih =>
    intro k m hk hm
    obtain ⟨h1, h2, h3⟩ := drop_cons hk
    have hx : DecLOK x := hok x (List.mem_of_getElem? h2)
    cases m with
    | zero => simp at hm
    | succ m =>
      show F.metric_look_values.L2_slices_IndexFunc_api_Dec_api_Dec.step n (F.metric_look_values.L2_slices_IndexFunc_api_Dec_api_Dec n k0 kr m) k0 kr vs _ _ _ _ _ _ _ _ = _
      unfold F.metric_look_values.L2_slices_IndexFunc_api_Dec_api_Dec.step F.metric_look_values_1
      rw [bif_pos (by omega), idx_nat, h2]
      simp only [some_bind', decC_chk n (by omega) hx, List.all_cons]
      by_cases h : decC x = 0
      · rw [h, wrap_succ (by omega), ih (k + 1) m h3 (by simp at hm; omega)]; rfl
      · rw [beq_eq_false_iff_ne.2 h]
        simp [hr]
theorem tags_loop (n : Nat) (hn : 200000 ≤ n) (k0 : List UInt8 → Int → List DecL → Int → List TagL → Int → Option Bool) (kr : Int → List UInt8 → Int → List DecL → Int → List TagL → Int → Option Bool) (h0 : ∀ a b c d e f, k0 a b c d e f = some true) (hr : ∀ i a b c d e f, 0 ≤ i → kr i a b c d e f = some false) (vs : List TagL) (hs : vs.length ≤ 10000) (hok : ∀ d ∈ vs, TagLOK d) (b0 : List UInt8) (b1 : Int) (b2 : List DecL) (b3 : Int) (b4 : List TagL) (b5 : Int) : ∀ (r : List TagL) (k m : Nat), vs.drop k = r → r.length < m →
    F.metric_look_tags.L2_slices_IndexFunc_api_Tag_api_Tag n k0 kr m vs (vs.length : Int) (k : Int) b0 b1 b2 b3 b4 b5 = some (r.all tagGood) := by
  intro r
  induction r with
  | nil =>
    intro k m hk hm
    have := drop_nil' hk
    cases m with
    | zero => simp at hm
    | succ m =>
      show F.metric_look_tags.L2_slices_IndexFunc_api_Tag_api_Tag.step n _ k0 kr vs _ _ _ _ _ _ _ _ = _
      unfold F.metric_look_tags.L2_slices_IndexFunc_api_Tag_api_Tag.step
      rw [bif_neg (by omega), h0]
      rfl
  | cons x r ih =>
    intro k m hk hm
    obtain ⟨h1, h2, h3⟩ := drop_cons hk
    have hx : TagLOK x := hok x (List.mem_of_getElem? h2)
    cases m with
    | zero => simp at hm
    | succ m =>
      show F.metric_look_tags.L2_slices_IndexFunc_api_Tag_api_Tag.step n (F.metric_look_tags.L2_slices_IndexFunc_api_Tag_api_Tag n k0 kr m) k0 kr vs _ _ _ _ _ _ _ _ = _
      unfold F.metric_look_tags.L2_slices_IndexFunc_api_Tag_api_Tag.step F.metric_look_tags_1
      rw [bif_pos (by omega), idx_nat, h2]
      simp only [some_bind', tag_chk n hn hx, List.all_cons]
      cases h : tagGood x
      · simp [hr]
      · rw [wrap_succ (by omega), ih (k + 1) m h3 (by simp at hm; omega)]; rfl
theorem mbetween_eq (n : Nat) (x lo hi : Int) : F.metric_between n x lo hi = some (decide (lo ≤ x) && decide (x ≤ hi)) := by
  unfold F.metric_between
  by_cases h : lo ≤ x
  · rw [bif_pos (by omega), decide_eq_true h]; rfl
  · rw [bif_neg (by omega), decide_eq_false h]; rfl
theorem look_name (n : Nat) (m : MetD) (h : m.1.length ≤ 10000) (hn : 200000 ≤ n) : F.metric_look_name n m = some (nameOK m.1) := by
  unfold F.metric_look_name nameOK
  rw [text_cls n 1 m.1 1 200 (by omega) (by omega), some_bind', textF_both]
theorem look_kind (n : Nat) (m : MetD) : F.metric_look_kind n m = some (kindB m.2.1) := by
  unfold F.metric_look_kind kindB
  rw [mbetween_eq]; rfl
theorem look_values (n : Nat) (hn : 200000 ≤ n) (m : MetD) (hm : MetOK m) : F.metric_look_values n m = some (valsB m.2.2.1) := by
  unfold F.metric_look_values valsB
  have L := vals_loop n hn (fun _ _ _ _ _ _ => some true) (fun e _ _ _ _ _ _ => some (!(decide (e ≥ (0 : Int))))) (fun _ _ _ _ _ _ => rfl) (fun i _ _ _ _ _ _ h => by simp [h]) _ hm.2.1.1 hm.2.1.2 m.1 m.2.1 m.2.2.1 m.2.2.2.1 m.2.2.2.2.1 m.2.2.2.2.2.1 m.2.2.1 0 n rfl (by have := hm.2.1.1; omega)
  rw [show ((0 : Nat) : Int) = (0 : Int) from rfl] at L
  rw [mbetween_eq, some_bind', L]
  have e1 : decide ((1 : Int) ≤ (m.2.2.1.length : Int)) = decide (1 ≤ m.2.2.1.length) := by apply decide_eq_decide.2; omega
  have e2 : decide ((m.2.2.1.length : Int) ≤ 64) = decide (m.2.2.1.length ≤ 64) := by apply decide_eq_decide.2; omega
  rw [e1, e2]
  cases decide (1 ≤ m.2.2.1.length) <;> cases decide (m.2.2.1.length ≤ 64) <;> rfl
theorem look_rate (n : Nat) (m : MetD) : F.metric_look_rate n m = some (rateB m.2.1 m.2.2.2.1) := by
  unfold F.metric_look_rate rateB
  rw [mbetween_eq, some_bind']
  cases decide ((1 : Int) ≤ m.2.2.2.1) <;> cases decide (m.2.2.2.1 ≤ 1000000) <;> cases (m.2.1 == 2) <;> rfl
theorem look_tags (n : Nat) (hn : 200000 ≤ n) (m : MetD) (hm : MetOK m) : F.metric_look_tags n m = some (tagsB m.2.2.2.2.1) := by
  unfold F.metric_look_tags tagsB
  have L := tags_loop n hn (fun _ _ _ _ _ _ => some true) (fun e _ _ _ _ _ _ => some (!(decide (e ≥ (0 : Int))))) (fun _ _ _ _ _ _ => rfl) (fun i _ _ _ _ _ _ h => by simp [h]) _ hm.2.2.1 hm.2.2.2 m.1 m.2.1 m.2.2.1 m.2.2.2.1 m.2.2.2.2.1 m.2.2.2.2.2.1 m.2.2.2.2.1 0 n rfl (by have := hm.2.2.1; omega)
  rw [show ((0 : Nat) : Int) = (0 : Int) from rfl] at L
  rw [L]
  have e2 : decide ((m.2.2.2.2.1.length : Int) ≤ 32) = decide (m.2.2.2.2.1.length ≤ 32) := by apply decide_eq_decide.2; omega
  rw [e2]
  cases decide (m.2.2.2.2.1.length ≤ 32) <;> rfl
theorem look_time (n : Nat) (m : MetD) : F.metric_look_time n m = some (timeB m.2.2.2.2.2.1) := by
  unfold F.metric_look_time timeB
  rw [mbetween_eq]; rfl
theorem metcheck_eq (n : Nat) (hn : 200000 ≤ n) (m : MetD) (hm : MetOK m) : F.metric_Check n m = some (chkM m) := by
  unfold F.metric_Check
  obtain ⟨q, hq⟩ : ∃ q, n = q + 7 := ⟨n - 7, by omega⟩
  have l1 := look_name n m hm.1 hn
  have l2 := look_kind n m
  have l3 := look_values n hn m hm
  have l4 := look_rate n m
  have l5 := look_tags n hn m hm
  have l6 := look_time n m
  obtain ⟨nm, k, vs, r, ts, t, _⟩ := m
  simp only at l1 l2 l3 l4 l5 l6
  have key : ∀ (X : Type) (k0 : (List UInt8) → Int → (List DecL) → Int → (List TagL) → Int → (List UInt8) → Int → (List DecL) → Int → (List TagL) → Int → Option X) (kr : Int → (List UInt8) → Int → (List DecL) → Int → (List TagL) → Int → (List UInt8) → Int → (List DecL) → Int → (List TagL) → Int → Option X),
      F.metric_Check.L3 n k0 kr (q + 7) ((((nm, k, vs, r, ts, t, ()), ()), (())), (15 : Int), (((nm, k, vs, r, ts, t, ()), ()), (())), (16 : Int), (((nm, k, vs, r, ts, t, ()), ()), (())), (17 : Int), (((nm, k, vs, r, ts, t, ()), ()), (())), (18 : Int), (((nm, k, vs, r, ts, t, ()), ()), (())), (19 : Int), (((nm, k, vs, r, ts, t, ()), ()), (())), (20 : Int), ()) 0 nm k vs r ts t nm k vs r ts t =
      (bif !nameOK nm then kr 15 nm k vs r ts t nm k vs r ts t else bif !kindB k then kr 16 nm k vs r ts t nm k vs r ts t else bif !valsB vs then kr 17 nm k vs r ts t nm k vs r ts t else bif !rateB k r then kr 18 nm k vs r ts t nm k vs r ts t
        else bif !tagsB ts then kr 19 nm k vs r ts t nm k vs r ts t else bif !timeB t then kr 20 nm k vs r ts t nm k vs r ts t else k0 nm k vs r ts t nm k vs r ts t) := by
    intro X k0 kr
    refine Eq.trans (b := (F.metric_look_name n (nm, k, vs, r, ts, t, ())).bind fun y => bif !y then kr 15 nm k vs r ts t nm k vs r ts t else
      (F.metric_look_kind n (nm, k, vs, r, ts, t, ())).bind fun y => bif !y then kr 16 nm k vs r ts t nm k vs r ts t else
      (F.metric_look_values n (nm, k, vs, r, ts, t, ())).bind fun y => bif !y then kr 17 nm k vs r ts t nm k vs r ts t else
      (F.metric_look_rate n (nm, k, vs, r, ts, t, ())).bind fun y => bif !y then kr 18 nm k vs r ts t nm k vs r ts t else
      (F.metric_look_tags n (nm, k, vs, r, ts, t, ())).bind fun y => bif !y then kr 19 nm k vs r ts t nm k vs r ts t else
      (F.metric_look_time n (nm, k, vs, r, ts, t, ())).bind fun y => bif !y then kr 20 nm k vs r ts t nm k vs r ts t else k0 nm k vs r ts t nm k vs r ts t) (by kernel_rfl) ?_
    rw [l1, l2, l3, l4, l5, l6]
    rfl
  rw [← hq] at key
  rw [key]
  unfold chkM
  simp only [bif_some]
end Go.AM
set_option linter.unusedVariables false
set_option linter.unusedSimpArgs false
namespace Go.AM
theorem decL_beq (x y : DecL) : ((x.1 == y.1) && ((x.2.1 == y.2.1) && (x.2.2 == y.2.2))) = decide (x = y) := by
  obtain ⟨a, b, c⟩ := x
  obtain ⟨a', b', c'⟩ := y
  by_cases h : ((a, b, c) : DecL) = (a', b', c')
  · rw [decide_eq_true h]
    simp only [Prod.mk.injEq] at h
    simp [h.1, h.2.1, h.2.2]
  · rw [decide_eq_false h]
    cases h1 : (a == a') && ((b == b') && (c == c')) with
    | false => rfl
    | true =>
      simp only [Bool.and_eq_true, beq_iff_eq] at h1
      exact absurd (by rw [h1.1, h1.2.1, h1.2.2]) h
theorem tagL_beq (x y : TagL) : ((x.1 == y.1) && (x.2 == y.2)) = decide (x = y) := by
  obtain ⟨a, b⟩ := x
  obtain ⟨a', b'⟩ := y
  by_cases h : ((a, b) : TagL) = (a', b')
  · rw [decide_eq_true h]
    simp only [Prod.mk.injEq] at h
    simp [h.1, h.2]
  · rw [decide_eq_false h]
    cases h1 : (a == a') && (b == b') with
    | false => rfl
    | true =>
      simp only [Bool.and_eq_true, beq_iff_eq] at h1
      exact absurd (by rw [h1.1, h1.2]) h
theorem refeq_decs (n : Nat) (X : Type) (k0 : List UInt8 → Int → List DecL → Int → List TagL → Int → List UInt8 → Int → List DecL → Int → List TagL → Int → Option X) (kr : Bool → List UInt8 → Int → List DecL → Int → List TagL → Int → List UInt8 → Int → List DecL → Int → List TagL → Int → Option X) (nm : List UInt8) (k : Int) (vs : List DecL) (r : Int) (ts : List TagL) (t : Int) (hs : vs.length ≤ 10000) : ∀ (j i m : Nat), i + j = vs.length → j < m →
    F.ref07_Equal.L4 n k0 kr m (i : Int) nm k vs r ts t nm k vs r ts t = k0 nm k vs r ts t nm k vs r ts t := by
  intro j
  induction j with
  | zero =>
    intro i m hi hm
    obtain ⟨m, rfl⟩ : ∃ q, m = q + 1 := ⟨m - 1, by omega⟩
    show F.ref07_Equal.L4.step n (F.ref07_Equal.L4 n k0 kr m) k0 kr _ _ _ _ _ _ _ _ _ _ _ _ _ = _
    unfold F.ref07_Equal.L4.step
    rw [bif_neg (by omega)]
  | succ j ih =>
    intro i m hi hm
    obtain ⟨m, rfl⟩ : ∃ q, m = q + 1 := ⟨m - 1, by omega⟩
    show F.ref07_Equal.L4.step n (F.ref07_Equal.L4 n k0 kr m) k0 kr _ _ _ _ _ _ _ _ _ _ _ _ _ = _
    unfold F.ref07_Equal.L4.step
    rw [bif_pos (by omega), idx_lt (by omega : i < vs.length), some_bind', some_bind', decL_beq, decide_eq_true rfl, Bool.not_true, cond_false, wrap_succ (by omega), ih (i + 1) m (by omega) (by omega)]
theorem refeq_tags (n : Nat) (X : Type) (k0 : List UInt8 → Int → List DecL → Int → List TagL → Int → List UInt8 → Int → List DecL → Int → List TagL → Int → Option X) (kr : Bool → List UInt8 → Int → List DecL → Int → List TagL → Int → List UInt8 → Int → List DecL → Int → List TagL → Int → Option X) (nm : List UInt8) (k : Int) (vs : List DecL) (r : Int) (ts : List TagL) (t : Int) (hs : ts.length ≤ 10000) : ∀ (j i m : Nat), i + j = ts.length → j < m →
    F.ref07_Equal.L9 n k0 kr m (i : Int) nm k vs r ts t nm k vs r ts t = k0 nm k vs r ts t nm k vs r ts t := by
  intro j
  induction j with
  | zero =>
    intro i m hi hm
    obtain ⟨m, rfl⟩ : ∃ q, m = q + 1 := ⟨m - 1, by omega⟩
    show F.ref07_Equal.L9.step n (F.ref07_Equal.L9 n k0 kr m) k0 kr _ _ _ _ _ _ _ _ _ _ _ _ _ = _
    unfold F.ref07_Equal.L9.step
    rw [bif_neg (by omega)]
  | succ j ih =>
    intro i m hi hm
    obtain ⟨m, rfl⟩ : ∃ q, m = q + 1 := ⟨m - 1, by omega⟩
    show F.ref07_Equal.L9.step n (F.ref07_Equal.L9 n k0 kr m) k0 kr _ _ _ _ _ _ _ _ _ _ _ _ _ = _
    unfold F.ref07_Equal.L9.step
    rw [bif_pos (by omega), idx_lt (by omega : i < ts.length), some_bind', some_bind', tagL_beq, decide_eq_true rfl, Bool.not_true, cond_false, wrap_succ (by omega), ih (i + 1) m (by omega) (by omega)]
theorem refequal_refl (n : Nat) (hn : 200000 ≤ n) (a : MetD) (h1 : a.2.2.1.length ≤ 10000) (h2 : a.2.2.2.2.1.length ≤ 10000) : F.ref07_Equal n a a = some true := by
  obtain ⟨nm, k, vs, r, ts, t, _⟩ := a
  simp only at h1 h2
  unfold F.ref07_Equal
  simp only [beq_self_eq_true, Bool.not_true, cond_false]
  refine (refeq_decs n Bool _ _ nm k vs r ts t h1 vs.length 0 n (by omega) (by omega)).trans ?_
  exact refeq_tags n Bool _ _ nm k vs r ts t h2 ts.length 0 n (by omega) (by omega)
end Go.AM
set_option linter.unusedVariables false
set_option linter.unusedSimpArgs false
namespace Go.AM
theorem ahead_end (n : Nat) (X : Type) (k0 : List UInt8 → List UInt8 → Option X) (kr : Bool → Option X) (a b : List UInt8) (k m : Nat) (h : a.length ≤ k ∨ b.length ≤ k) (hm : 0 < m) : F.ref06_Ahead.L2 n k0 kr m a b (k : Int) = k0 a b := by
  obtain ⟨m, rfl⟩ : ∃ p, m = p + 1 := ⟨m - 1, by omega⟩
  show F.ref06_Ahead.L2.step n (F.ref06_Ahead.L2 n k0 kr m) k0 kr _ _ _ = _
  unfold F.ref06_Ahead.L2.step
  by_cases hk : (k : Int) < (a.length : Int)
  · rw [bif_pos hk, bif_neg (by omega)]
  · rw [bif_neg hk]
theorem ahead_eq (n : Nat) (a b : List UInt8) (ha : a.length ≤ 1000000) (hb : b.length ≤ 1000000) (hn : a.length < n) : F.ref06_Ahead n a b = some (Op.bytesLess a b) := by
  have L : ∀ (r q : List UInt8) (k m : Nat), a.drop k = r → b.drop k = q → k ≤ a.length → k ≤ b.length → r.length < m →
      F.ref06_Ahead.L2 n (fun e5_0 e5_1 => some (decide ((e5_0.length : Int) < (e5_1.length : Int)))) (fun e6_4 => some (e6_4)) m a b (k : Int) = some (Op.bytesLess r q) := by
    intro r
    induction r with
    | nil =>
      intro q k m h1 h2 ka kb hm
      have l1 := drop_nil' h1
      rw [ahead_end n Bool _ _ a b k m (Or.inl l1) (by omega)]
      cases q with
      | nil =>
        have l2 := drop_nil' h2
        show some (decide _) = some false
        by_cases hk : a.length < b.length
        · omega
        · rw [decide_eq_false (by omega)]
      | cons y q =>
        obtain ⟨l2, _, _⟩ := drop_cons h2
        show some (decide _) = some true
        rw [decide_eq_true (by omega)]
    | cons x r ih =>
      intro q k m h1 h2 ka kb hm
      obtain ⟨l1, g1, t1⟩ := drop_cons h1
      cases q with
      | nil =>
        have l2 := drop_nil' h2
        rw [ahead_end n Bool _ _ a b k m (Or.inr l2) (by omega)]
        show some (decide _) = some false
        rw [decide_eq_false (by omega)]
      | cons y q =>
        obtain ⟨l2, g2, t2⟩ := drop_cons h2
        obtain ⟨m, rfl⟩ : ∃ p, m = p + 1 := ⟨m - 1, by simp at hm; omega⟩
        rw [F.ref06_Ahead.L2]
        unfold F.ref06_Ahead.L2.step
        dsimp only
        rw [bif_pos (by omega), bif_pos (by omega), idx_nat, idx_nat, g1, g2]
        simp only [some_bind', blc]
        by_cases e : x = y
        · subst e
          rw [beq_self_eq_true, Bool.not_true, cond_false, wrap_succ (by omega), ih q (k + 1) m t1 t2 (by omega) (by omega) (by simp at hm; omega)]
          have hx : ¬ x < x := by rw [u8_lt]; omega
          rw [decide_eq_false hx]; simp
        · have e' : ¬ ((x.toNat : Int)) = (y.toNat : Int) := fun h => e (u8_eq.2 (by omega))
          rw [beq_eq_false_iff_ne.2 e', Bool.not_false, cond_true, beq_eq_false_iff_ne.2 e]
          simp only [Bool.false_and, Bool.or_false, Option.some.injEq]
          apply decide_eq_decide.2
          rw [u8_lt]; omega
  unfold F.ref06_Ahead
  exact L a b 0 n rfl rfl (by omega) (by omega) hn
theorem less_eq (n : Nat) (a b : TagL) (ha : TagLOK a) (hb : TagLOK b) (hn : 200000 ≤ n) : F.ref06_Less n (a.1, a.2, ()) (b.1, b.2, ()) = some (ltT a b) := by
  unfold F.ref06_Less ltT
  simp only
  rw [ahead_eq n a.1 b.1 (by have := ha.1; omega) (by have := hb.1; omega) (by have := ha.1; omega), ahead_eq n a.2 b.2 (by have := ha.2; omega) (by have := hb.2; omega) (by have := ha.2; omega)]
  simp only [some_bind']
  by_cases e : a.1 = b.1
  · rw [if_pos e, e, bl_irrefl, beq_self_eq_true]; rfl
  · rw [if_neg e, beq_eq_false_iff_ne.2 e]
    cases Op.bytesLess a.1 b.1 <;> rfl
def insD (t : TagL) : List TagL → List TagL
  | [] => [t]
  | x :: r => if ltT x t then x :: insD t r else if x = t then x :: r else t :: x :: r
def normT (l : List TagL) : List TagL := l.foldl (fun o t => insD t o) []
abbrev StrictT (l : List TagL) : Prop := l.Pairwise fun a b => ltT a b = true
theorem insD_mem (t : TagL) : ∀ (l : List TagL) (x : TagL), x ∈ insD t l ↔ x = t ∨ x ∈ l
  | [], x => by simp [insD]
  | y :: r, x => by
    unfold insD
    split
    · simp only [List.mem_cons, insD_mem t r x]
      constructor
      · rintro (h | h | h) <;> simp [h]
      · rintro (h | h | h) <;> simp [h]
    · split
      · rename_i e
        subst e
        simp only [List.mem_cons]
        constructor
        · rintro (h | h) <;> simp [h]
        · rintro (h | h | h) <;> simp [h]
      · simp only [List.mem_cons]
theorem insD_strict (t : TagL) : ∀ (l : List TagL), StrictT l → StrictT (insD t l)
  | [], _ => by simp [insD, StrictT]
  | y :: r, h => by
    obtain ⟨h1, h2⟩ := List.pairwise_cons.1 h
    unfold insD
    split
    · rename_i hy
      refine List.pairwise_cons.2 ⟨fun x hx => ?_, insD_strict t r h2⟩
      rcases (insD_mem t r x).1 hx with rfl | hx
      · exact hy
      · exact h1 x hx
    · rename_i hy
      split
      · exact h
      · rename_i hne
        have hty : ltT t y = true := by
          cases hc : ltT t y
          · exact absurd (ltT_total (by simpa using hy) hc) hne
          · rfl
        refine List.pairwise_cons.2 ⟨fun x hx => ?_, h⟩
        rcases List.mem_cons.1 hx with rfl | hx
        · exact hty
        · exact ltT_trans hty (h1 x hx)
theorem strict_unique : ∀ (a b : List TagL), StrictT a → StrictT b → (∀ x, x ∈ a ↔ x ∈ b) → a = b
  | [], [], _, _, _ => rfl
  | [], y :: b, _, _, h => by have := (h y).2 (by simp); cases this
  | x :: a, [], _, _, h => by have := (h x).1 (by simp); cases this
  | x :: a, y :: b, ha, hb, h => by
    obtain ⟨h1, h2⟩ := List.pairwise_cons.1 ha
    obtain ⟨h3, h4⟩ := List.pairwise_cons.1 hb
    have e : x = y := by
      rcases List.mem_cons.1 ((h x).1 (by simp)) with e | e
      · exact e
      · rcases List.mem_cons.1 ((h y).2 (by simp)) with e' | e'
        · exact e'.symm
        · have := ltT_asymm (h1 y e'); rw [h3 x e] at this; cases this
    subst e
    rw [strict_unique a b h2 h4 (fun z => ?_)]
    have hx := h z
    simp only [List.mem_cons] at hx
    constructor
    · intro hz
      rcases hx.1 (Or.inr hz) with rfl | h'
      · have := h1 _ hz; rw [ltT_irrefl] at this; cases this
      · exact h'
    · intro hz
      rcases hx.2 (Or.inr hz) with rfl | h'
      · have := h3 _ hz; rw [ltT_irrefl] at this; cases this
      · exact h'
theorem normT_fold : ∀ (l o : List TagL), StrictT o → StrictT (l.foldl (fun o t => insD t o) o) ∧ ∀ x, x ∈ l.foldl (fun o t => insD t o) o ↔ x ∈ o ∨ x ∈ l
  | [], o, h => ⟨h, fun x => by simp⟩
  | t :: l, o, h => by
    obtain ⟨h1, h2⟩ := normT_fold l (insD t o) (insD_strict t o h)
    refine ⟨h1, fun x => ?_⟩
    rw [List.foldl_cons, h2 x, insD_mem, List.mem_cons]
    constructor
    · rintro ((h | h) | h) <;> simp [h]
    · rintro (h | h | h) <;> simp [h]
theorem normT_strict (l : List TagL) : StrictT (normT l) := (normT_fold l [] List.Pairwise.nil).1
theorem normT_mem (l : List TagL) (x : TagL) : x ∈ normT l ↔ x ∈ l := by
  unfold normT; rw [(normT_fold l [] List.Pairwise.nil).2 x]; simp
theorem normT_id {l : List TagL} (h : StrictT l) : normT l = l :=
  strict_unique _ _ (normT_strict l) h (fun x => normT_mem l x)
theorem insD_len (t : TagL) : ∀ l, (insD t l).length ≤ l.length + 1
  | [] => by simp [insD]
  | y :: r => by
    unfold insD
    have := insD_len t r
    split
    · simp; omega
    · split <;> simp
theorem normT_len (l : List TagL) : (normT l).length ≤ l.length := by
  have : ∀ (l o : List TagL), (l.foldl (fun o t => insD t o) o).length ≤ o.length + l.length := by
    intro l
    induction l with
    | nil => intro o; simp
    | cons t l ih => intro o; have h1 := ih (insD t o); have h2 := insD_len t o; simp only [List.foldl_cons, List.length_cons]; omega
  have h := this l []
  simp only [List.length_nil, Nat.zero_add] at h
  exact h
def dedF (D : List TagL) (t : TagL) : List TagL := if D.getLast? = some t then D else D ++ [t]
theorem dedF_fold : ∀ (s D : List TagL), SortedT s → StrictT D → (∀ a ∈ D, ∀ b ∈ s, ltT b a = false) → StrictT (s.foldl dedF D) ∧ ∀ x, x ∈ s.foldl dedF D ↔ x ∈ D ∨ x ∈ s
  | [], D, _, h, _ => ⟨h, fun x => by simp⟩
  | t :: s, D, hs, hD, hb => by
    obtain ⟨h1, h2⟩ := List.pairwise_cons.1 hs
    have key : StrictT (dedF D t) ∧ (∀ x, x ∈ dedF D t ↔ x ∈ D ∨ x = t) := by
      unfold dedF
      split
      · rename_i e
        have ht : t ∈ D := List.mem_of_getLast? e
        exact ⟨hD, fun x => ⟨Or.inl, fun h => h.elim id (fun e => e ▸ ht)⟩⟩
      · rename_i e
        refine ⟨?_, fun x => by simp⟩
        refine List.pairwise_append.2 ⟨hD, List.pairwise_singleton _ _, fun a ha b hb' => ?_⟩
        rw [List.mem_singleton.1 hb']
        have h0 := hb a ha t (by simp)
        cases hc : ltT a t
        · exfalso
          have : a = t := ltT_total hc h0
          subst this
          apply e
          have : ∀ (D : List TagL), StrictT D → (∀ x ∈ D, ltT a x = false) → a ∈ D → D.getLast? = some a := by
            intro D
            induction D with
            | nil => intro _ _ h; cases h
            | cons y D ih =>
              intro hp hm hin
              obtain ⟨p1, p2⟩ := List.pairwise_cons.1 hp
              cases D with
              | nil => rcases List.mem_cons.1 hin with rfl | h
                       · rfl
                       · cases h
              | cons z D =>
                rw [List.getLast?_cons_cons]
                refine ih p2 (fun x hx => hm x (List.mem_cons_of_mem _ hx)) ?_
                rcases List.mem_cons.1 hin with rfl | h
                · have := p1 z (by simp); rw [hm z (by simp)] at this; cases this
                · exact h
          exact this D hD (fun x hx => hb x hx a (by simp)) ha
        · rfl
    obtain ⟨k1, k2⟩ := key
    obtain ⟨f1, f2⟩ := dedF_fold s (dedF D t) h2 k1 (fun a ha b hb' => by
      rcases (k2 a).1 ha with ha | rfl
      · exact hb a ha b (List.mem_cons_of_mem _ hb')
      · exact h1 b hb')
    refine ⟨f1, fun x => ?_⟩
    rw [List.foldl_cons, f2 x, k2 x, List.mem_cons]
    constructor
    · rintro ((h | h) | h) <;> simp [h]
    · rintro (h | h | h) <;> simp [h]
theorem ded_norm (l : List TagL) : (sortTags l).foldl dedF [] = normT l := by
  obtain ⟨h1, h2⟩ := dedF_fold (sortTags l) [] (sortTags_sorted l) List.Pairwise.nil (fun a ha => by cases ha)
  refine strict_unique _ _ h1 (normT_strict l) (fun x => ?_)
  rw [h2 x, normT_mem, (sortTags_perm l).mem_iff]; simp
theorem upd_set {α : Type} : ∀ (l : List α) (k : Nat) (x : α), upd l k x = l.set k x
  | [], _, _ => rfl
  | _ :: l, 0, _ => rfl
  | _ :: l, k + 1, x => by simp [upd, upd_set l k x]
end Go.AM
set_option linter.unusedVariables false
set_option linter.unusedSimpArgs false
namespace Go.AM
theorem getLast_take {α : Type} {L D : List α} {k : Nat} (h : L.take D.length = D) (hk : D.length = k + 1) : L[k]? = D.getLast? := by
  rw [List.getLast?_eq_getElem?]
  have : D[D.length - 1]? = (L.take D.length)[D.length - 1]? := by rw [h]
  rw [this, hk, List.getElem?_take]
  simp
theorem take_set {α : Type} {L D : List α} (x : α) (h : L.take D.length = D) (hk : D.length < L.length) : (L.set D.length x).take (D ++ [x]).length = D ++ [x] := by
  rw [List.length_append, List.length_singleton, List.take_add_one, List.take_set_of_le (Nat.le_refl _), h]
  simp [hk]
theorem drop_set {α : Type} (L : List α) (i k : Nat) (x : α) (h : i ≤ k) : (L.set i x).drop (k + 1) = L.drop (k + 1) := List.drop_set_of_lt (by omega)
theorem norm_loop (n : Nat) (X : Type) (k0 : (Nat × Nat) → Int → (Nat × List TagL) → (Nat × List TagL) → (Nat × List TagL) → Option X) (v N : Nat) (hN : N ≤ 100000) (b0 b1 : Nat × List TagL) :
    ∀ (r D L : List TagL) (i m : Nat), L.drop i = r → i ≤ N → r.length < m → D.length ≤ i → (i = 0 ↔ D = []) → L.length = N → L.take D.length = D →
    ∃ L', L'.take (r.foldl dedF D).length = r.foldl dedF D ∧ L'.length = N ∧ F.tag_Normal.L5 n k0 m (v, N) (D.length : Int) (v, N) (N : Int) (i : Int) b0 b1 (v, L) = k0 (v, N) ((r.foldl dedF D).length : Int) b0 b1 (v, L') := by
  intro r
  induction r with
  | nil =>
    intro D L i m hr hi hm hD h0 hL hT
    obtain ⟨m, rfl⟩ : ∃ p, m = p + 1 := ⟨m - 1, by omega⟩
    refine ⟨L, hT, hL, ?_⟩
    rw [F.tag_Normal.L5]
    unfold F.tag_Normal.L5.step
    dsimp only
    rw [bif_neg (by have := drop_nil' hr; omega)]
    rfl
  | cons x r ih =>
    intro D L i m hr hi hm hD h0 hL hT
    obtain ⟨m, rfl⟩ : ∃ p, m = p + 1 := ⟨m - 1, by simp at hm; omega⟩
    obtain ⟨l1, g1, t1⟩ := drop_cons hr
    have hw : IntKind.wrap .i64 ((D.length : Int) + 1) = ((D.length + 1 : Nat) : Int) := wrap_succ (by omega)
    have hput : ∃ L', L'.take (r.foldl dedF (D ++ [x])).length = r.foldl dedF (D ++ [x]) ∧ L'.length = N ∧ F.tag_Normal.L5 n k0 m (v, N) (((D ++ [x]).length : Nat) : Int) (v, N) (N : Int) ((i + 1 : Nat) : Int) b0 b1 (v, L.set D.length x) = k0 (v, N) ((r.foldl dedF (D ++ [x])).length : Int) b0 b1 (v, L') :=
      ih (D ++ [x]) (L.set D.length x) (i + 1) m (by rw [drop_set L D.length i x hD]; exact t1) (by omega) (by simp at hm; omega) (by simp; omega) (by simp) (by simpa using hL) (take_set x hT (by omega))
    rw [F.tag_Normal.L5]
    unfold F.tag_Normal.L5.step
    dsimp only
    rw [List.foldl_cons]
    have hb1 : (decide ((0 : Int) ≤ (i : Int)) && decide ((i : Int) < (N : Int))) = true := by simp; omega
    have hb2 : (decide ((0 : Int) ≤ (D.length : Int)) && decide ((D.length : Int) < (N : Int))) = true := by simp; omega
    have hbe : Nat.beq v v = true := Nat.beq_refl v
    rw [bif_pos (by omega : (i : Int) < (N : Int)), hb1, hbe, cond_true, cond_true, idx_nat, g1, some_bind', wrap_succ (by omega : i < 4611686018427387904)]
    by_cases hi0 : i = 0
    · have hD0 := h0.1 hi0
      have e0 : ((i : Int) == 0) = true := by simp [hi0]
      rw [e0, cond_true, hb2, cond_true, cond_true, idx_lt (by omega : D.length < L.length), some_bind', hw, Int.toNat_natCast, upd_set]
      have hd : dedF D x = D ++ [x] := by rw [hD0]; rfl
      rw [hd]
      obtain ⟨L', q1, q2, q3⟩ := hput
      refine ⟨L', q1, q2, ?_⟩
      rw [← q3, List.length_append, List.length_singleton]
    · have e0 : ((i : Int) == 0) = false := by simpa using hi0
      have hne : D ≠ [] := fun h => hi0 (h0.2 h)
      have hpos : 0 < D.length := List.length_pos_iff.2 hne
      have hwp : IntKind.wrap .i64 ((D.length : Int) - 1) = ((D.length - 1 : Nat) : Int) := by rw [wrap_in (by omega)]; omega
      have hb3 : (decide ((0 : Int) ≤ ((D.length - 1 : Nat) : Int)) && decide (((D.length - 1 : Nat) : Int) < (N : Int))) = true := by simp; omega
      obtain ⟨y, hy⟩ : ∃ y, D.getLast? = some y := ⟨_, List.getLast?_eq_some_getLast hne⟩
      have gl : L[D.length - 1]? = some y := by rw [getLast_take hT (by omega), hy]
      rw [e0, cond_false, hwp, hb3, cond_true, cond_true, idx_nat, gl, some_bind', tagL_beq]
      by_cases hxy : x = y
      · rw [decide_eq_true hxy, Bool.not_true, cond_false]
        have hd : dedF D x = D := by unfold dedF; rw [hy, hxy, if_pos rfl]
        rw [hd]
        exact ih D L (i + 1) m t1 (by omega) (by simp at hm; omega) (by omega) (by simp [hne]) hL hT
      · rw [decide_eq_false hxy, Bool.not_false, cond_true, hb2, cond_true, cond_true, idx_lt (by omega : D.length < L.length), some_bind', hw, Int.toNat_natCast, upd_set]
        have hd : dedF D x = D ++ [x] := by unfold dedF; rw [hy, if_neg (by simpa using fun h : y = x => hxy h.symm)]
        rw [hd]
        obtain ⟨L', q1, q2, q3⟩ := hput
        refine ⟨L', q1, q2, ?_⟩
        rw [← q3, List.length_append, List.length_singleton]
theorem clip_eq (n : Nat) (l : List TagL) : F.slices_Clip_api_Tag_api_Tag n l = some l := by
  unfold F.slices_Clip_api_Tag_api_Tag
  rw [beq_self_eq_true, cond_true, show (0 : Int) = ((0 : Nat) : Int) from rfl, sub_nat l 0 l.length (by omega) (by omega)]
  simp
theorem norm_out (n : Nat) (hn : 200000 ≤ n) (l : List TagL) (hl : l.length ≤ 100000) (v : Nat) (b0 b1 : Nat × List TagL) :
    F.tag_Normal.L5 n (fun (e11_3 : Nat × Nat) (e11_4 : Int) (e11_b0_0 e11_b1_0 e11_b2_0 : Nat × List TagL) =>
          bif Nat.beq e11_3.1 e11_b2_0.1 then
            (sub e11_b2_0.2 (0 : Int) e11_4).bind fun x12 =>
              (F.slices_Clip_api_Tag_api_Tag n x12).bind fun y13 =>
                some (y13)
          else
            none) n (v, l.length) (0 : Int) (v, l.length) (l.length : Int) (0 : Int) b0 b1 (v, sortTags l) = some (normT l) := by
  obtain ⟨L', q1, q2, q3⟩ := norm_loop n _ (fun (e11_3 : Nat × Nat) (e11_4 : Int) (e11_b0_0 e11_b1_0 e11_b2_0 : Nat × List TagL) =>
          bif Nat.beq e11_3.1 e11_b2_0.1 then
            (sub e11_b2_0.2 (0 : Int) e11_4).bind fun x12 =>
              (F.slices_Clip_api_Tag_api_Tag n x12).bind fun y13 =>
                some (y13)
          else
            none) v l.length hl b0 b1 (sortTags l) [] (sortTags l) 0 n rfl (by omega) (by rw [sortTags_length]; omega) (by simp) (by simp) (sortTags_length l) rfl
  refine q3.trans ?_
  rw [ded_norm] at q1 ⊢
  dsimp only
  rw [Nat.beq_refl, cond_true, show (0 : Int) = ((0 : Nat) : Int) from rfl, sub_nat L' 0 _ (by omega) (by rw [q2]; exact normT_len l), q1]
  simp only [some_bind', List.drop_zero, clip_eq]
theorem tagNormal_eq (n : Nat) (hn : 200000 ≤ n) (l : List TagL) (hl : l.length ≤ 100000) : F.tag_Normal n l = some (normT l) := by
  have e1 : (decide ((0 + l.length) * 32 ≤ 2 ^ 46) && decide (0 < 32 ∧ 32 ≤ 2 ^ 20)) = true := by
    rw [decide_eq_true (by omega)]; rfl
  have e2 : ∀ l : List TagL, l.length ≤ 100000 → (Nat.beq (sortTags l).length l.length && Nat.blt l.length strMax) = true := by
    intro l hl
    rw [sortTags_length, Nat.beq_refl, Bool.true_and, strMax_eq]
    exact Nat.ble_eq ▸ (by omega : l.length + 1 ≤ 4611686018427387904)
  unfold F.tag_Normal
  rw [List.nil_append, e1, cond_true, e2 l hl, cond_true]
  cases l with
  | nil =>
    have h1 := norm_out n hn [] (by simp) 1 (1, []) (1, [])
    have h2 := norm_out n hn [] (by simp) 2 (1, []) (1, [])
    refine Eq.trans (b := both (some (normT [])) (some (normT []))) ?_ (both_same _)
    rw [List.isEmpty_nil, cond_true]
    congr 1
  | cons t l =>
    exact norm_out n hn (t :: l) hl 2 (1, []) (1, [])
theorem refn_grow {X : Type} {v : List TagL} (h : v.length ≤ 100000) (y : Option X) : (bif decide ((v.length + 1) * 32 ≤ 2 ^ 46) && decide (0 < 32 ∧ 32 ≤ 2 ^ 20) then y else none) = y := by
  rw [decide_eq_true (by omega)]; rfl
theorem ins_true (n : Nat) (X : Type) (k2 : List TagL → Int → List TagL → Bool → Nat → Option X) (l out : List TagL) (i : Int) (hl : out.length ≤ 100000) (vk0 : Nat) : ∀ (r more : List TagL) (k m : Nat), out.drop k = r → r.length < m → more.length + r.length ≤ 50000 →
    F.ref06_Normal.L8 n k2 m l out i more true (k : Int) vk0 more.length = k2 l i (more ++ r) true (more ++ r).length := by
  intro r
  induction r with
  | nil =>
    intro more k m h1 hm hs
    obtain ⟨m, rfl⟩ : ∃ p, m = p + 1 := ⟨m - 1, by omega⟩
    rw [F.ref06_Normal.L8]
    unfold F.ref06_Normal.L8.step
    dsimp only
    rw [bif_neg (by have := drop_nil' h1; omega), List.append_nil]
  | cons x r ih =>
    intro more k m h1 hm hs
    obtain ⟨m, rfl⟩ : ∃ p, m = p + 1 := ⟨m - 1, by simp at hm; omega⟩
    obtain ⟨l1, g1, t1⟩ := drop_cons h1
    simp only [List.length_cons] at hs hm
    rw [F.ref06_Normal.L8]
    unfold F.ref06_Normal.L8.step
    dsimp only
    rw [bif_pos (by omega), Bool.not_true, cond_false, idx_nat, g1, some_bind', refn_grow (by omega), Nat.beq_refl, cond_true, wrap_succ (by omega)]
    rw [ih (more ++ [x]) (k + 1) m t1 (by omega) (by simp; omega)]
    simp
theorem ins_false (n : Nat) (hn : 200000 ≤ n) (X : Type) (k2 : List TagL → Int → List TagL → Bool → Nat → Option X) (l out : List TagL) (i : Nat) (t : TagL) (hi : l[i]? = some t) (ht : TagLOK t) (ho : ∀ x ∈ out, TagLOK x) (hl : out.length ≤ 100000) (vk0 : Nat) : ∀ (r more : List TagL) (k m : Nat), out.drop k = r → r.length < m → more.length + r.length ≤ 40000 →
    ∃ p M, F.ref06_Normal.L8 n k2 m l out (i : Int) more false (k : Int) vk0 more.length = k2 l (i : Int) M p M.length ∧ (bif p then M else M ++ [t]) = more ++ insD t r ∧ M.length ≤ more.length + r.length + 1 := by
  intro r
  induction r with
  | nil =>
    intro more k m h1 hm hs
    obtain ⟨m, rfl⟩ : ∃ p, m = p + 1 := ⟨m - 1, by omega⟩
    refine ⟨false, more, ?_, rfl, by simp⟩
    rw [F.ref06_Normal.L8]
    unfold F.ref06_Normal.L8.step
    dsimp only
    rw [bif_neg (by have := drop_nil' h1; omega)]
  | cons x r ih =>
    intro more k m h1 hm hs
    obtain ⟨m, rfl⟩ : ∃ p, m = p + 1 := ⟨m - 1, by simp at hm; omega⟩
    obtain ⟨l1, g1, t1⟩ := drop_cons h1
    simp only [List.length_cons] at hs hm
    have hx : TagLOK x := ho x (List.mem_of_getElem? g1)
    rw [F.ref06_Normal.L8]
    unfold F.ref06_Normal.L8.step
    dsimp only
    rw [bif_pos (by omega), Bool.not_false, cond_true, idx_nat, idx_nat, g1, hi]
    simp only [some_bind', less_eq n x t hx ht hn]
    cases hlt : ltT x t
    · rw [Bool.not_false, cond_true, tagL_beq, wrap_succ (by omega)]
      unfold insD
      rw [hlt, if_neg (by simp)]
      by_cases e : x = t
      · rw [decide_eq_true e, Bool.not_true, cond_false, refn_grow (by omega), Nat.beq_refl, cond_true, if_pos e]
        refine ⟨true, _, ins_true n X k2 l out i hl vk0 r (more ++ [x]) (k + 1) m t1 (by omega) (by simp; omega), by simp, by simp⟩
      · rw [decide_eq_false e, Bool.not_false, cond_true, refn_grow (by omega), Nat.beq_refl, cond_true, refn_grow (by simp; omega), Nat.beq_refl, cond_true, if_neg e]
        refine ⟨true, _, ins_true n X k2 l out i hl vk0 r ((more ++ [t]) ++ [x]) (k + 1) m t1 (by omega) (by simp; omega), by simp, by simp; omega⟩
    · rw [Bool.not_true, cond_false, refn_grow (by omega), Nat.beq_refl, cond_true, wrap_succ (by omega)]
      obtain ⟨p, M, q1, q2, q3⟩ := ih (more ++ [x]) (k + 1) m t1 (by omega) (by simp; omega)
      refine ⟨p, M, q1, ?_, by simp only [List.length_append, List.length_cons, List.length_nil] at q3 ⊢; omega⟩
      rw [q2, insD, hlt, if_pos rfl]
      simp
theorem refn_loop (n : Nat) (hn : 200000 ≤ n) (X : Type) (k0 : List TagL → Nat → Option X) (l : List TagL) (hl : l.length ≤ 10000) (hok : ∀ t ∈ l, TagLOK t) : ∀ (r out : List TagL) (i m : Nat), l.drop i = r → r.length < m → out.length ≤ i → (∀ x ∈ out, x ∈ l) →
    F.ref06_Normal.L3 n k0 m l out (i : Int) out.length = k0 (r.foldl (fun o t => insD t o) out) (r.foldl (fun o t => insD t o) out).length := by
  intro r
  induction r with
  | nil =>
    intro out i m h1 hm ho hmem
    obtain ⟨m, rfl⟩ : ∃ p, m = p + 1 := ⟨m - 1, by omega⟩
    rw [F.ref06_Normal.L3]
    unfold F.ref06_Normal.L3.step
    dsimp only
    rw [bif_neg (by have := drop_nil' h1; omega)]
    rfl
  | cons t r ih =>
    intro out i m h1 hm ho hmem
    obtain ⟨m, rfl⟩ : ∃ p, m = p + 1 := ⟨m - 1, by simp at hm; omega⟩
    obtain ⟨l1, g1, t1⟩ := drop_cons h1
    have ht : t ∈ l := List.mem_of_getElem? g1
    rw [F.ref06_Normal.L3]
    unfold F.ref06_Normal.L3.step
    dsimp only
    rw [bif_pos (by omega)]
    obtain ⟨p, M, q1, q2, q3⟩ := ins_false n (by omega) X _ l out i t g1 (hok t ht) (fun x hx => hok x (hmem x hx)) (by omega) out.length out [] 0 n rfl (by omega) (by simp; omega)
    refine q1.trans ?_
    simp only [List.length_nil, Nat.zero_add, List.nil_append] at q2 q3
    have hwi : IntKind.wrap .i64 ((i : Int) + 1) = ((i + 1 : Nat) : Int) := wrap_succ (by omega)
    have hin : ∀ x ∈ insD t out, x ∈ l := fun x hx => by
      rcases (insD_mem t out x).1 hx with rfl | h
      · exact ht
      · exact hmem x h
    rw [List.foldl_cons, hwi]
    cases p
    · rw [Bool.not_false, cond_true, idx_nat, g1, some_bind', refn_grow (by omega), Nat.beq_refl, cond_true]
      have q2 : M ++ [t] = insD t out := q2
      have e : M ++ [(t.1, t.2)] = insD t out := q2
      rw [e]
      exact ih (insD t out) (i + 1) m t1 (by simp at hm; omega) (by have := insD_len t out; omega) hin
    · rw [Bool.not_true, cond_false]
      have q2 : M = insD t out := q2
      rw [q2]
      exact ih (insD t out) (i + 1) m t1 (by simp at hm; omega) (by have := insD_len t out; omega) hin
theorem refNormal_eq (n : Nat) (hn : 200000 ≤ n) (l : List TagL) (hl : l.length ≤ 10000) (hok : ∀ t ∈ l, TagLOK t) : F.ref06_Normal n l = some (normT l) := by
  unfold F.ref06_Normal
  exact refn_loop n hn _ _ l hl hok l [] 0 n rfl (by omega) (by simp) (fun x hx => by cases hx)
end Go.AM
set_option linter.unusedVariables false
set_option linter.unusedSimpArgs false
namespace Go.AM
theorem cls1_word (x : UInt8) : cls 1 x = wordI (x.toNat : Int) := rfl
theorem name_step {X : Type} (n : Nat) (rec : List UInt8 → Int → Option X) (k0 : List UInt8 → Option X) (kr : Bool → Option X) (s : List UInt8) (k : Nat) (hk : k < s.length) (hs : s.length ≤ 10000) (x : UInt8) (hx : s[k]? = some x) :
    F.ref07_Name.L2.step n rec k0 kr s (k : Int) = if cls 1 x = true then rec s ((k + 1 : Nat) : Int) else kr false := by
  unfold F.ref07_Name.L2.step
  rw [bif_pos (by omega), idx_nat, hx, wrap_succ (by omega), some_bind', cls1_word]
  unfold wordI btw
  generalize hv : ((x.toNat : Nat) : Int) = v
  generalize rec s ((k + 1 : Nat) : Int) = A
  generalize kr false = B
  simp only [Bool.cond_eq_ite, Bool.not_eq_true', Bool.or_eq_true, Bool.and_eq_true, decide_eq_true_eq, beq_iff_eq, beq_eq_false_iff_ne, ne_eq]
  repeat' split
  all_goals first
    | rfl
    | (exfalso; omega)
theorem name_ref_loop (n : Nat) (X : Type) (k0 : List UInt8 → Option X) (kr : Bool → Option X) (s : List UInt8) (hs : s.length ≤ 10000) : ∀ (r : List UInt8) (k m : Nat), s.drop k = r → r.length < m →
    F.ref07_Name.L2 n k0 kr m s (k : Int) = if r.all (cls 1) = true then k0 s else kr false := by
  intro r
  induction r with
  | nil =>
    intro k m hk hm
    have := drop_nil' hk
    cases m with
    | zero => simp at hm
    | succ m =>
      show F.ref07_Name.L2.step n (F.ref07_Name.L2 n k0 kr m) k0 kr s (k : Int) = _
      unfold F.ref07_Name.L2.step
      rw [bif_neg (by omega)]
      rfl
  | cons x r ih =>
    intro k m hk hm
    obtain ⟨h1, h2, h3⟩ := drop_cons hk
    cases m with
    | zero => simp at hm
    | succ m =>
      show F.ref07_Name.L2.step n (F.ref07_Name.L2 n k0 kr m) k0 kr s (k : Int) = _
      rw [name_step n _ _ _ s k h1 hs x h2, List.all_cons]
      cases hx : cls 1 x
      · rfl
      · rw [if_pos rfl, ih (k + 1) m h3 (by simp at hm; omega)]
        rfl
theorem nameOK_eq (s : List UInt8) : nameOK s = (s.all (cls 1) && (decide (1 ≤ s.length) && decide (s.length ≤ 200))) := by
  unfold nameOK textF
  rw [if_neg (by simp [may])]
  by_cases h1 : (s.length : Int) < 1
  · rw [if_pos h1]
    have : decide (1 ≤ s.length) = false := decide_eq_false (by omega)
    rw [this]; simp
  rw [if_neg h1]
  have e1 : decide (1 ≤ s.length) = true := decide_eq_true (by omega)
  by_cases h2 : (s.length : Int) > 200
  · rw [if_pos h2]
    have : decide (s.length ≤ 200) = false := decide_eq_false (by omega)
    rw [this]; simp
  rw [if_neg h2]
  have e2 : decide (s.length ≤ 200) = true := decide_eq_true (by omega)
  rw [e1, e2]
  by_cases h3 : 0 ≤ badK (cls 1) 0 s
  · rw [if_pos h3]
    have : s.all (cls 1) = false := by
      have := (badK_ge (cls 1) 0 s).1 h3
      simpa using this
    rw [this]; rfl
  · rw [if_neg h3]
    have : s.all (cls 1) = true := Classical.byContradiction fun hh => h3 ((badK_ge _ _ _).2 hh)
    rw [this]; rfl
theorem name_ref (n : Nat) (hn : 200000 ≤ n) (s : List UInt8) (hs : s.length ≤ 10000) : F.ref07_Name n s = some (nameOK s) := by
  unfold F.ref07_Name
  have L := name_ref_loop n Bool (fun e2_0 => bif decide ((e2_0.length : Int) ≥ (1 : Int)) then some (decide ((e2_0.length : Int) ≤ (200 : Int))) else some (false)) (fun e3_2 => some (e3_2)) s hs s 0 n rfl (by omega)
  refine L.trans ?_
  rw [nameOK_eq]
  cases h : s.all (cls 1)
  · rfl
  · rw [if_pos rfl]
    by_cases h1 : 1 ≤ s.length
    · rw [bif_pos (by omega), decide_eq_true h1]
      have e2 : decide ((s.length : Int) ≤ 200) = decide (s.length ≤ 200) := by apply decide_eq_decide.2; omega
      rw [e2]; rfl
    · rw [bif_neg (by omega), decide_eq_false h1]; rfl
end Go.AM
set_option linter.unusedVariables false
set_option linter.unusedSimpArgs false
namespace Go.AM
theorem parse_cases (s : List UInt8) : ((parseR s).2.1.1 ≠ 0 ∧ (parseR s).1 = (false, 0, 0, ()) ∧ 0 ≤ (parseR s).2.1.2.1 ∧ (parseR s).2.1.2.1 ≤ s.length) ∨
    (∃ (neg : Bool) (c : Nat) (e : Int), parseR s = ((neg, (c : Int), e, ()), (0, 0, ()), ()) ∧ c < two64 ∧ (-9223372036854775808 ≤ e ∧ e ≤ 9223372036854775807) ∧ checkR neg c e = 0) := by
  unfold parseR
  by_cases h : (lookR s).1 = 0
  · rw [if_pos h]
    have hD : Digs (aheadD s ++ behindD s) := digs_append.2 ⟨tw_digs _, behind_digs s⟩
    generalize aheadD s ++ behindD s = d at hD
    generalize (-((behindD s).length : Int)) = E
    generalize negD s = neg
    by_cases hv : val d = 0
    · refine Or.inr ⟨false, 0, 0, ?_, by decide, by omega, ?_⟩
      · have : valR neg d E = zeroD := by unfold valR; rw [if_pos hv]
        rw [this]; rfl
      · have d0 : Lib.decDigits 0 = [48] := dd_small (by omega)
        unfold checkR
        rw [d0]; rfl
    · obtain ⟨c0, z, h1, h2⟩ := ten_split (val d) (by omega)
      rw [valR_core hD h2 h1]
      generalize E + (z : Int) = Y
      by_cases hY : Y < -18
      · refine Or.inl ?_
        have : normR neg c0 Y = ((false, 0, 0, ()), 10, ()) := by unfold normR; rw [if_pos hY]
        rw [this]
        exact ⟨by decide, rfl, by decide, by show (0 : Int) ≤ s.length; omega⟩
      · by_cases hf : c0 * 10 ^ (Y - 18).toNat < two64
        · have e1 : normR neg c0 Y = ((neg, ((c0 * 10 ^ (Y - 18).toNat : Nat) : Int), (if Y ≤ 18 then Y else 18), ()), 0, ()) := by unfold normR; rw [if_neg hY, if_pos hf]
          rw [e1]
          have hE : -18 ≤ (if Y ≤ 18 then Y else 18) ∧ (if Y ≤ 18 then Y else 18) ≤ 18 := by split <;> omega
          refine Or.inr ⟨neg, c0 * 10 ^ (Y - 18).toNat, (if Y ≤ 18 then Y else 18), rfl, hf, by omega, ?_⟩
          unfold checkR
          rw [if_neg (by omega), valR_core (dd_digs _) h2 (dd_val _)]
          have e2 : (if Y ≤ 18 then Y else 18) + (((Y - 18).toNat : Nat) : Int) = Y := by split <;> omega
          rw [e2, e1, if_pos ⟨rfl, rfl⟩]
        · refine Or.inl ?_
          have : normR neg c0 Y = ((false, 0, 0, ()), 10, ()) := by unfold normR; rw [if_neg hY, if_neg hf]
          rw [this]
          exact ⟨by decide, rfl, by decide, by show (0 : Int) ≤ s.length; omega⟩
  · rw [if_neg h]
    refine Or.inl ⟨h, rfl, ?_⟩
    show 0 ≤ (lookR s).2.1 ∧ (lookR s).2.1 ≤ s.length
    have endle : ∀ (r : Prop) [Decidable r] (a l : Nat), a ≤ l → 0 ≤ (endR r a l).2.1 ∧ (endR r a l).2.1 ≤ (l : Int) := by
      intro r _ a l hl
      unfold endR
      split
      · show (0 : Int) ≤ 0 ∧ (0 : Int) ≤ l; omega
      · split
        · show (0 : Int) ≤ a ∧ (a : Int) ≤ l; omega
        · show (0 : Int) ≤ a ∧ (a : Int) ≤ l; omega
    unfold lookR lookQ
    split
    · rename_i hp
      exact endle _ _ _ (p3_le hp.2)
    · exact endle _ _ _ (p1_le (p0_le s))
end Go.AM
set_option linter.unusedVariables false
set_option linter.unusedSimpArgs false
namespace Go.AM
theorem parse_ok {s : List UInt8} (h : (parseR s).2.1.1 = 0) : ∃ (neg : Bool) (c : Nat) (e : Int), parseR s = ((neg, (c : Int), e, ()), (0, 0, ()), ()) ∧ c < two64 ∧ (-9223372036854775808 ≤ e ∧ e ≤ 9223372036854775807) ∧ checkR neg c e = 0 := by
  rcases parse_cases s with ⟨h1, _⟩ | h1
  · exact absurd h h1
  · exact h1
end Go.AM
set_option linter.unusedVariables false
set_option linter.unusedSimpArgs false
namespace Go.AM
end Go.AM
set_option linter.unusedVariables false
set_option linter.unusedSimpArgs false
namespace Go.AM
theorem chk_zero {m : MetD} (h : chkM m = 0) : nameOK m.1 = true ∧ kindB m.2.1 = true ∧ valsB m.2.2.1 = true ∧ rateB m.2.1 m.2.2.2.1 = true ∧ tagsB m.2.2.2.2.1 = true ∧ timeB m.2.2.2.2.2.1 = true := by
  unfold chkM at h
  revert h
  cases nameOK m.1 <;> cases kindB m.2.1 <;> cases valsB m.2.2.1 <;> cases rateB m.2.1 m.2.2.2.1 <;> cases tagsB m.2.2.2.2.1 <;> cases timeB m.2.2.2.2.2.1 <;> simp
theorem textD_le {d : DecL} (hd : DecLOK d) (h : decC d = 0) : (textD d.1 d.2.1.toNat d.2.2).length ≤ 39 := by
  obtain ⟨neg, c, e, rfl, hc, he⟩ := decL_nat hd
  exact (text_len neg c hc e (check_zero h).2).1
theorem decText_eq (n : Nat) (hn : 200000 ≤ n) {d : DecL} (hd : DecLOK d) (h : decC d = 0) : F.dec_Text n (d.1, d.2.1, d.2.2, ()) = some (textD d.1 d.2.1.toNat d.2.2, 0, ()) := by
  obtain ⟨neg, c, e, rfl, hc, he⟩ := decL_nat hd
  have h' : checkR neg c e = 0 := h
  have := text_dec n hn neg c hc e he
  rw [if_pos h'] at this
  exact this
end Go.AM
set_option linter.unusedVariables false
set_option linter.unusedSimpArgs false
namespace Go.AM
theorem valR_cases {d : List UInt8} (hD : Digs d) (neg : Bool) (E : Int) : ((valR neg d E).2.1 = 10 ∧ (valR neg d E).1 = (false, 0, 0, ())) ∨
    (∃ (neg' : Bool) (c : Nat) (e : Int), valR neg d E = ((neg', (c : Int), e, ()), 0, ()) ∧ c < two64 ∧ (-9223372036854775808 ≤ e ∧ e ≤ 9223372036854775807) ∧ checkR neg' c e = 0) := by
  by_cases hv : val d = 0
  · refine Or.inr ⟨false, 0, 0, ?_, by decide, by omega, ?_⟩
    · have : valR neg d E = zeroD := by unfold valR; rw [if_pos hv]
      rw [this]; rfl
    · have d0 : Lib.decDigits 0 = [48] := dd_small (by omega)
      unfold checkR
      rw [d0]; rfl
  · obtain ⟨c0, z, h1, h2⟩ := ten_split (val d) (by omega)
    rw [valR_core hD h2 h1]
    generalize E + (z : Int) = Y
    by_cases hY : Y < -18
    · refine Or.inl ?_
      have : normR neg c0 Y = ((false, 0, 0, ()), 10, ()) := by unfold normR; rw [if_pos hY]
      rw [this]
      exact ⟨rfl, rfl⟩
    · by_cases hf : c0 * 10 ^ (Y - 18).toNat < two64
      · have e1 : normR neg c0 Y = ((neg, ((c0 * 10 ^ (Y - 18).toNat : Nat) : Int), (if Y ≤ 18 then Y else 18), ()), 0, ()) := by unfold normR; rw [if_neg hY, if_pos hf]
        rw [e1]
        have hE : -18 ≤ (if Y ≤ 18 then Y else 18) ∧ (if Y ≤ 18 then Y else 18) ≤ 18 := by split <;> omega
        refine Or.inr ⟨neg, c0 * 10 ^ (Y - 18).toNat, (if Y ≤ 18 then Y else 18), rfl, hf, by omega, ?_⟩
        unfold checkR
        rw [if_neg (by omega), valR_core (dd_digs _) h2 (dd_val _)]
        have e2 : (if Y ≤ 18 then Y else 18) + (((Y - 18).toNat : Nat) : Int) = Y := by split <;> omega
        rw [e2, e1, if_pos ⟨rfl, rfl⟩]
      · refine Or.inl ?_
        have : normR neg c0 Y = ((false, 0, 0, ()), 10, ()) := by unfold normR; rw [if_neg hY, if_neg hf]
        rw [this]
        exact ⟨rfl, rfl⟩
def decV (d : DecL) : DecR := valR d.1 (Lib.decDigits d.2.1.toNat) d.2.2
def valOK (d : DecL) : Bool := (decV d).2.1 == 0
def refV (d : DecL) : DecL := ((decV d).1.1, (decV d).1.2.1, (decV d).1.2.2.1)
def normV (d : DecL) : DecL := if valOK d then refV d else d
theorem decV_eq (n : Nat) (hn : 100 ≤ n) {d : DecL} (h : DecLOK d) : F.dec_Normal n (d.1, d.2.1, d.2.2, ()) = some (decV d) := by
  obtain ⟨neg, c, e, rfl, hc, he⟩ := decL_nat h
  exact normal_eq n hn neg c hc e he
theorem normV_pos {d : DecL} (h : valOK d = true) : normV d = refV d ∧ decC (normV d) = 0 ∧ DecLOK (normV d) := by
  have e : normV d = refV d := by unfold normV; rw [if_pos h]
  refine ⟨e, ?_⟩
  rw [e]
  unfold refV
  unfold valOK at h
  rcases valR_cases (dd_digs d.2.1.toNat) d.1 d.2.2 with ⟨h1, _⟩ | ⟨neg, c, e, h1, h2, h3, h4⟩
  · exfalso
    have h1 : (decV d).2.1 = 10 := h1
    rw [h1] at h; cases h
  · have h1 : decV d = ((neg, (c : Int), e, ()), 0, ()) := h1
    rw [h1]
    refine ⟨h4, trivial, ⟨by simp, ?_⟩, h3⟩
    have := two64_eq; simp only; omega
theorem normV_neg {d : DecL} (hd : DecLOK d) (h : valOK d = false) : normV d = d ∧ decC d ≠ 0 := by
  refine ⟨by unfold normV; rw [if_neg (by rw [h]; simp)], fun h0 => ?_⟩
  obtain ⟨neg, c, e, rfl, hc, he⟩ := decL_nat hd
  have hh : decV (neg, (c : Int), e) = ((neg, (c : Int), e, ()), 0, ()) := (check_zero h0).1
  unfold valOK at h
  rw [hh] at h
  cases h
theorem normV_id {d : DecL} (hd : DecLOK d) (h0 : decC d = 0) : valOK d = true ∧ normV d = d := by
  obtain ⟨neg, c, e, rfl, hc, he⟩ := decL_nat hd
  have hv := (check_zero h0).1
  have h1 : decV (neg, (c : Int), e) = ((neg, (c : Int), e, ()), 0, ()) := hv
  have h2 : valOK (neg, (c : Int), e) = true := by unfold valOK; rw [h1]; rfl
  refine ⟨h2, ?_⟩
  unfold normV refV
  rw [if_pos h2, h1]
theorem normV_ok {d : DecL} (hd : DecLOK d) : DecLOK (normV d) := by
  cases h : valOK d
  · rw [(normV_neg hd h).1]; exact hd
  · exact (normV_pos h).2.2
def zeroM : MetD := ([], (0 : Int), [], (0 : Int), [], (0 : Int), ())
def valsM (m : MetD) : MetD := (m.1, m.2.1, m.2.2.1.map normV, m.2.2.2.1, m.2.2.2.2.1, m.2.2.2.2.2.1, ())
def formM (m : MetD) : MetD := (m.1, m.2.1, m.2.2.1.map normV, m.2.2.2.1, normT m.2.2.2.2.1, m.2.2.2.2.2.1, ())
def normM (m : MetD) : MetD × Int × Unit := if chkM (valsM m) = 0 then (formM m, 0, ()) else (zeroM, chkM (valsM m), ())
theorem valsM_ok {m : MetD} (hm : MetOK m) : MetOK (valsM m) := by
  refine ⟨hm.1, ⟨by rw [valsM]; simpa using hm.2.1.1, fun d hd => ?_⟩, hm.2.2⟩
  obtain ⟨x, hx, rfl⟩ := List.mem_map.1 hd
  exact normV_ok (hm.2.1.2 x hx)
theorem upd_at {α : Type} (p r : List α) (x y : α) : upd (p ++ x :: r) p.length y = p ++ y :: r := by
  rw [upd_set, List.set_append_right _ _ (Nat.le_refl _), Nat.sub_self]; rfl
theorem metn_loop (n : Nat) (hn : 200000 ≤ n) (X : Type) (k0 : (Nat × Nat) → List UInt8 → Int → List DecL → Int → List TagL → Int → List UInt8 → Int → List DecL → Int → List TagL → Int → (Nat × List DecL) → (Nat × List DecL) → Nat → Nat → Option X)
    (b00 : List UInt8) (b01 : Int) (b02 : List DecL) (b03 : Int) (b04 : List TagL) (b05 : Int) (b10 : List UInt8) (b11 : Int) (b12 : List DecL) (b13 : Int) (b14 : List TagL) (b15 : Int) (b2 : Nat × List DecL) (k1 k2 : Nat) (v N : Nat) (hN : N ≤ 10000) :
    ∀ (r p : List DecL) (i m : Nat), i + r.length = N → p.length = i → r.length < m → (∀ d ∈ r, DecLOK d) →
    F.metric_Normal.L3 n k0 m (v, N) (v, N) (N : Int) (i : Int) b00 b01 b02 b03 b04 b05 b10 b11 b12 b13 b14 b15 b2 (v, p ++ r) k1 k2 = k0 (v, N) b00 b01 b02 b03 b04 b05 b10 b11 b12 b13 b14 b15 b2 (v, p ++ r.map normV) k1 k2 := by
  intro r
  induction r with
  | nil =>
    intro p i m h1 h2 hm hok
    obtain ⟨m, rfl⟩ : ∃ q, m = q + 1 := ⟨m - 1, by omega⟩
    rw [F.metric_Normal.L3]
    unfold F.metric_Normal.L3.step
    dsimp only
    rw [bif_neg (by simp at h1; omega)]
    rfl
  | cons x r ih =>
    intro p i m h1 h2 hm hok
    obtain ⟨m, rfl⟩ : ∃ q, m = q + 1 := ⟨m - 1, by simp at hm; omega⟩
    simp only [List.length_cons] at h1 hm
    have hx := hok x (by simp)
    have hp : (p ++ x :: r)[i]? = some x := by rw [← h2]; simp
    have hb1 : (decide ((0 : Int) ≤ (i : Int)) && decide ((i : Int) < (N : Int))) = true := by simp; omega
    rw [F.metric_Normal.L3]
    unfold F.metric_Normal.L3.step
    dsimp only
    rw [bif_pos (by omega : (i : Int) < (N : Int)), hb1, Nat.beq_refl, cond_true, cond_true, idx_nat, hp, some_bind', decV_eq n (by omega) hx, some_bind', wrap_succ (by omega)]
    have step : ∀ y, y = normV x → F.metric_Normal.L3 n k0 m (v, N) (v, N) (N : Int) ((i + 1 : Nat) : Int) b00 b01 b02 b03 b04 b05 b10 b11 b12 b13 b14 b15 b2 (v, p ++ y :: r) k1 k2 = k0 (v, N) b00 b01 b02 b03 b04 b05 b10 b11 b12 b13 b14 b15 b2 (v, p ++ (x :: r).map normV) k1 k2 := by
      intro y hy
      have := ih (p ++ [y]) (i + 1) m (by omega) (by simp; omega) (by omega) (fun d hd => hok d (List.mem_cons_of_mem _ hd))
      rw [List.append_assoc, List.append_assoc, List.singleton_append, List.singleton_append] at this
      rw [this, hy, List.map_cons]
    cases hv : valOK x
    · have hv' : ((decV x).2.1 == 0) = false := hv
      rw [hv', cond_false]
      exact step x (normV_neg hx hv).1.symm
    · have hv' : ((decV x).2.1 == 0) = true := hv
      rw [hv', cond_true, cond_true, cond_true, some_bind', Int.toNat_natCast, ← h2, upd_at, h2]
      exact step _ (normV_pos hv).1.symm
theorem metn_out (n : Nat) (hn : 200000 ≤ n) (m : MetD) (hm : MetOK m) (v : Nat) (b10 : List UInt8) (b11 : Int) (b12 : List DecL) (b13 : Int) (b14 : List TagL) (b15 : Int) (b2 : Nat × List DecL) (k1 k2 : Nat) :
    F.metric_Normal.L3 n
          (fun e4_4 e4_b0_0 e4_b0_1 e4_b0_2 e4_b0_3 e4_b0_4 e4_b0_5 e4_b1_0 e4_b1_1 e4_b1_2 e4_b1_3 e4_b1_4 e4_b1_5 e4_b2_0 e4_b3_0 e4_k0 e4_k1 =>
            bif Nat.beq e4_4.1 e4_b3_0.1 then
              (F.metric_Check n (e4_b0_0, e4_b0_1, e4_b3_0.2, e4_b0_3, e4_b0_4, e4_b0_5, ())).bind fun y5 =>
                bif !(y5 == (0 : Int)) then
                  some ((([], (0 : Int), [], (0 : Int), [], (0 : Int), ()), y5, ()))
                else
                  (F.tag_Normal n e4_b0_4).bind fun y6 =>
                    some (((e4_b0_0, e4_b0_1, e4_b3_0.2, e4_b0_3, y6, e4_b0_5, ()), (0 : Int), ()))
            else
              none) n (v, m.2.2.1.length) (v, m.2.2.1.length) (m.2.2.1.length : Int) (0 : Int) m.1 m.2.1 m.2.2.1 m.2.2.2.1 m.2.2.2.2.1 m.2.2.2.2.2.1 b10 b11 b12 b13 b14 b15 b2 (v, m.2.2.1) k1 k2 = some (normM m) := by
  refine (metn_loop n hn _ _ m.1 m.2.1 m.2.2.1 m.2.2.2.1 m.2.2.2.2.1 m.2.2.2.2.2.1 b10 b11 b12 b13 b14 b15 b2 k1 k2 v m.2.2.1.length (by have := hm.2.1.1; omega) m.2.2.1 [] 0 n (by omega) rfl (by have := hm.2.1.1; omega) hm.2.1.2).trans ?_
  dsimp only
  rw [Nat.beq_refl, cond_true]
  have hc : F.metric_Check n (m.1, m.2.1, [] ++ m.2.2.1.map normV, m.2.2.2.1, m.2.2.2.2.1, m.2.2.2.2.2.1, ()) = some (chkM (valsM m)) := metcheck_eq n hn (valsM m) (valsM_ok hm)
  rw [hc, some_bind']
  unfold normM
  by_cases h : chkM (valsM m) = 0
  · rw [if_pos h, h, tagNormal_eq n hn _ (by have := hm.2.2.1; omega)]
    rfl
  · rw [if_neg h, beq_eq_false_iff_ne.2 h]
    rfl
theorem metNormal_eq (n : Nat) (hn : 200000 ≤ n) (m : MetD) (hm : MetOK m) : F.metric_Normal n m = some (normM m) := by
  have hl := hm.2.1.1
  have e1 : (decide ((0 + m.2.2.1.length) * 24 ≤ 2 ^ 46) && decide (0 < 24 ∧ 24 ≤ 2 ^ 20)) = true := by
    rw [decide_eq_true (by omega)]; rfl
  unfold F.metric_Normal
  rw [e1, cond_true]
  have h2 := metn_out n hn m hm 2 [] 0 [] 0 [] 0 (1, []) 0 0
  cases hv : m.2.2.1 with
  | nil =>
    have h1 := metn_out n hn m hm 1 [] 0 [] 0 [] 0 (1, []) 0 0
    rw [hv] at h1 h2
    refine Eq.trans (b := both (some (normM m)) (some (normM m))) ?_ (both_same _)
    rw [List.isEmpty_nil, cond_true]
    exact congr (congrArg both h1) h2
  | cons d vs =>
    rw [hv] at h2
    exact h2
theorem refn_growD {X : Type} {v : List DecL} (h : v.length ≤ 100000) (y : Option X) : (bif decide ((v.length + 1) * 24 ≤ 2 ^ 46) && decide (0 < 24 ∧ 24 ≤ 2 ^ 20) then y else none) = y := by
  rw [decide_eq_true (by omega)]; rfl
end Go.AM
set_option linter.unusedVariables false
set_option linter.unusedSimpArgs false
namespace Go.AM
abbrev NumR := Int × (Int × Int × Unit) × Unit
def numR (v c at' : Int) : NumR := (v, (c, at', ()), ())
theorem cls4_fun : cls 4 = isDig := funext cls4
theorem fault_eq (n : Nat) (c a : Int) : F.num_fault n c a = some (0, (c, a, ()), ()) := rfl
theorem digs_of_bad {s : List UInt8} {k : Nat} (h : ¬ 0 ≤ badK isDig k s) : Digs s := Classical.byContradiction fun hh => h ((badK_ge _ _ _).2 hh)
theorem textF4 (s : List UInt8) (hs : s.length < 4611686018427387904) : textF 4 s 1 (IntKind.wrap .i64 ((s.length : Int) + 1)) = if s = [] then (13, 0, ()) else if 0 ≤ badK isDig 0 s then (14, badK isDig 0 s, ()) else (0, 0, ()) := by
  unfold textF
  rw [wrap_succ hs, cls4_fun]
  have hm : may 4 = true := rfl
  rw [if_neg (by simp [hm]; omega)]
  cases s with
  | nil => rfl
  | cons b s =>
    rw [if_neg (show ¬ (((b :: s).length : Nat) : Int) < 1 from by simp; omega), if_neg (show ¬ (((b :: s).length : Nat) : Int) > (((b :: s).length + 1 : Nat) : Int) from by omega), if_neg (show ¬ (b :: s = []) from by simp)]
theorem value_loop (n : Nat) (X : Type) (k0 : Int → Option X) (kr : Int → Bool → Option X) (s : List UInt8) (hs : s.length < 4611686018427387904) : ∀ (r : List UInt8) (k m : Nat), s.drop k = r → r.length < m → Digs r → val (s.take k) < 9223372036854775808 →
    F.ref05_Value.L3 n k0 kr m s (val (s.take k) : Int) (k : Int) = if val s < 9223372036854775808 then k0 (val s) else kr 0 false := by
  intro r
  induction r with
  | nil =>
    intro k m hk hm hd hv
    have hk := drop_nil' hk
    cases m with
    | zero => simp at hm
    | succ m =>
      show F.ref05_Value.L3.step n _ k0 kr s _ k = _
      unfold F.ref05_Value.L3.step
      rw [bif_neg (by omega)]
      rw [List.take_of_length_le hk] at hv ⊢
      rw [if_pos hv]
  | cons x r ih =>
    intro k m hk hm hd hv
    obtain ⟨h1, h2, h3⟩ := drop_cons hk
    obtain ⟨d1, d2⟩ := digs_cons.1 hd
    have hx := isDig_iff.1 d1
    cases m with
    | zero => simp at hm
    | succ m =>
      show F.ref05_Value.L3.step n (F.ref05_Value.L3 n k0 kr m) k0 kr s _ k = _
      unfold F.ref05_Value.L3.step
      have htk : s.take (k + 1) = s.take k ++ [x] := by rw [List.take_add_one, h2]; rfl
      have hvk : val (s.take (k + 1)) = val (s.take k) * 10 + dv x := by rw [htk, val_snoc]
      have hsv : val (s.take (k + 1)) ≤ val s := by
        have e : s = s.take (k + 1) ++ s.drop (k + 1) := (List.take_append_drop _ _).symm
        have h5 : val s = val (s.take (k + 1)) * 10 ^ (s.drop (k + 1)).length + val (s.drop (k + 1)) := by
          conv => lhs; rw [e]
          rw [val_append]
        have := Nat.le_mul_of_pos_right (val (s.take (k + 1))) (Nat.pow_pos (n := (s.drop (k + 1)).length) (show 0 < 10 by omega))
        omega
      have hdx : IntKind.wrap .i64 (IntKind.wrap .u8 ((x.toNat : Int) - 48)) = (dv x : Int) := by
        have h8 : IntKind.wrap .u8 ((x.toNat : Int) - 48) = (x.toNat : Int) - 48 := IntWalk.u8_in _ (by omega)
        rw [h8, wrap_in (by omega)]; unfold dv; omega
      have hdl := dv_lt d1
      rw [bif_pos (by omega), idx_nat, h2, some_bind', hdx, wrap_in (x := 9223372036854775807 - (dv x : Int)) (by omega)]
      have hdiv : ((9223372036854775807 : Int) - (dv x : Int)).tdiv 10 = (((9223372036854775807 - dv x) / 10 : Nat) : Int) := by
        rw [show ((9223372036854775807 : Int) - (dv x : Int)) = ((9223372036854775807 - dv x : Nat) : Int) from by omega]; rfl
      rw [hdiv, wrap_in (x := (((9223372036854775807 - dv x) / 10 : Nat) : Int)) (by omega)]
      by_cases hb : val (s.take (k + 1)) < 9223372036854775808
      · rw [bif_neg (by omega), wrap_in (x := 10 * (val (s.take k) : Int)) (by omega), wrap_in (by omega), wrap_succ (by omega), show (10 * (val (s.take k) : Int) + (dv x : Int)) = (val (s.take (k + 1)) : Int) from by omega]
        exact ih (k + 1) m h3 (by simp at hm; omega) d2 hb
      · rw [bif_pos (by omega), if_neg (by omega)]
theorem value_ref (n : Nat) (s : List UInt8) (hs : s.length < 4611686018427387904) (hn : s.length < n) (hd : Digs s) : F.ref05_Value n s = some (if val s < 9223372036854775808 then ((val s : Int), true, ()) else (0, false, ())) := by
  unfold F.ref05_Value
  refine (value_loop n _ _ _ s hs s 0 n rfl hn hd (by rw [List.take_zero, val_nil]; omega)).trans ?_
  by_cases h : val s < 9223372036854775808
  · rw [if_pos h, if_pos h]
  · rw [if_neg h, if_neg h]
end Go.AM
set_option linter.unusedVariables false
set_option linter.unusedSimpArgs false
namespace Go.AM
def parseNum (s : List UInt8) (lo hi : Int) : NumR :=
  if s = [] then numR 0 13 0 else if 0 ≤ badK isDig 0 s then numR 0 14 (badK isDig 0 s) else if s.head? = some 48 ∧ 1 < s.length then numR 0 11 0
  else if 9223372036854775808 ≤ val s ∨ (val s : Int) < lo ∨ (val s : Int) > hi then numR 0 10 0 else numR (val s) 0 0
theorem o_atoi (n : Nat) {s : List UInt8} (hd : Digs s) (hn : s ≠ []) (hs : s.length ≤ 1000000) : O.atoi n s = some (if val s < 9223372036854775808 then ((val s : Int), false, ()) else (Lib.atoiSat s, true, ())) := by
  unfold O.atoi
  have : Nat.ble s.length big47 = true := by rw [Nat.ble_eq]; unfold big47; omega
  rw [this, cond_true, atoi_digs hd hn]
  by_cases h : val s < 9223372036854775808
  · rw [if_pos h, if_pos h]
  · rw [if_neg h, if_neg h]
theorem parse_num (n : Nat) (s : List UInt8) (lo hi : Int) (hs : s.length ≤ 1000000) (hn : s.length < n) : F.num_Parse n s lo hi = some (parseNum s lo hi) := by
  unfold F.num_Parse parseNum
  rw [text_cls n 4 s _ _ (by omega) hn, some_bind', textF4 s (by omega)]
  by_cases h0 : s = []
  · rw [if_pos h0, if_pos h0]; rfl
  rw [if_neg h0, if_neg h0]
  by_cases h1 : 0 ≤ badK isDig 0 s
  · rw [if_pos h1, if_pos h1]; rfl
  rw [if_neg h1, if_neg h1]
  have e : (!((0 : Int) == 0 && (0 : Int) == 0)) = false := rfl
  simp only [e, cond_false]
  have hd := digs_of_bad h1
  cases s with
  | nil => exact absurd rfl h0
  | cons b r =>
    have ei : idx (b :: r) (0 : Int) = some b := rfl
    rw [ei, some_bind', o_atoi n hd h0 hs, some_bind']
    have tail : ∀ (p : Bool) (A : Option NumR), (bif p then A else A) = A := by intro p A; cases p <;> rfl
    have core : (bif (if val (b :: r) < 9223372036854775808 then ((val (b :: r) : Int), false, ()) else (Lib.atoiSat (b :: r), true, ())).2.1 then (F.num_fault n 10 0).bind fun y6 => some ((y6.1, (y6.2.1.1, y6.2.1.2.1, ()), ()))
        else bif decide ((if val (b :: r) < 9223372036854775808 then ((val (b :: r) : Int), false, ()) else (Lib.atoiSat (b :: r), true, ())).1 < lo) then (F.num_fault n 10 0).bind fun y6 => some ((y6.1, (y6.2.1.1, y6.2.1.2.1, ()), ()))
        else bif decide ((if val (b :: r) < 9223372036854775808 then ((val (b :: r) : Int), false, ()) else (Lib.atoiSat (b :: r), true, ())).1 > hi) then (F.num_fault n 10 0).bind fun y6 => some ((y6.1, (y6.2.1.1, y6.2.1.2.1, ()), ()))
        else some (((if val (b :: r) < 9223372036854775808 then ((val (b :: r) : Int), false, ()) else (Lib.atoiSat (b :: r), true, ())).1, ((0 : Int), (0 : Int), ()), ())))
        = some (if 9223372036854775808 ≤ val (b :: r) ∨ (val (b :: r) : Int) < lo ∨ (val (b :: r) : Int) > hi then numR 0 10 0 else numR (val (b :: r)) 0 0) := by
      by_cases hv : val (b :: r) < 9223372036854775808
      · rw [if_pos hv]
        simp only [cond_false]
        by_cases g1 : (val (b :: r) : Int) < lo
        · rw [bif_pos g1, if_pos (Or.inr (Or.inl g1))]; rfl
        · rw [bif_neg g1]
          by_cases g2 : (val (b :: r) : Int) > hi
          · rw [bif_pos g2, if_pos (Or.inr (Or.inr g2))]; rfl
          · rw [bif_neg g2, if_neg (by omega)]; rfl
      · rw [if_neg hv, if_pos (Or.inl (by omega))]; rfl
    by_cases hb : b = 48
    · subst hb
      have e2 : ((((48 : UInt8).toNat : Nat) : Int) == 48) = true := rfl
      rw [e2, cond_true]
      by_cases hl : 1 < (48 :: r).length
      · rw [bif_pos (by omega), if_pos (show (48 :: r).head? = some 48 ∧ 1 < (48 :: r).length from ⟨rfl, hl⟩)]; rfl
      · rw [bif_neg (by omega), if_neg (show ¬ ((48 :: r).head? = some 48 ∧ 1 < (48 :: r).length) from fun h => hl h.2)]; exact core
    · have e2 : ((b.toNat : Int) == 48) = false := by
        have : ¬ (b.toNat : Int) = 48 := fun h => hb (u8_ext (by simp; omega))
        simpa using this
      rw [e2, cond_false, if_neg (show ¬ ((b :: r).head? = some 48 ∧ 1 < (b :: r).length) from fun h => hb (by simpa using h.1))]; exact core
theorem parse_ref (n : Nat) (h100 : 100 ≤ n) (s : List UInt8) (lo hi : Int) (hs : s.length ≤ 1000000) (hn : s.length < n) : F.ref05_Parse n s lo hi = some (parseNum s lo hi) := by
  unfold F.ref05_Parse parseNum
  by_cases h0 : s = []
  · subst h0; rfl
  have e0 : (s == []) = false := by simpa using h0
  rw [e0, cond_false, if_neg h0, bad_ref n h100 4 s (by omega) hn, some_bind', cls4_fun]
  by_cases h1 : 0 ≤ badK isDig 0 s
  · rw [if_pos h1, bif_pos h1]; rfl
  rw [if_neg h1, bif_neg h1]
  have hd := digs_of_bad h1
  cases s with
  | nil => exact absurd rfl h0
  | cons b r =>
    have ei : idx (b :: r) (0 : Int) = some b := rfl
    rw [ei, some_bind', value_ref n _ (by omega) hn hd, some_bind']
    have core : (bif !(if val (b :: r) < 9223372036854775808 then ((val (b :: r) : Int), true, ()) else (0, false, ())).2.1 then some (((0 : Int), ((10 : Int), (0 : Int), ()), ()))
        else bif decide ((if val (b :: r) < 9223372036854775808 then ((val (b :: r) : Int), true, ()) else (0, false, ())).1 < lo) then some (((0 : Int), ((10 : Int), (0 : Int), ()), ()))
        else bif decide ((if val (b :: r) < 9223372036854775808 then ((val (b :: r) : Int), true, ()) else (0, false, ())).1 > hi) then some (((0 : Int), ((10 : Int), (0 : Int), ()), ()))
        else some (((if val (b :: r) < 9223372036854775808 then ((val (b :: r) : Int), true, ()) else (0, false, ())).1, ((0 : Int), (0 : Int), ()), ())))
        = some (if 9223372036854775808 ≤ val (b :: r) ∨ (val (b :: r) : Int) < lo ∨ (val (b :: r) : Int) > hi then numR 0 10 0 else numR (val (b :: r)) 0 0) := by
      by_cases hv : val (b :: r) < 9223372036854775808
      · rw [if_pos hv]
        simp only [cond_false, Bool.not_true]
        by_cases g1 : (val (b :: r) : Int) < lo
        · rw [bif_pos g1, if_pos (Or.inr (Or.inl g1))]; rfl
        · rw [bif_neg g1]
          by_cases g2 : (val (b :: r) : Int) > hi
          · rw [bif_pos g2, if_pos (Or.inr (Or.inr g2))]; rfl
          · rw [bif_neg g2, if_neg (by omega)]; rfl
      · rw [if_neg hv, if_pos (Or.inl (by omega))]; rfl
    by_cases hb : b = 48
    · subst hb
      have e2 : ((((48 : UInt8).toNat : Nat) : Int) == 48) = true := rfl
      rw [e2, cond_true]
      by_cases hl : 1 < (48 :: r).length
      · rw [bif_pos (by omega), if_pos (show (48 :: r).head? = some 48 ∧ 1 < (48 :: r).length from ⟨rfl, hl⟩)]; rfl
      · rw [bif_neg (by omega), if_neg (show ¬ ((48 :: r).head? = some 48 ∧ 1 < (48 :: r).length) from fun h => hl h.2)]; exact core
    · have e2 : ((b.toNat : Int) == 48) = false := by
        have : ¬ (b.toNat : Int) = 48 := fun h => hb (u8_ext (by simp; omega))
        simpa using this
      rw [e2, cond_false, if_neg (show ¬ ((b :: r).head? = some 48 ∧ 1 < (b :: r).length) from fun h => hb (by simpa using h.1))]; exact core
theorem time_eq (n : Nat) (s : List UInt8) (hs : s.length ≤ 1000000) (hn : s.length < n) : F.num_Time n s = some (parseNum s 1 1099511627776) := by
  unfold F.num_Time
  rw [parse_num n s _ _ hs hn, some_bind']
def numText (k : Int) : List UInt8 × Int × Unit := if k < 0 then ([], 10, ()) else (Lib.decDigits k.toNat, 0, ())
theorem text_num (n : Nat) (k : Int) (h : -9223372036854775808 ≤ k ∧ k ≤ 9223372036854775807) : F.num_Text n k = some (numText k) := by
  unfold F.num_Text numText
  by_cases h0 : k < 0
  · rw [bif_pos h0, if_pos h0]
  · rw [bif_neg h0, if_neg h0]
    unfold O.itoa
    have : (decide (-9223372036854775808 ≤ k) && decide (k ≤ 9223372036854775807)) = true := by simp [h]
    rw [this, cond_true, some_bind']
    unfold Lib.itoa
    rw [if_neg h0]
theorem parse_back {s : List UInt8} {lo hi : Int} (h : (parseNum s lo hi).2.1.1 = 0) : (parseNum s lo hi).2.1.2.1 = 0 ∧ (parseNum s lo hi).1 = (val s : Int) ∧ val s < 9223372036854775808 ∧ lo ≤ (val s : Int) ∧ (val s : Int) ≤ hi ∧ Digs s ∧ Norm s := by
  unfold parseNum at h ⊢
  by_cases h0 : s = []
  · rw [if_pos h0] at h; cases h
  rw [if_neg h0] at h ⊢
  by_cases h1 : 0 ≤ badK isDig 0 s
  · rw [if_pos h1] at h; cases h
  rw [if_neg h1] at h ⊢
  by_cases h2 : s.head? = some 48 ∧ 1 < s.length
  · rw [if_pos h2] at h; cases h
  rw [if_neg h2] at h ⊢
  by_cases h3 : 9223372036854775808 ≤ val s ∨ (val s : Int) < lo ∨ (val s : Int) > hi
  · rw [if_pos h3] at h; cases h
  rw [if_neg h3]
  refine ⟨rfl, rfl, by omega, by omega, by omega, digs_of_bad h1, h0, fun h => ?_⟩
  have h4 : ¬ 1 < s.length := fun hl => h2 ⟨h, hl⟩
  have : 0 < s.length := List.length_pos_iff.2 h0
  omega
end Go.AM
set_option linter.unusedVariables false
set_option linter.unusedSimpArgs false
namespace Go.AM
def pad6 (k : Nat) : List UInt8 := (Lib.decDigits (1000000 + k)).drop 1
theorem pad6_all {k : Nat} (h : k < 1000000) : Lib.decDigits (1000000 + k) = 49 :: pad6 k ∧ (pad6 k).length = 6 ∧ Digs (pad6 k) ∧ val (pad6 k) = k := by
  have hN : (Lib.decDigits (1000000 + k)).length = 7 := by rw [dd_length]; exact Lib.nDigits_unique 6 _ (by omega) (by omega)
  have hd := dd_digs (1000000 + k)
  have hv := dd_val (1000000 + k)
  unfold pad6
  cases e : Lib.decDigits (1000000 + k) with
  | nil => rw [e] at hN; simp at hN
  | cons b r =>
    rw [e] at hN hd hv
    have hr : r.length = 6 := by simpa using hN
    obtain ⟨d1, d2⟩ := digs_cons.1 hd
    have := val_lt d2
    rw [hr] at this
    rw [val_cons, hr] at hv
    have hb : dv b = 1 := by omega
    have : b = 49 := dv_inj d1 rfl hb
    subst this
    refine ⟨rfl, hr, d2, ?_⟩
    show val r = k
    omega
def rateText (k : Int) : List UInt8 × Int × Unit :=
  if k < 1 ∨ k > 1000000 then ([], 10, ()) else if k = 1000000 then ([49], 0, ()) else ([48, 46] ++ trz (pad6 k.toNat), 0, ())
theorem rateText_num (n : Nat) (k : Int) : F.num_RateText n k = some (rateText k) := by
  unfold F.num_RateText rateText
  by_cases h1 : k < 1
  · rw [bif_pos h1, if_pos (Or.inl h1)]
  rw [bif_neg h1]
  by_cases h2 : k > 1000000
  · rw [bif_pos h2, if_pos (Or.inr h2)]
  rw [bif_neg h2, if_neg (by omega)]
  by_cases h3 : k = 1000000
  · subst h3; rfl
  have e3 : (k == 1000000) = false := by simpa using h3
  rw [e3, cond_false, if_neg h3, wrap_in (by omega)]
  obtain ⟨p1, p2, p3, p4⟩ := pad6_all (k := k.toNat) (by omega)
  have hi : O.itoa n (1000000 + k) = some (49 :: pad6 k.toNat) := by
    unfold O.itoa
    have : (decide (-9223372036854775808 ≤ 1000000 + k) && decide (1000000 + k ≤ 9223372036854775807)) = true := by simp; omega
    rw [this, cond_true]
    unfold Lib.itoa
    rw [if_neg (by omega), show (1000000 + k).toNat = 1000000 + k.toNat from by omega, p1]
  rw [hi, some_bind']
  have hsub : sub (49 :: pad6 k.toNat) 1 (((49 :: pad6 k.toNat).length : Nat) : Int) = some (pad6 k.toNat) := by
    have := sub_nat (49 :: pad6 k.toNat) 1 (49 :: pad6 k.toNat).length (by simp) (by simp)
    rw [List.take_length] at this
    exact this
  rw [hsub, some_bind']
  unfold O.trimR
  have hb : (Nat.blt (48 : UInt8).toNat 128 && Nat.ble (pad6 k.toNat).length big47) = true := by rw [p2]; rfl
  simp only [hb, cond_true, some_bind', trimR_trz]
  rw [bif_pos]
  have := trz_le (pad6 k.toNat)
  rw [strMax_eq]
  omega
def rateR (s : List UInt8) : NumR :=
  if s = [49] then numR 1000000 0 0 else if s = [] then numR 0 13 0 else if s.head? ≠ some 48 then numR 0 11 0 else if (s.drop 1).head? ≠ some 46 then numR 0 11 1
  else if s.drop 2 = [] then numR 0 13 2 else if 0 ≤ badK isDig 0 (s.drop 2) then numR 0 14 (2 + badK isDig 0 (s.drop 2)) else if 6 < (s.drop 2).length then numR 0 12 8
  else if val (s.drop 2) = 0 then numR 0 10 0 else numR ((val (s.drop 2) * 10 ^ (6 - (s.drop 2).length) : Nat) : Int) 0 0
theorem rate_digs_loop (n : Nat) (X : Type) (k3 : Int → Int → Int → Int → Int → Int → Int → Option X) (d : List UInt8) (hd : Digs d) (hl : d.length ≤ 6) (a b c e f g : Int) : ∀ (j i m : Nat), i + j = 6 → j < m →
    F.num_Rate.L23 n k3 m d (i : Int) a b c e f g (val ((d ++ List.replicate (6 - d.length) 48).take i) : Int) = k3 a b c e f g ((val d * 10 ^ (6 - d.length) : Nat) : Int) := by
  have hD : Digs (d ++ List.replicate (6 - d.length) 48) := digs_append.2 ⟨hd, digs_rep _⟩
  have hL : (d ++ List.replicate (6 - d.length) (48 : UInt8)).length = 6 := by simp; omega
  intro j
  induction j with
  | zero =>
    intro i m hi hm
    cases m with
    | zero => omega
    | succ m =>
      show F.num_Rate.L23.step n _ k3 d _ _ _ _ _ _ _ _ = _
      unfold F.num_Rate.L23.step
      rw [bif_neg (by omega), List.take_of_length_le (by omega), val_zeros_right]
  | succ j ih =>
    intro i m hi hm
    cases m with
    | zero => omega
    | succ m =>
      show F.num_Rate.L23.step n (F.num_Rate.L23 n k3 m) k3 d _ _ _ _ _ _ _ _ = _
      unfold F.num_Rate.L23.step
      rw [bif_pos (by omega), wrap_succ (by omega)]
      have hb : val ((d ++ List.replicate (6 - d.length) 48).take i) < 10 ^ i := by
        have := val_lt (digs_take i hD)
        rw [List.length_take, hL, Nat.min_eq_left (by omega)] at this
        exact this
      have hp : (10 : Nat) ^ i ≤ 10 ^ 6 := Nat.pow_le_pow_right (by omega) (by omega)
      have hstep : ∀ x, (d ++ List.replicate (6 - d.length) (48 : UInt8))[i]? = some x → val ((d ++ List.replicate (6 - d.length) 48).take (i + 1)) = val ((d ++ List.replicate (6 - d.length) 48).take i) * 10 + dv x := by
        intro x hx
        rw [List.take_add_one, hx]
        exact val_snoc _ _
      by_cases hlt : i < d.length
      · have hx : (d ++ List.replicate (6 - d.length) (48 : UInt8))[i]? = d[i]? := List.getElem?_append_left hlt
        rw [bif_pos (by omega), idx_lt hlt, some_bind']
        have hg : d[i]? = some d[i] := by simp [hlt]
        have hdx := List.all_eq_true.1 hd d[i] (List.getElem_mem hlt)
        have hdi := isDig_iff.1 hdx
        have hv := hstep d[i] (hx.trans hg)
        have hdl := dv_lt hdx
        have h8 : IntKind.wrap .i64 (IntKind.wrap .u8 ((d[i].toNat : Int) - 48)) = (dv d[i] : Int) := by
          rw [IntWalk.u8_in _ (by omega), wrap_in (by omega)]; unfold dv; omega
        rw [h8, wrap_in (x := 10 * _) (by omega), wrap_in (by omega), show 10 * (val ((d ++ List.replicate (6 - d.length) (48 : UInt8)).take i) : Int) + (dv d[i] : Int) = (val ((d ++ List.replicate (6 - d.length) (48 : UInt8)).take (i + 1)) : Int) from by omega]
        exact ih (i + 1) m (by omega) (by omega)
      · have hx : (d ++ List.replicate (6 - d.length) (48 : UInt8))[i]? = some 48 := by
          rw [List.getElem?_append_right (by omega), List.getElem?_replicate, if_pos (by omega)]
        have hv := hstep 48 hx
        rw [dv_48] at hv
        rw [bif_neg (by omega), wrap_in (x := 10 * _) (by omega), wrap_in (by omega), show 10 * (val ((d ++ List.replicate (6 - d.length) (48 : UInt8)).take i) : Int) + 0 = (val ((d ++ List.replicate (6 - d.length) (48 : UInt8)).take (i + 1)) : Int) from by omega]
        exact ih (i + 1) m (by omega) (by omega)
theorem rate_head_loop (n : Nat) (X : Type) (k0 : List UInt8 → Int → Int → Int → Int → Option X) (s : List UInt8) (m : Nat) (hm : 3 ≤ m) :
    F.num_Rate.L5 n k0 m s (48, 46, ()) 0 0 0 0 0 = if s = [] then k0 s 0 0 13 0 else if s.head? ≠ some 48 then k0 s 0 0 11 0 else if (s.drop 1).head? ≠ some 46 then k0 s 0 0 11 1 else k0 s 0 0 0 0 := by
  obtain ⟨m, rfl⟩ : ∃ q, m = q + 3 := ⟨m - 3, by omega⟩
  show F.num_Rate.L5.step n (F.num_Rate.L5 n k0 (m + 2)) k0 s _ _ _ _ _ _ = _
  have hb : ∀ (b c : UInt8), ((b.toNat : Int) == (c.toNat : Int)) = decide (b = c) := by
    intro b c
    by_cases h : b = c
    · simp [h]
    · have : ¬ (b.toNat : Int) = (c.toNat : Int) := fun hh => h (u8_ext (by omega))
      simp [h, this]
  cases s with
  | nil => rfl
  | cons b r =>
    have e48 : ((b.toNat : Int) == 48) = decide (b = 48) := hb b 48
    unfold F.num_Rate.L5.step
    have a1 : decide ((0 : Int) < 2) = true := rfl
    have a2 : ((0 : Int) == 0) = true := rfl
    have a3 : ((0 : Int) == (((b :: r).length : Nat) : Int)) = false := by
      have : ¬ (0 : Int) = (((b :: r).length : Nat) : Int) := by simp; omega
      simpa using this
    have a4 : decide ((0 : Int) ≥ (((b :: r).length : Nat) : Int)) = false := by
      have : ¬ (0 : Int) ≥ (((b :: r).length : Nat) : Int) := by simp only [List.length_cons]; omega
      exact decide_eq_false this
    have a5 : idx (b :: r) (0 : Int) = some b := rfl
    rw [a1, a2, a3, a4, a5, cond_true, cond_true, cond_false, cond_false, some_bind', e48]
    by_cases h1 : b = 48
    · subst h1
      simp only [decide_true, Bool.not_true, cond_false]
      show F.num_Rate.L5.step n (F.num_Rate.L5 n k0 (m + 1)) k0 _ _ 1 _ _ _ _ = _
      unfold F.num_Rate.L5.step
      have c1 : decide ((1 : Int) < 2) = true := rfl
      have c2 : ((1 : Int) == 0) = false := rfl
      have c3 : ((1 : Int) == 1) = true := rfl
      rw [c1, c2, c3, cond_true, cond_false, cond_true]
      cases r with
      | nil => rfl
      | cons c r =>
        have e46 : ((c.toNat : Int) == 46) = decide (c = 46) := hb c 46
        have b3 : ((1 : Int) == (((48 :: c :: r).length : Nat) : Int)) = false := by
          have : ¬ (1 : Int) = (((48 :: c :: r).length : Nat) : Int) := by simp; omega
          simpa using this
        have b4 : decide ((1 : Int) ≥ (((48 :: c :: r).length : Nat) : Int)) = false := by
          have : ¬ (1 : Int) ≥ (((48 :: c :: r).length : Nat) : Int) := by simp; omega
          simpa using this
        have b5 : idx (48 :: c :: r) (1 : Int) = some c := rfl
        rw [b3, b4, b5, cond_false, cond_false, some_bind', e46]
        by_cases h2 : c = 46
        · subst h2
          rfl
        · simp [h2]
    · simp [h1]
theorem rate_num (n : Nat) (hn : 100 ≤ n) (s : List UInt8) (hs : s.length ≤ 1000000) (hl : s.length < n) : F.num_Rate n s = some (rateR s) := by
  unfold F.num_Rate rateR
  by_cases h1 : s = [49]
  · rw [if_pos h1, h1]; rfl
  have e1 : (s == [49]) = false := by simpa using h1
  rw [e1, cond_false, if_neg h1, rate_head_loop n _ _ s n (by omega)]
  by_cases h2 : s = []
  · rw [if_pos h2, if_pos h2]; rfl
  rw [if_neg h2, if_neg h2]
  by_cases h3 : s.head? ≠ some 48
  · rw [if_pos h3, if_pos h3]; rfl
  rw [if_neg h3, if_neg h3]
  by_cases h4 : (s.drop 1).head? ≠ some 46
  · rw [if_pos h4, if_pos h4]; rfl
  rw [if_neg h4, if_neg h4]
  have e2 : (!((0 : Int) == 0 && (0 : Int) == 0)) = false := rfl
  simp only [e2, cond_false]
  have hlen : 2 ≤ s.length := by
    cases s with
    | nil => exact absurd rfl h2
    | cons b r => cases r with
      | nil => simp at h4
      | cons => simp
  have hsub : sub s 2 (s.length : Int) = some (s.drop 2) := by
    have := sub_nat s 2 s.length hlen (Nat.le_refl _)
    rw [List.take_length] at this
    exact this
  have hdl : (s.drop 2).length + 2 = s.length := by simp; omega
  rw [hsub, some_bind', text_cls n 4 _ _ _ (by omega) (by omega), some_bind', textF4 _ (by omega)]
  generalize s.drop 2 = d at hdl ⊢
  by_cases h5 : d = []
  · rw [if_pos h5, if_pos h5]; rfl
  rw [if_neg h5, if_neg h5]
  by_cases h6 : 0 ≤ badK isDig 0 d
  · rw [if_pos h6, if_pos h6]
    have := badK_hi isDig 0 d
    have e : (!((14 : Int) == 0 && badK isDig 0 d == 0)) = true := rfl
    simp only [e, cond_true, fault_eq, some_bind']
    rw [wrap_in (by omega)]
    rfl
  rw [if_neg h6, if_neg h6]
  simp only [e2, cond_false]
  have hd := digs_of_bad h6
  by_cases h7 : 6 < d.length
  · rw [bif_pos (by omega), if_pos h7]; rfl
  rw [bif_neg (by omega), if_neg h7]
  have := rate_digs_loop n _ (fun e12_b0_0 e12_b0_1 e12_b1_0 e12_b1_1 e12_b2_0 e12_b2_1 e12_b3_0 =>
                    bif e12_b3_0 == (0 : Int) then
                      (F.num_fault n (10 : Int) (0 : Int)).bind fun y13 =>
                        some ((y13.1, (y13.2.1.1, y13.2.1.2.1, ()), ()))
                    else
                      some ((e12_b3_0, ((0 : Int), (0 : Int), ()), ()))) d hd (by omega) 0 0 0 0 0 0 6 0 n (by omega) (by omega)
  refine this.trans ?_
  have hpp : 0 < 10 ^ (6 - d.length) := Nat.pow_pos (by omega)
  by_cases h8 : val d = 0
  · rw [if_pos h8, h8, Nat.zero_mul]; rfl
  · rw [if_neg h8]
    have : ¬ ((val d * 10 ^ (6 - d.length) : Nat) : Int) = 0 := by
      have := Nat.mul_pos (Nat.pos_of_ne_zero h8) hpp
      omega
    have e : (((val d * 10 ^ (6 - d.length) : Nat) : Int) == 0) = false := by simpa using this
    rw [e, cond_false]
    rfl
end Go.AM
set_option linter.unusedVariables false
set_option linter.unusedSimpArgs false
namespace Go.AM
theorem rate_form (d : List UInt8) : rateR (48 :: 46 :: d) = if d = [] then numR 0 13 2 else if 0 ≤ badK isDig 0 d then numR 0 14 (2 + badK isDig 0 d) else if 6 < d.length then numR 0 12 8
    else if val d = 0 then numR 0 10 0 else numR ((val d * 10 ^ (6 - d.length) : Nat) : Int) 0 0 := by
  unfold rateR
  rw [if_neg (by simp), if_neg (by simp), if_neg (by simp), if_neg (by simp)]
  rfl
theorem rateText_form {k : Int} (hk : 1 ≤ k ∧ k < 1000000) : rateText k = (48 :: 46 :: trz (pad6 k.toNat), 0, ()) := by
  unfold rateText
  rw [if_neg (by omega), if_neg (by omega)]; rfl
theorem rate_ok {s : List UInt8} (h : (rateR s).2.1.1 = 0) : (rateR s).2.1.2.1 = 0 ∧ 1 ≤ (rateR s).1 ∧ (rateR s).1 ≤ 1000000 ∧ (rateText (rateR s).1).2.1 = 0 ∧
    ∃ a j, s = a ++ List.replicate j 48 ∧ (rateText (rateR s).1).1 = a ∧ a ≠ [] ∧ (∀ x, a.getLast? = some x → x ≠ 48) := by
  by_cases h1 : s = [49]
  · subst h1
    exact ⟨rfl, by decide, by decide, rfl, [49], 0, rfl, rfl, by simp, by simp⟩
  have e := h
  unfold rateR at e
  rw [if_neg h1] at e
  by_cases h2 : s = []
  · rw [if_pos h2] at e; cases e
  rw [if_neg h2] at e
  by_cases h3 : s.head? ≠ some 48
  · rw [if_pos h3] at e; cases e
  rw [if_neg h3] at e
  by_cases h4 : (s.drop 1).head? ≠ some 46
  · rw [if_pos h4] at e; cases e
  clear e
  obtain ⟨d, rfl⟩ : ∃ d, s = 48 :: 46 :: d := by
    cases s with
    | nil => exact absurd rfl h2
    | cons b r => cases r with
      | nil => simp at h4
      | cons c r =>
        simp at h3 h4
        exact ⟨r, by rw [h3, h4]⟩
  rw [rate_form] at h ⊢
  by_cases g1 : d = []
  · rw [if_pos g1] at h; cases h
  rw [if_neg g1] at h ⊢
  by_cases g2 : 0 ≤ badK isDig 0 d
  · rw [if_pos g2] at h; cases h
  rw [if_neg g2] at h ⊢
  by_cases g3 : 6 < d.length
  · rw [if_pos g3] at h; cases h
  rw [if_neg g3] at h ⊢
  by_cases g4 : val d = 0
  · rw [if_pos g4] at h; cases h
  rw [if_neg g4]
  have hd := digs_of_bad g2
  have hp : 0 < 10 ^ (6 - d.length) := Nat.pow_pos (by omega)
  have hpos := Nat.mul_pos (Nat.pos_of_ne_zero g4) hp
  have hub : val d * 10 ^ (6 - d.length) < 1000000 := by
    have h5 := val_lt (digs_append.2 ⟨hd, digs_rep (6 - d.length)⟩)
    rw [val_zeros_right, List.length_append, List.length_replicate, show d.length + (6 - d.length) = 6 from by omega] at h5
    exact h5
  have hk : 1 ≤ ((val d * 10 ^ (6 - d.length) : Nat) : Int) ∧ ((val d * 10 ^ (6 - d.length) : Nat) : Int) < 1000000 := by omega
  have hf := rateText_form hk
  obtain ⟨p1, p2, p3, p4⟩ := pad6_all hub
  have hpd : pad6 (val d * 10 ^ (6 - d.length)) = d ++ List.replicate (6 - d.length) 48 :=
    val_inj p3 (digs_append.2 ⟨hd, digs_rep _⟩) (by simp; omega) (by rw [p4, val_zeros_right])
  have ht : trz (pad6 (val d * 10 ^ (6 - d.length))) = trz d := by rw [hpd, trz_zeros]
  have hne : trz d ≠ [] := fun hh => g4 ((trz_nil hd).1 hh)
  show (0 : Int) = 0 ∧ _ ∧ _ ∧ (rateText ((val d * 10 ^ (6 - d.length) : Nat) : Int)).2.1 = 0 ∧ ∃ a j, _ ∧ (rateText ((val d * 10 ^ (6 - d.length) : Nat) : Int)).1 = a ∧ _
  rw [hf]
  refine ⟨rfl, hk.1, by show ((val d * 10 ^ (6 - d.length) : Nat) : Int) ≤ 1000000; omega, rfl, 48 :: 46 :: trz d, d.length - (trz d).length, ?_, ?_, by simp, ?_⟩
  · rw [List.cons_append, List.cons_append, ← trz_pad]
  · show 48 :: 46 :: trz (pad6 (val d * 10 ^ (6 - d.length))) = _
    rw [ht]
  · intro x hx
    refine trz_last (l := d) ?_
    rw [← hx]
    cases e : trz d with
    | nil => exact absurd e hne
    | cons b r => simp [List.getLast?_cons]
end Go.AM
set_option linter.unusedVariables false
set_option linter.unusedSimpArgs false
namespace Go.AM
def TagS (t : TagL) : Prop := t.1.length ≤ 1000 ∧ t.2.length ≤ 1000
theorem textF_zero {c : Int} {s : List UInt8} {lo hi : Int} (h : (textF c s lo hi).1 = 0) : lo ≤ (s.length : Int) ∧ (s.length : Int) ≤ hi ∧ s.all (cls c) = true := by
  unfold textF at h
  split at h
  · cases h
  · split at h
    · cases h
    · split at h
      · cases h
      · split at h
        · cases h
        · rename_i h1 h2 h3 h4
          exact ⟨by omega, by omega, Classical.byContradiction fun hh => h4 ((badK_ge _ _ _).2 hh)⟩
theorem tagGood_le {t : TagL} (h : tagGood t = true) : TagS t := by
  unfold tagGood at h
  simp only [Bool.and_eq_true, beq_iff_eq] at h
  have h1 := textF_zero h.1
  have h2 := textF_zero h.2
  exact ⟨by omega, by omega⟩
theorem growS {X : Type} {a b : Nat} (h : a + b ≤ 1000000) (y : Option X) : (bif decide (a + b ≤ strMax) then y else none) = y := by
  rw [decide_eq_true (by rw [strMax_eq]; omega)]; rfl
theorem growB {X : Type} {a b : Nat} (h : a + b ≤ 1000000) (y : Option X) : (bif decide ((a + b) * 1 ≤ 2 ^ 46) && decide (0 < 1 ∧ 1 ≤ 2 ^ 20) then y else none) = y := by
  rw [decide_eq_true (by omega)]; rfl
theorem growL {X : Type} {a : Nat} (h : a ≤ 1000000) (y : Option X) : (bif decide ((a + 1) * 16 ≤ 2 ^ 46) && decide (0 < 16 ∧ 16 ≤ 2 ^ 20) then y else none) = y := by
  rw [decide_eq_true (by omega)]; rfl
def wordT (k : Int) : List UInt8 := if k = 1 then [99] else if k = 2 then [103] else if k = 3 then [109, 115] else if k = 4 then [104] else if k = 5 then [100] else []
theorem word_eq (n : Nat) (k : Int) : F.dog_Word n k = some (if kindB k then (wordT k, 0, ()) else ([], 16, ())) := by
  unfold F.dog_Word
  by_cases h1 : k < 1
  · have : kindB k = false := by unfold kindB; rw [decide_eq_false (by omega)]; rfl
    rw [bif_pos h1, this]; rfl
  · rw [bif_neg h1]
    by_cases h2 : k > 5
    · have : kindB k = false := by unfold kindB; rw [decide_eq_false (by omega : ¬ k ≤ 5), Bool.and_false]
      rw [bif_pos h2, this]; rfl
    · have hk : k = 1 ∨ k = 2 ∨ k = 3 ∨ k = 4 ∨ k = 5 := by omega
      rw [bif_neg h2]
      rcases hk with rfl | rfl | rfl | rfl | rfl <;> rfl
theorem word_short (k : Int) : (wordT k).length ≤ 2 := by
  unfold wordT; repeat' split
  all_goals decide
def textL (d : DecL) : List UInt8 := textD d.1 d.2.1.toNat d.2.2
def valsT (vs : List DecL) : List UInt8 := (vs.map fun d => 58 :: textL d).flatten
def oneT (t : TagL) : List UInt8 := if t.2 = [] then t.1 else t.1 ++ ([58] ++ t.2)
def tagText (ts : List TagL) : List UInt8 := Lib.join (ts.map oneT) [44]
def rateP (r : Int) : List UInt8 := if r = 1000000 then [] else [124, 64] ++ (rateText r).1
def tagsP (ts : List TagL) : List UInt8 := if ts = [] then [] else [124, 35] ++ tagText ts
def timeP (t : Int) : List UInt8 := if t = 0 then [] else [124, 84] ++ Lib.decDigits t.toNat
def lineD (m : MetD) : List UInt8 := m.1 ++ valsT m.2.2.1 ++ ([124] ++ wordT m.2.1) ++ rateP m.2.2.2.1 ++ tagsP m.2.2.2.2.1 ++ timeP m.2.2.2.2.2.1
theorem valsT_le {vs : List DecL} (h : ∀ d ∈ vs, DecLOK d ∧ decC d = 0) : (valsT vs).length ≤ 40 * vs.length := by
  induction vs with
  | nil => simp [valsT]
  | cons d vs ih =>
    have := textD_le (h d (by simp)).1 (h d (by simp)).2
    have h2 := ih (fun x hx => h x (List.mem_cons_of_mem _ hx))
    have e : (valsT (d :: vs)).length = (textL d).length + 1 + (valsT vs).length := by simp [valsT]; omega
    have e2 : (textL d).length ≤ 39 := this
    simp only [List.length_cons]
    omega
theorem oneT_le {t : TagL} (h : TagS t) : (oneT t).length ≤ 2001 := by
  unfold oneT
  have := h.1; have := h.2
  split <;> simp <;> omega
theorem join_le (sep : List UInt8) (b : Nat) : ∀ l : List (List UInt8), (∀ x ∈ l, x.length ≤ b) → (Lib.join l sep).length ≤ l.length * (b + sep.length) := by
  intro l h
  cases l with
  | nil => simp [Lib.join]
  | cons x l =>
    rw [Lib.join_cons]
    have : ∀ l : List (List UInt8), (∀ x ∈ l, x.length ≤ b) → (Lib.joinTail sep l).length ≤ l.length * (b + sep.length) := by
      intro l
      induction l with
      | nil => intro _; simp [Lib.joinTail]
      | cons y l ih =>
        intro h
        have h1 := ih (fun x hx => h x (List.mem_cons_of_mem _ hx))
        have h2 := h y (by simp)
        have : Lib.joinTail sep (y :: l) = sep ++ y ++ Lib.joinTail sep l := by simp [Lib.joinTail]
        rw [this, List.length_append, List.length_append, List.length_cons, Nat.add_mul]
        omega
    have h1 := this l (fun x hx => h x (List.mem_cons_of_mem _ hx))
    have h2 := h x (by simp)
    rw [List.length_append, List.length_cons, Nat.add_mul]
    omega
theorem tagText_le {ts : List TagL} (h : ∀ t ∈ ts, TagS t) (hl : ts.length ≤ 32) : (tagText ts).length ≤ 70000 := by
  unfold tagText
  have := join_le [44] 2001 (ts.map oneT) (fun x hx => by
    obtain ⟨t, ht, rfl⟩ := List.mem_map.1 hx
    exact oneT_le (h t ht))
  rw [List.length_map] at this
  have h2 : ts.length * (2001 + [(44 : UInt8)].length) ≤ 32 * 2002 := Nat.mul_le_mul_right _ hl
  omega
theorem tagText_loop (n : Nat) (hn : 200000 ≤ n) (X : Type) (k0 : List (List UInt8) → Nat → Option X) (kr : List UInt8 → Int → Int → Option X) (ts : List TagL) (hl : ts.length ≤ 1000) (hok : ∀ t ∈ ts, TagS t ∧ tagGood t = true) : ∀ (r : List TagL) (acc : List (List UInt8)) (i m : Nat), ts.drop i = r → acc.length ≤ i → i ≤ ts.length → r.length < m →
    F.tag_Text.L3 n k0 kr m acc ts (ts.length : Int) (i : Int) acc.length = k0 (acc ++ r.map oneT) (acc ++ r.map oneT).length := by
  intro r
  induction r with
  | nil =>
    intro acc i m h1 h2 hi hm
    obtain ⟨m, rfl⟩ : ∃ q, m = q + 1 := ⟨m - 1, by omega⟩
    rw [F.tag_Text.L3]
    unfold F.tag_Text.L3.step
    dsimp only
    rw [bif_neg (by have := drop_nil' h1; omega)]
    simp
  | cons t r ih =>
    intro acc i m h1 h2 hi hm
    obtain ⟨m, rfl⟩ : ∃ q, m = q + 1 := ⟨m - 1, by simp at hm; omega⟩
    obtain ⟨l1, g1, t1⟩ := drop_cons h1
    simp only [List.length_cons] at hm
    obtain ⟨ht, hg⟩ := hok t (List.mem_of_getElem? g1)
    have a1 := ht.1
    have a2 := ht.2
    have hih := ih (acc ++ [oneT t]) (i + 1) m t1 (by simp; omega) (by omega) (by omega)
    have e : acc ++ [oneT t] ++ r.map oneT = acc ++ (t :: r).map oneT := by simp
    rw [e] at hih
    rw [F.tag_Text.L3]
    unfold F.tag_Text.L3.step
    dsimp only
    rw [bif_pos (by omega), idx_nat, g1, some_bind', tag_chk n hn ⟨by omega, by omega⟩, some_bind', hg, cond_true]
    rw [wrap_succ (by omega), Nat.beq_refl, growL (by omega), growL (by omega)]
    simp only [beq_self_eq_true, Bool.not_true, cond_false, cond_true]
    by_cases h0 : t.2 = []
    · rw [h0, beq_self_eq_true, Bool.not_true, cond_false]
      have e1 : oneT t = t.1 := by unfold oneT; rw [if_pos h0]
      rw [e1] at hih
      exact hih
    · rw [beq_eq_false_iff_ne.2 h0, Bool.not_false, cond_true, growS (by omega), growS (by simp only [List.length_append, List.length_cons, List.length_nil]; omega)]
      have e1 : oneT t = t.1 ++ ([58] ++ t.2) := by unfold oneT; rw [if_neg h0]
      rw [e1] at hih
      exact hih
theorem tagText_eq (n : Nat) (hn : 200000 ≤ n) (ts : List TagL) (hl : ts.length ≤ 32) (hok : ∀ t ∈ ts, TagS t ∧ tagGood t = true) : F.tag_Text n ts = some (tagText ts, 0, 0, ()) := by
  unfold F.tag_Text
  refine (tagText_loop n hn _ _ _ ts (by omega) hok ts [] 0 n rfl (by simp) (by omega) (by omega)).trans ?_
  have e1 : O.join n (ts.map oneT) [44] = some (tagText ts) := by
    unfold O.join
    have h2 := tagText_le (fun t ht => (hok t ht).1) hl
    unfold tagText at h2
    have : (Nat.ble (ts.map oneT).length big47 && Nat.ble (Lib.join (ts.map oneT) [44]).length big47) = true := by
      simp only [Bool.and_eq_true, nble, big47, List.length_map]
      omega
    rw [this, cond_true]; rfl
  show (O.join n (ts.map oneT) [44]).bind _ = _
  rw [e1]; rfl
theorem one_ref (n : Nat) {t : TagL} (h : TagS t) : F.ref06_One n (t.1, t.2, ()) = some (oneT t) := by
  unfold F.ref06_One oneT
  have a1 := h.1
  have a2 := h.2
  dsimp only
  by_cases h0 : t.2 = []
  · rw [h0, beq_self_eq_true, cond_true, if_pos rfl]
  · rw [beq_eq_false_iff_ne.2 h0, cond_false, growS (by omega), growS (by simp only [List.length_append, List.length_cons, List.length_nil]; omega), if_neg h0]
    simp
end Go.AM
set_option linter.unusedVariables false
set_option linter.unusedSimpArgs false
namespace Go.AM
theorem rateP_le {k r : Int} (h : rateB k r = true) : (rateP r).length ≤ 20 ∧ (rateText r).2.1 = 0 ∧ 1 ≤ r ∧ r ≤ 1000000 := by
  have hr : 1 ≤ r ∧ r ≤ 1000000 := by
    unfold rateB at h
    simp only [Bool.and_eq_true, decide_eq_true_eq] at h
    exact ⟨h.1, h.2.1⟩
  by_cases e : r = 1000000
  · subst e; exact ⟨by decide, by decide, by omega, by omega⟩
  · have hf := rateText_form (k := r) ⟨hr.1, by omega⟩
    have h6 := (pad6_all (k := r.toNat) (by omega)).2.1
    have ht := trz_le (pad6 r.toNat)
    unfold rateP
    rw [if_neg e, hf]
    refine ⟨?_, rfl, hr⟩
    simp only [List.length_append, List.length_cons, List.length_nil]
    omega
theorem timeP_le {t : Int} (h : timeB t = true) : (timeP t).length ≤ 24 ∧ 0 ≤ t ∧ t ≤ 1099511627776 := by
  have hr : 0 ≤ t ∧ t ≤ 1099511627776 := by
    unfold timeB at h
    simpa only [Bool.and_eq_true, decide_eq_true_eq] using h
  refine ⟨?_, hr⟩
  have := dd_len64 (c := t.toNat) (by rw [two64_eq]; omega)
  unfold timeP
  split
  · simp
  · simp only [List.length_append, List.length_cons, List.length_nil]; omega
structure RightM (m : MetD) : Prop where
  ok : MetOK m
  chk : chkM m = 0
theorem right_vals {m : MetD} (h : RightM m) : (∀ d ∈ m.2.2.1, DecLOK d ∧ decC d = 0) ∧ 1 ≤ m.2.2.1.length ∧ m.2.2.1.length ≤ 64 := by
  have := (chk_zero h.chk).2.2.1
  unfold valsB at this
  simp only [Bool.and_eq_true, decide_eq_true_eq] at this
  refine ⟨fun d hd => ⟨h.ok.2.1.2 d hd, ?_⟩, this.1, this.2.1⟩
  simpa using List.all_eq_true.1 this.2.2 d hd
theorem right_tags {m : MetD} (h : RightM m) : (∀ t ∈ m.2.2.2.2.1, TagS t ∧ tagGood t = true) ∧ m.2.2.2.2.1.length ≤ 32 := by
  have := (chk_zero h.chk).2.2.2.2.1
  unfold tagsB at this
  simp only [Bool.and_eq_true, decide_eq_true_eq] at this
  exact ⟨fun t ht => ⟨tagGood_le (List.all_eq_true.1 this.2 t ht), List.all_eq_true.1 this.2 t ht⟩, this.1⟩
theorem nameOK_le {s : List UInt8} (h : nameOK s = true) : 1 ≤ s.length ∧ s.length ≤ 200 := by
  rw [nameOK_eq] at h
  simp only [Bool.and_eq_true, decide_eq_true_eq] at h
  exact h.2
theorem line_loop (n : Nat) (hn : 200000 ≤ n) (X : Type) (k0 : List UInt8 → Int → List DecL → Int → List TagL → Int → (Nat × List UInt8) → (Nat × Nat) → Int → Option X) (b0 : List UInt8) (b1 : Int) (b2 : List DecL) (b3 : Int) (b4 : List TagL) (b5 : Int) (vs : List DecL) (hl : vs.length ≤ 100) (hok : ∀ d ∈ vs, DecLOK d ∧ decC d = 0) : ∀ (r : List DecL) (acc : List UInt8) (v i m : Nat), vs.drop i = r → acc.length ≤ 1000 + i * 40 → i ≤ vs.length → r.length < m →
    ∃ v', F.dog_Line.L9 n k0 m vs (vs.length : Int) (i : Int) b0 b1 b2 b3 b4 b5 (v, acc) (v, acc.length) 0 = k0 b0 b1 b2 b3 b4 b5 (v', acc ++ valsT r) (v', (acc ++ valsT r).length) 0 := by
  intro r
  induction r with
  | nil =>
    intro acc v i m h1 h2 hi hm
    obtain ⟨m, rfl⟩ : ∃ q, m = q + 1 := ⟨m - 1, by omega⟩
    refine ⟨v, ?_⟩
    rw [F.dog_Line.L9]
    unfold F.dog_Line.L9.step
    dsimp only
    rw [bif_neg (by have := drop_nil' h1; omega)]
    simp [valsT]
  | cons d r ih =>
    intro acc v i m h1 h2 hi hm
    obtain ⟨m, rfl⟩ : ∃ q, m = q + 1 := ⟨m - 1, by simp at hm; omega⟩
    obtain ⟨l1, g1, t1⟩ := drop_cons h1
    simp only [List.length_cons] at hm
    obtain ⟨hd, h0⟩ := hok d (List.mem_of_getElem? g1)
    have hlen : (textL d).length ≤ 39 := textD_le hd h0
    have hT : F.dec_Text n (d.1, d.2.1, d.2.2, ()) = some (textL d, 0, ()) := decText_eq n hn hd h0
    obtain ⟨v', hv⟩ := ih (acc ++ ([58] ++ textL d)) (v + 1) (i + 1) m t1 (by simp only [List.length_append, List.length_cons, List.length_nil]; omega) (by omega) (by omega)
    refine ⟨v', ?_⟩
    rw [F.dog_Line.L9]
    unfold F.dog_Line.L9.step
    dsimp only
    rw [bif_pos (by omega), idx_nat, g1, some_bind', hT, some_bind', wrap_succ (by omega)]
    dsimp only
    rw [beq_self_eq_true, cond_true, growS (by omega), Nat.beq_refl, cond_true, growB (by simp only [List.length_append, List.length_cons, List.length_nil]; omega)]
    rw [hv]
    simp [valsT]
theorem c25_eq (n : Nat) (X : Type) (kr : List UInt8 → Int → Option X) (b0 : List UInt8) (b1 : Int) (b2 : List DecL) (b3 : Int) (b4 : List TagL) (b5 : Int) (B : List UInt8) (v l : Nat) (hB : B ≠ []) : F.dog_Line.C25 n kr b0 b1 b2 b3 b4 b5 (v, B) (v, l) 0 = kr B 0 := by
  unfold F.dog_Line.C25
  dsimp only
  rw [beq_self_eq_true, Bool.not_true, cond_false, Nat.beq_refl, cond_true]
  cases B with
  | nil => exact absurd rfl hB
  | cons x B => rfl
theorem c22_eq (n : Nat) (X : Type) (kr : List UInt8 → Int → Option X) (b0 : List UInt8) (b1 : Int) (b2 : List DecL) (b3 : Int) (b4 : List TagL) (b5 : Int) (h5 : timeB b5 = true) (B : List UInt8) (v : Nat) (hB : B ≠ []) (hl : B.length ≤ 200000) : F.dog_Line.C22 n kr b0 b1 b2 b3 b4 b5 (v, B) (v, B.length) 0 = kr (B ++ timeP b5) 0 := by
  obtain ⟨t1, t2, t3⟩ := timeP_le h5
  unfold F.dog_Line.C22 timeP
  by_cases e : b5 = 0
  · rw [e, beq_self_eq_true, Bool.not_true, cond_false, if_pos rfl, List.append_nil]
    exact c25_eq n X _ b0 b1 b2 b3 b4 0 B v _ hB
  · have hd : F.num_Text n b5 = some (Lib.decDigits b5.toNat, 0, ()) := by
      rw [text_num n b5 (by omega)]; unfold numText; rw [if_neg (by omega)]
    have hdl := dd_len64 (c := b5.toNat) (by rw [two64_eq]; omega)
    rw [beq_eq_false_iff_ne.2 e, Bool.not_false, cond_true, hd, some_bind', if_neg e]
    dsimp only
    rw [beq_self_eq_true, cond_true, growS (by omega), Nat.beq_refl, cond_true, growB (by simp only [List.length_append, List.length_cons, List.length_nil]; omega)]
    exact c25_eq n X _ b0 b1 b2 b3 b4 b5 _ _ _ (by simp)
theorem c19_eq (n : Nat) (hn : 200000 ≤ n) (X : Type) (kr : List UInt8 → Int → Option X) (b0 : List UInt8) (b1 : Int) (b2 : List DecL) (b3 : Int) (b4 : List TagL) (b5 : Int) (h5 : timeB b5 = true) (hts : b4.length ≤ 32) (ht : ∀ t ∈ b4, TagS t ∧ tagGood t = true) (B : List UInt8) (v : Nat) (hB : B ≠ []) (hl : B.length ≤ 100000) : F.dog_Line.C19 n kr b0 b1 b2 b3 b4 b5 (v, B) (v, B.length) 0 = kr (B ++ tagsP b4 ++ timeP b5) 0 := by
  have htl := tagText_le (fun t ht' => (ht t ht').1) hts
  unfold F.dog_Line.C19 tagsP
  by_cases e : b4 = []
  · rw [e, bif_neg (by simp), if_pos rfl, List.append_nil]
    exact c22_eq n X _ b0 b1 b2 b3 [] b5 h5 B v hB (by omega)
  · have hlen : 0 < b4.length := List.length_pos_iff.2 e
    rw [bif_pos (by omega), tagText_eq n hn b4 hts ht, some_bind', if_neg e]
    dsimp only
    rw [beq_self_eq_true, cond_true, growS (by omega), Nat.beq_refl, cond_true, growB (by simp only [List.length_append, List.length_cons, List.length_nil]; omega)]
    exact c22_eq n X _ b0 b1 b2 b3 b4 b5 h5 _ _ (by simp) (by simp only [List.length_append, List.length_cons, List.length_nil]; omega)
theorem c16_eq (n : Nat) (hn : 200000 ≤ n) (X : Type) (kr : List UInt8 → Int → Option X) (b0 : List UInt8) (b1 : Int) (b2 : List DecL) (b3 : Int) (b4 : List TagL) (b5 : Int) (k : Int) (h3 : rateB k b3 = true) (h5 : timeB b5 = true) (hts : b4.length ≤ 32) (ht : ∀ t ∈ b4, TagS t ∧ tagGood t = true) (B : List UInt8) (v : Nat) (hB : B ≠ []) (hl : B.length ≤ 50000) : F.dog_Line.C16 n kr b0 b1 b2 b3 b4 b5 (v, B) (v, B.length) 0 = kr (B ++ rateP b3 ++ tagsP b4 ++ timeP b5) 0 := by
  obtain ⟨r1, r2, r3, r4⟩ := rateP_le h3
  unfold F.dog_Line.C16
  by_cases e : b3 = 1000000
  · have : rateP b3 = [] := by unfold rateP; rw [if_pos e]
    rw [this, List.append_nil, e, beq_self_eq_true, Bool.not_true, cond_false]
    exact c19_eq n hn X _ b0 b1 b2 1000000 b4 b5 h5 hts ht B v hB (by omega)
  · have hP : rateP b3 = [124, 64] ++ (rateText b3).1 := by unfold rateP; rw [if_neg e]
    have hrl : (rateText b3).1.length ≤ 20 := by rw [hP] at r1; simp only [List.length_append, List.length_cons, List.length_nil] at r1; omega
    rw [hP, beq_eq_false_iff_ne.2 e, Bool.not_false, cond_true, rateText_num, some_bind', beq_self_eq_true, cond_true, growS (by omega)]
    dsimp only
    rw [Nat.beq_refl, cond_true, growB (by simp only [List.length_append, List.length_cons, List.length_nil]; omega), r2]
    exact c19_eq n hn X _ b0 b1 b2 b3 b4 b5 h5 hts ht _ _ (by simp) (by simp only [List.length_append, List.length_cons, List.length_nil]; omega)
def lineM (m : MetD) : List UInt8 × Int × Unit := if (normM m).2.1 = 0 then (lineD (normM m).1, 0, ()) else ([], (normM m).2.1, ())
theorem normM_cases {m : MetD} (hm : MetOK m) : (normM m = (formM m, 0, ()) ∧ RightM (formM m)) ∨ (∃ e, e ≠ 0 ∧ normM m = (zeroM, e, ())) := by
  unfold normM
  by_cases h : chkM (valsM m) = 0
  · refine Or.inl ⟨if_pos h, ?_, ?_⟩
    · have hv := valsM_ok hm
      refine ⟨hm.1, hv.2.1, ?_, ?_⟩
      · have h1 := normT_len m.2.2.2.2.1
        have h2 := hm.2.2.1
        show (normT m.2.2.2.2.1).length ≤ 10000
        omega
      · intro t ht
        exact hm.2.2.2 t ((normT_mem _ _).1 ht)
    · obtain ⟨c1, c2, c3, c4, c5, c6⟩ := chk_zero h
      have c5' : tagsB (formM m).2.2.2.2.1 = true := by
        unfold tagsB at c5 ⊢
        simp only [Bool.and_eq_true, decide_eq_true_eq] at c5 ⊢
        have h1 := normT_len m.2.2.2.2.1
        have h2 : m.2.2.2.2.1.length ≤ 32 := c5.1
        refine ⟨?_, List.all_eq_true.2 (fun t ht => List.all_eq_true.1 c5.2 t ((normT_mem _ _).1 ht))⟩
        show (normT m.2.2.2.2.1).length ≤ 32
        omega
      unfold chkM
      have d1 : nameOK (formM m).1 = true := c1
      have d2 : kindB (formM m).2.1 = true := c2
      have d3 : valsB (formM m).2.2.1 = true := c3
      have d4 : rateB (formM m).2.1 (formM m).2.2.2.1 = true := c4
      have d6 : timeB (formM m).2.2.2.2.2.1 = true := c6
      rw [d1, d2, d3, d4, c5', d6]
      rfl
  · exact Or.inr ⟨_, h, if_neg h⟩
theorem line_eq (n : Nat) (hn : 200000 ≤ n) (m : MetD) (hm : MetOK m) : F.dog_Line n m = some (lineM m) := by
  unfold F.dog_Line lineM
  have hN : F.metric_Normal n (m.1, m.2.1, m.2.2.1, m.2.2.2.1, m.2.2.2.2.1, m.2.2.2.2.2.1, ()) = some (normM m) := metNormal_eq n hn m hm
  rw [hN, some_bind']
  rcases normM_cases hm with ⟨h1, hR⟩ | ⟨e, he, h1⟩
  · rw [h1]
    generalize formM m = f at hR
    obtain ⟨hv, hv1, hv2⟩ := right_vals hR
    obtain ⟨ht, ht2⟩ := right_tags hR
    obtain ⟨c1, c2, c3, c4, c5, c6⟩ := chk_zero hR.chk
    have hnm := nameOK_le c1
    have hvl := valsT_le hv
    obtain ⟨nm, k, vs, r, ts, t, _⟩ := f
    dsimp only at hv hv1 hv2 ht ht2 c1 c2 c3 c4 c5 c6 hnm hvl ⊢
    rw [beq_self_eq_true, Bool.not_true, cond_false, if_pos rfl, growS (by omega), growB (by simp only [List.length_append, List.length_nil]; omega)]
    obtain ⟨v', hloop⟩ := line_loop n hn _ (fun e4_b0_0 e4_b0_1 e4_b0_2 e4_b0_3 e4_b0_4 e4_b0_5 e4_b1_0 e4_b2_1 e4_b3_0 =>
            (F.dog_Word n e4_b0_1).bind fun y5 =>
              bif e4_b3_0 == (0 : Int) then
                bif decide (1 + y5.1.length ≤ strMax) then
                  bif Nat.beq e4_b2_1.1 e4_b1_0.1 then
                    bif decide ((e4_b1_0.2.length + ((([124]) ++ y5.1).length)) * 1 ≤ 2 ^ 46) && decide (0 < 1 ∧ 1 ≤ 2 ^ 20) then
                      F.dog_Line.C16 n
                        (fun e30_2 e30_3 =>
                          some ((e30_2, e30_3, ()))) e4_b0_0 e4_b0_1 e4_b0_2 e4_b0_3 e4_b0_4 e4_b0_5 (e4_b2_1.1 + 1, e4_b1_0.2 ++ (([124]) ++ y5.1)) (e4_b2_1.1 + 1, (e4_b1_0.2 ++ (([124]) ++ y5.1)).length) y5.2.1
                    else
                      none
                  else
                    none
                else
                  none
              else
              bif decide (1 + y5.1.length ≤ strMax) then
                bif Nat.beq e4_b2_1.1 e4_b1_0.1 then
                  bif decide ((e4_b1_0.2.length + ((([124]) ++ y5.1).length)) * 1 ≤ 2 ^ 46) && decide (0 < 1 ∧ 1 ≤ 2 ^ 20) then
                    F.dog_Line.C16 n
                      (fun e31_2 e31_3 =>
                        some ((e31_2, e31_3, ()))) e4_b0_0 e4_b0_1 e4_b0_2 e4_b0_3 e4_b0_4 e4_b0_5 (e4_b2_1.1 + 1, e4_b1_0.2 ++ (([124]) ++ y5.1)) (e4_b2_1.1 + 1, (e4_b1_0.2 ++ (([124]) ++ y5.1)).length) e4_b3_0
                  else
                    none
                else
                  none
              else
                none) nm k vs r ts t vs (by omega) hv vs nm 2 0 n rfl (by omega) (by omega) (by omega)
    refine hloop.trans ?_
    dsimp only
    have hws := word_short k
    rw [word_eq, c2, if_pos rfl, some_bind']
    dsimp only
    rw [beq_self_eq_true, cond_true, growS (by omega), Nat.beq_refl, cond_true, growB (by simp only [List.length_append, List.length_cons, List.length_nil]; omega)]
    exact c16_eq n hn _ _ nm k vs r ts t k c4 c6 ht2 ht _ _ (by simp) (by simp only [List.length_append, List.length_cons, List.length_nil]; omega)
  · rw [h1]
    dsimp only
    rw [if_neg he, beq_eq_false_iff_ne.2 he, Bool.not_false, cond_true]
end Go.AM
set_option linter.unusedVariables false
set_option linter.unusedSimpArgs false
namespace Go.AM
abbrev Res (α : Type) := Except (Int × Int) α
def kindR (s : List UInt8) : Int := if s = [99] then 1 else if s = [103] then 2 else if s = [109, 115] then 3 else if s = [104] then 4 else if s = [100] then 5 else 0
theorem kind_eq (n : Nat) (hn : 100 ≤ n) (s : List UInt8) : F.dog_Kind n s = some (if kindR s = 0 then (0, 16, ()) else (kindR s, 0, ())) := by
  obtain ⟨m, hm⟩ : ∃ q, n = q + 7 := ⟨n - 7, by omega⟩
  unfold F.dog_Kind
  rw [show F.dog_words n = some ([], [99], [103], [109, 115], [104], [100], ()) from rfl, some_bind']
  have L : ∀ (k0 : Unit → Option (Int × Int × Unit)) (kr : Int → Int → Option (Int × Int × Unit)), F.dog_Kind.L2 n k0 kr (m + 7) s ([], [99], [103], [109, 115], [104], [100], ()) (0 : Int) = if s = [99] then kr 1 0 else if s = [103] then kr 2 0 else if s = [109, 115] then kr 3 0 else if s = [104] then kr 4 0 else if s = [100] then kr 5 0 else k0 () := by
    intro k0 kr
    have e1 : ([99] == s) = decide (s = [99]) := by by_cases h : s = [99] <;> simp [h]; exact fun h' => h h'.symm
    have e2 : ([103] == s) = decide (s = [103]) := by by_cases h : s = [103] <;> simp [h]; exact fun h' => h h'.symm
    have e3 : ([109, 115] == s) = decide (s = [109, 115]) := by by_cases h : s = [109, 115] <;> simp [h]; exact fun h' => h h'.symm
    have e4 : ([104] == s) = decide (s = [104]) := by by_cases h : s = [104] <;> simp [h]; exact fun h' => h h'.symm
    have e5 : ([100] == s) = decide (s = [100]) := by by_cases h : s = [100] <;> simp [h]; exact fun h' => h h'.symm
    show (bif [99] == s then kr 1 0 else bif [103] == s then kr 2 0 else bif [109, 115] == s then kr 3 0 else bif [104] == s then kr 4 0 else bif [100] == s then kr 5 0 else k0 ()) = _
    rw [e1, e2, e3, e4, e5]
    simp only [bdec]
  rw [hm] at L ⊢
  refine (L _ _).trans ?_
  unfold kindR
  repeat' split
  all_goals first | rfl | (simp_all)
def readVals : List (List UInt8) → List DecL → Int → Except Int (List DecL)
  | [], acc, _ => .ok acc
  | v :: r, acc, at_ => if (parseR v).2.1.1 = 0 ∧ acc.length ≠ 64 then readVals r (acc ++ [((parseR v).1.1, (parseR v).1.2.1, (parseR v).1.2.2.1)]) (at_ + v.length + 1) else .error at_
def restN (c : UInt8) (s : List UInt8) : List UInt8 := if c ∈ s then s.drop ((seg c s).length + 1) else []
def firstR (s : List UInt8) : Res (List UInt8 × List DecL) :=
  if nameOK (seg 58 s) = false then .error (15, 0)
  else if 58 ∉ s then .error (11, (s.length : Int))
  else match readVals (splitL 58 (restN 58 s)) [] ((seg 58 s).length + 1) with
    | .ok vs => .ok (seg 58 s, vs)
    | .error at_ => .error (17, at_)
def tagsR : List (List UInt8) → List TagL → Int → Except Int (List TagL)
  | [], acc, _ => .ok acc
  | p :: r, acc, at_ => if tagGood (seg 58 p, restN 58 p) = true ∧ ¬ (58 ∈ p ∧ restN 58 p = []) then tagsR r (acc ++ [(seg 58 p, restN 58 p)]) (at_ + p.length + 1) else .error at_
def moreR (m : MetD) (last : Int) : List UInt8 → Except Int (MetD × Int)
  | [] => .error 11
  | x :: s =>
    if x = 64 then (if 0 < last then .error 11 else if (rateR s).2.1.1 ≠ 0 ∨ (m.2.1 = 2 ∧ (rateR s).1 ≠ 1000000) then .error 18 else .ok ((m.1, m.2.1, m.2.2.1, (rateR s).1, m.2.2.2.2.1, m.2.2.2.2.2.1, ()), 1))
    else if x = 35 then (if 1 < last then .error 11 else match tagsR (splitL 44 s) [] 0 with
      | .error _ => .error 19
      | .ok l => if 32 < l.length then .error 19 else .ok ((m.1, m.2.1, m.2.2.1, m.2.2.2.1, normT l, m.2.2.2.2.2.1, ()), 2))
    else if x = 84 then (if 2 < last then .error 11 else if (parseNum s 1 1099511627776).2.1.1 ≠ 0 then .error 20 else .ok ((m.1, m.2.1, m.2.2.1, m.2.2.2.1, m.2.2.2.2.1, (parseNum s 1 1099511627776).1, ()), 3))
    else .error 11
def restR : List (List UInt8) → Int → MetD → Int → Res MetD
  | [], _, m, _ => .ok m
  | p :: r, at_, m, last => match moreR m last p with
    | .error e => .error (e, at_)
    | .ok (m', last') => restR r (at_ + p.length + 1) m' last'
def secondR (s p : List UInt8) (nm : List UInt8) (vs : List DecL) : List (List UInt8) → Res MetD
  | [] => .error (11, (s.length : Int))
  | q :: r => if kindR q = 0 then .error (16, (p.length : Int) + 1) else restR r ((p.length : Int) + 1 + (q.length + 1)) (nm, kindR q, vs, 1000000, [], 0, ()) 0
def linesR (s : List UInt8) : List (List UInt8) → Res MetD
  | [] => .error (11, 0)
  | p :: r => match firstR p with
    | .error e => .error e
    | .ok x => secondR s p x.1 x.2 r
abbrev ParseD := MetD × (Int × Int × Unit) × Unit
def outP : Res MetD → ParseD
  | .ok m => (m, (0, 0, ()), ())
  | .error e => (zeroM, (e.1, e.2, ()), ())
def parseD (s : List UInt8) : ParseD := if 8192 < s.length then (zeroM, (12, 0, ()), ()) else outP (linesR s (splitL 124 s))
theorem restN_le (c : UInt8) (s : List UInt8) : (restN c s).length ≤ s.length := by
  unfold restN; split <;> simp
theorem splitL_seg (c : UInt8) (s : List UInt8) : splitL c s = if c ∈ s then seg c s :: splitL c (restN c s) else [s] := by
  induction s with
  | nil => rfl
  | cons x s ih =>
    by_cases hx : x = c
    · subst hx
      have e1 : seg x (x :: s) = [] := by rw [seg_cons, if_pos rfl]
      have e2 : restN x (x :: s) = s := by unfold restN; rw [if_pos (by simp), e1]; rfl
      rw [if_pos (by simp), e1, e2, splitL, if_pos rfl]
    · have hmem : (c ∈ x :: s) ↔ c ∈ s := by simp [show ¬ c = x from fun h => hx h.symm]
      rw [splitL, if_neg hx, ih]
      by_cases hc : c ∈ s
      · rw [if_pos hc, if_pos (hmem.2 hc)]
        have e1 : seg c (x :: s) = x :: seg c s := by rw [seg_cons, if_neg hx]
        have e2 : restN c (x :: s) = restN c s := by unfold restN; rw [if_pos hc, if_pos (hmem.2 hc), e1]; rfl
        rw [e1, e2]
      · rw [if_neg hc, if_neg (fun h => hc (hmem.1 h))]
def sumL (l : List (List UInt8)) : Nat := (l.map fun p => p.length + 1).sum
theorem splitL_sum (c : UInt8) (s : List UInt8) : sumL (splitL c s) = s.length + 1 := by
  induction s with
  | nil => rfl
  | cons x s ih =>
    rw [splitL]
    split
    · simp only [sumL, List.map_cons, List.sum_cons, List.length_nil, List.length_cons] at ih ⊢
      omega
    · have hne := splitL_ne c s
      revert ih hne
      cases splitL c s with
      | nil => intro _ h; exact absurd rfl h
      | cons p l =>
        intro ih _
        simp only [sumL, List.map_cons, List.sum_cons, List.length_cons] at ih ⊢
        omega
theorem sumL_len (l : List (List UInt8)) : l.length ≤ sumL l := by
  induction l with
  | nil => simp [sumL]
  | cons p l ih => simp only [sumL, List.map_cons, List.sum_cons, List.length_cons] at ih ⊢; omega
theorem sumL_mem {l : List (List UInt8)} {p : List UInt8} (h : p ∈ l) : p.length + 1 ≤ sumL l := by
  induction l with
  | nil => cases h
  | cons q l ih =>
    simp only [sumL, List.map_cons, List.sum_cons] at ih ⊢
    rcases List.mem_cons.1 h with rfl | h
    · omega
    · have := ih h; omega
theorem split_eq (n : Nat) (c : UInt8) {s : List UInt8} (hs : s.length ≤ 1000000) : O.split1 n s [c] = some (splitL c s) := by
  unfold O.split1
  dsimp only
  rw [decide_eq_true (by omega)]; rfl
theorem parseR_bad (s : List UInt8) : ((parseR s).2.1.1 == 0 && (parseR s).2.1.2.1 == 0) = decide ((parseR s).2.1.1 = 0) := by
  by_cases h : (parseR s).2.1.1 = 0
  · rw [decide_eq_true h, h, parseR_at h]; rfl
  · rw [decide_eq_false h, beq_eq_false_iff_ne.2 h]; rfl
theorem tagsR_loop (n : Nat) (hn : 200000 ≤ n) (X : Type) (k0 kr : List TagL → Int → Int → Nat → Option X) (ps : List (List UInt8)) (hs : sumL ps ≤ 10000) (b0 b1 : Int) : ∀ (r : List (List UInt8)) (acc : List TagL) (a : Int) (i m : Nat), ps.drop i = r → acc.length ≤ i → i ≤ ps.length → r.length < m → 0 ≤ a → a + sumL r ≤ 10000 →
    F.tag_Parse.L4 n k0 kr m acc a ps (ps.length : Int) (i : Int) b0 b1 acc.length = match tagsR r acc a with
      | .ok l => k0 l b0 b1 l.length
      | .error e => kr [] 19 e 0 := by
  intro r
  have hpl := sumL_len ps
  induction r with
  | nil =>
    intro acc a i m h1 h2 hi hm ha has
    obtain ⟨m, rfl⟩ : ∃ q, m = q + 1 := ⟨m - 1, by omega⟩
    rw [F.tag_Parse.L4]
    unfold F.tag_Parse.L4.step
    dsimp only
    rw [bif_neg (by have := drop_nil' h1; omega)]
    rfl
  | cons p r ih =>
    intro acc a i m h1 h2 hi hm ha has
    obtain ⟨m, rfl⟩ : ∃ q, m = q + 1 := ⟨m - 1, by simp at hm; omega⟩
    obtain ⟨l1, g1, t1⟩ := drop_cons h1
    simp only [List.length_cons] at hm
    simp only [sumL, List.map_cons, List.sum_cons] at has
    have hp := sumL_mem (List.mem_of_getElem? g1)
    have hsl := seg_le 58 p
    have hrl := restN_le 58 p
    have hih := ih (acc ++ [(seg 58 p, restN 58 p)]) (a + p.length + 1) (i + 1) m t1 (by simp; omega) (by omega) (by omega) (by omega) (by simp only [sumL]; omega)
    have hcut : F.strings_Cut n p [58] = some (seg 58 p, restN 58 p, decide (58 ∈ p), ()) := cut_eq n 58 (by omega)
    have hw : IntKind.wrap .i64 (a + IntKind.wrap .i64 ((p.length : Int) + 1)) = a + p.length + 1 := by
      rw [wrap_succ (by omega), wrap_in (by omega)]; omega
    have hg : (decide ((acc.length + 1) * 32 ≤ 2 ^ 46) && decide (0 < 32 ∧ 32 ≤ 2 ^ 20)) = true := by rw [decide_eq_true (by omega)]; rfl
    rw [F.tag_Parse.L4]
    unfold F.tag_Parse.L4.step
    dsimp only
    rw [bif_pos (by omega), idx_nat, g1, some_bind', hcut, some_bind']
    dsimp only
    have hc := tag_chk n hn (t := (seg 58 p, restN 58 p)) ⟨by show (seg 58 p).length ≤ 10000; omega, by show (restN 58 p).length ≤ 10000; omega⟩
    dsimp only at hc
    rw [hc, some_bind', hw, wrap_succ (by omega), hg, Nat.beq_refl, cond_true, cond_true, tagsR]
    cases tagGood (seg 58 p, restN 58 p)
    · rw [if_neg (by simp)]; rfl
    · rw [cond_true, beq_self_eq_true, Bool.not_true, cond_false, bdec]
      by_cases hin : (58 : UInt8) ∈ p
      · rw [if_pos hin]
        by_cases h0 : restN 58 p = []
        · rw [h0, beq_self_eq_true, cond_true, if_neg (by simp [hin])]
        · rw [beq_eq_false_iff_ne.2 h0, cond_false, if_pos ⟨rfl, by simp [h0]⟩]
          exact hih
      · rw [if_neg hin, if_pos ⟨rfl, by simp [hin]⟩]
        exact hih
theorem tagParse_eq (n : Nat) (hn : 200000 ≤ n) (s : List UInt8) (hs : s.length ≤ 9000) : F.tag_Parse n s = some (match tagsR (splitL 44 s) [] 0 with | .ok l => (l, (0, 0, ()), ()) | .error e => ([], (19, e, ()), ())) := by
  unfold F.tag_Parse
  have h1 := splitL_sum 44 s
  have h2 := sumL_len (splitL 44 s)
  rw [split_eq n 44 (by omega), some_bind']
  refine (tagsR_loop n hn _ _ _ (splitL 44 s) (by omega) 0 0 (splitL 44 s) [] 0 0 n rfl (by simp) (by omega) (by omega) (by omega) (by omega)).trans ?_
  cases tagsR (splitL 44 s) [] 0 <;> rfl
end Go.AM
set_option linter.unusedVariables false
set_option linter.unusedSimpArgs false
namespace Go.AM
theorem head_idx {s : List UInt8} {k : Nat} (h : k < s.length) : idx s (k : Int) = some s[k] ∧ (s.drop k).head? = some s[k] := by
  refine ⟨idx_lt h, ?_⟩
  rw [List.head?_drop]; simp [h]
theorem beq_byte (x : UInt8) (c : UInt8) : (((x.toNat : Nat) : Int) == ((c.toNat : Nat) : Int)) = decide (x = c) := by
  by_cases h : x = c
  · subst h; simp
  · rw [decide_eq_false h, beq_eq_false_iff_ne]
    intro hh
    exact h (u8_ext (by omega))
end Go.AM
set_option linter.unusedVariables false
set_option linter.unusedSimpArgs false
namespace Go.AM
theorem seg_app {c : UInt8} {a : List UInt8} (h : c ∉ a) (t : List UInt8) : seg c (a ++ c :: t) = a := by
  induction a with
  | nil => show seg c (c :: t) = []; rw [seg_cons, if_pos rfl]
  | cons b a ih =>
    show seg c (b :: (a ++ c :: t)) = _
    rw [seg_cons, if_neg (fun hh => h (by simp [hh])), ih (fun hh => h (by simp [hh]))]
theorem seg_split {c : UInt8} {s : List UInt8} (h : c ∈ s) : s = seg c s ++ c :: s.drop ((seg c s).length + 1) := by
  induction s with
  | nil => simp at h
  | cons b s ih =>
    rw [seg_cons]
    by_cases hb : b = c
    · rw [if_pos hb, hb]; rfl
    · rw [if_neg hb]
      have hm : c ∈ s := by
        rcases List.mem_cons.1 h with h | h
        · exact absurd h.symm hb
        · exact h
      have := ih hm
      simp only [List.length_cons, List.drop_succ_cons, List.cons_append]
      rw [← this]
end Go.AM
set_option linter.unusedVariables false
set_option linter.unusedSimpArgs false
namespace Go.AM
def atL : List (List UInt8) → Int → List (Int × List UInt8)
  | [], _ => []
  | p :: r, a => (a, p) :: atL r (a + p.length + 1)
def curL (a : Int) (cur : List UInt8) : List (List UInt8) → List (Int × List UInt8)
  | [] => []
  | p :: q => (a, cur ++ p) :: atL q (a + cur.length + p.length + 1)
theorem cut_loop (n : Nat) (X : Type) (k0 : (Nat × Nat) → (Nat × List (Int × List UInt8)) → (Nat × List (Int × List UInt8)) → Option X) (c : UInt8) (s : List UInt8) (at0 : Int) (h0 : 0 ≤ at0 ∧ at0 ≤ 100000) (hs : s.length ≤ 100000) (b0 : Nat × List (Int × List UInt8)) :
    ∀ (r : List UInt8) (done : List (Int × List UInt8)) (a : Int) (cur : List UInt8) (v i m : Nat), s.drop i = r → i ≤ s.length → at0 + i = a + cur.length → r.length < m → done.length ≤ i → cur.length ≤ i → ∃ v', F.ref11_Cut.L3 n k0 m s (c.toNat : Int) at0 (v, (done ++ [(a, cur)]).length) (i : Int) b0 (v, done ++ [(a, cur)]) = k0 (v', (done ++ curL a cur (splitL c r)).length) b0 (v', done ++ curL a cur (splitL c r)) := by
  intro r
  induction r with
  | nil =>
    intro done a cur v i m h1 hi ha hm hd hc
    obtain ⟨m, rfl⟩ : ∃ q, m = q + 1 := ⟨m - 1, by omega⟩
    refine ⟨v, ?_⟩
    rw [F.ref11_Cut.L3]
    unfold F.ref11_Cut.L3.step
    dsimp only
    rw [bif_neg (by have := drop_nil' h1; omega)]
    have : curL a cur (splitL c []) = [(a, cur)] := by simp [splitL, curL, atL]
    rw [this]
  | cons x r ih =>
    intro done a cur v i m h1 hi ha hm hd hc
    obtain ⟨m, rfl⟩ : ∃ q, m = q + 1 := ⟨m - 1, by simp at hm; omega⟩
    obtain ⟨l1, g1, t1⟩ := drop_cons h1
    simp only [List.length_cons] at hm
    rw [F.ref11_Cut.L3]
    unfold F.ref11_Cut.L3.step
    dsimp only
    rw [bif_pos (by omega), idx_nat, g1, some_bind', beq_byte, wrap_succ (by omega)]
    by_cases hx : x = c
    · rw [decide_eq_true hx, cond_true, Nat.beq_refl, cond_true]
      have hg : (decide (((done ++ [(a, cur)]).length + 1) * 24 ≤ 2 ^ 46) && decide (0 < 24 ∧ 24 ≤ 2 ^ 20)) = true := by
        rw [decide_eq_true (by simp only [List.length_append, List.length_cons, List.length_nil]; omega)]; rfl
      have hw : IntKind.wrap .i64 (IntKind.wrap .i64 (at0 + (i : Int)) + 1) = a + cur.length + 1 := by
        rw [wrap_in (x := at0 + (i : Int)) (by omega), wrap_in (by omega)]; omega
      rw [hg, cond_true, hw]
      obtain ⟨v', hv⟩ := ih (done ++ [(a, cur)]) (a + cur.length + 1) [] (v + 1) (i + 1) m t1 (by omega) (by simp; omega) (by omega) (by simp; omega) (by simp)
      refine ⟨v', hv.trans ?_⟩
      have e : done ++ [(a, cur)] ++ curL (a + cur.length + 1) [] (splitL c r) = done ++ curL a cur (splitL c (x :: r)) := by
        rw [splitL, if_pos hx, List.append_assoc]
        congr 1
        cases hq : splitL c r with
        | nil => exact absurd hq (splitL_ne c r)
        | cons p q => simp [curL, atL]
      rw [e]
    · rw [decide_eq_false hx, cond_false]
      have hlen : (done ++ [(a, cur)]).length = done.length + 1 := by simp
      have hw : IntKind.wrap .i64 ((((done ++ [(a, cur)]).length : Nat) : Int) - 1) = (done.length : Int) := by
        rw [wrap_in (by omega)]; omega
      have hb : (decide ((0 : Int) ≤ (done.length : Int)) && decide ((done.length : Int) < (((done ++ [(a, cur)]).length : Nat) : Int))) = true := by
        simp only [Bool.and_eq_true, decide_eq_true_eq]; omega
      have hi2 : idx (done ++ [(a, cur)]) (done.length : Int) = some (a, cur) := by rw [idx_nat]; simp
      have hsub : sub s (i : Int) ((i + 1 : Nat) : Int) = some [x] := by
        rw [sub_nat s i (i + 1) (by omega) (by omega)]
        have : (s.take (i + 1)).drop i = [x] := by
          rw [List.drop_take, h1]; simp
        rw [this]
      rw [hw, hb, cond_true, Nat.beq_refl, cond_true, hi2, some_bind', hsub, some_bind', growS (by simp; omega), cond_true, cond_true, some_bind', Int.toNat_natCast, upd_at]
      dsimp only
      obtain ⟨v', hv⟩ := ih done a (cur ++ [x]) v (i + 1) m t1 (by omega) (by simp; omega) (by omega) (by omega) (by simp; omega)
      refine ⟨v', ?_⟩
      have e : done ++ curL a (cur ++ [x]) (splitL c r) = done ++ curL a cur (splitL c (x :: r)) := by
        rw [splitL, if_neg hx]
        congr 1
        cases hq : splitL c r with
        | nil => exact absurd hq (splitL_ne c r)
        | cons p q =>
          simp only [curL, List.append_assoc, List.singleton_append, List.length_append, List.length_cons, List.length_nil]
          congr 2
          omega
      rw [← e, ← hv]
      have : (done ++ [(a, cur)]).length = (done ++ [(a, cur ++ [x])]).length := by simp
      rw [this]
theorem cut_ref (n : Nat) (hn : 200000 ≤ n) (c : UInt8) (s : List UInt8) (a : Int) (h0 : 0 ≤ a ∧ a ≤ 100000) (hs : s.length ≤ 100000) : F.ref11_Cut n s (c.toNat : Int) a = some (atL (splitL c s) a) := by
  unfold F.ref11_Cut
  obtain ⟨v', hv⟩ := cut_loop n _ (fun (e5_7 : Nat × Nat) (e5_b0_0 e5_b1_0 : Nat × List (Int × List UInt8)) =>
      bif Nat.beq e5_7.1 e5_b1_0.1 then
        some (e5_b1_0.2)
      else
        none) c s a h0 hs (1, []) s [] a [] 1 0 n rfl (by omega) (by simp) (by omega) (by simp) (by simp)
  refine hv.trans ?_
  rw [Nat.beq_refl, cond_true]
  cases hq : splitL c s with
  | nil => exact absurd hq (splitL_ne c s)
  | cons p q => simp [curL, atL]
theorem right_ref (n : Nat) (hn : 200000 ≤ n) {t : TagL} (h : TagLOK t) : F.ref06_Right n (t.1, t.2, ()) = some (tagGood t) := by
  obtain ⟨h1, h2⟩ := h
  unfold F.ref06_Right tagGood
  simp only [text4_ref n (by omega) 2 t.1 1 64 rfl (by omega) (by omega) (by omega) (by omega), text4_ref n (by omega) 3 t.2 0 100 rfl (by omega) (by omega) (by omega) (by omega), some_bind', textF_both]
  cases ((textF 2 t.1 1 64).1 == 0) <;> cases ((textF 3 t.2 0 100).1 == 0) <;> rfl
theorem colon_loop (n : Nat) (X : Type) (k2 : List UInt8 → List TagL → Int → Int → List UInt8 → Int → Int → List UInt8 → List UInt8 → Nat → Option X) (v0 : List UInt8) (v4 : List TagL) (v5 v6 : Int) (p : List UInt8) (hp : p.length ≤ 100000) (b0 b1 : Int) (vk : Nat) : ∀ (k m : Nat) (key val : List UInt8), k ≤ p.length → k < m →
    F.ref06_Parse.L10 n k2 m v0 v4 v5 v6 p ((k : Int) - 1) b0 b1 key val vk = if (58 : UInt8) ∈ p.take k then k2 v0 v4 v5 v6 p b0 b1 (seg 58 p) (restN 58 p) vk else k2 v0 v4 v5 v6 p b0 b1 key val vk := by
  intro k
  induction k with
  | zero =>
    intro m key val hk hm
    obtain ⟨m, rfl⟩ : ∃ q, m = q + 1 := ⟨m - 1, by omega⟩
    rw [F.ref06_Parse.L10]
    unfold F.ref06_Parse.L10.step
    dsimp only
    rw [bif_neg (by omega), if_neg (by simp)]
  | succ k ih =>
    intro m key val hk hm
    obtain ⟨m, rfl⟩ : ∃ q, m = q + 1 := ⟨m - 1, by omega⟩
    have hkp : (((k + 1 : Nat) : Int) - 1) = (k : Int) := by omega
    have hw : IntKind.wrap .i64 ((k : Int) - 1) = (k : Int) - 1 := wrap_in (by omega)
    have ht : p.take (k + 1) = p.take k ++ [p[k]] := by rw [List.take_add_one]; simp [show k < p.length by omega]
    have hb : (((p[k].toNat : Nat) : Int) == 58) = decide (p[k] = 58) := beq_byte p[k] 58
    rw [F.ref06_Parse.L10]
    unfold F.ref06_Parse.L10.step
    dsimp only
    rw [hkp, bif_pos (by omega), idx_lt (by omega : k < p.length), some_bind', hw, hb, ht]
    by_cases hx : p[k] = 58
    · rw [decide_eq_true hx, cond_true, wrap_succ (by omega), show (0 : Int) = ((0 : Nat) : Int) from rfl, sub_nat p 0 k (by omega) (by omega), some_bind', sub_nat p (k + 1) p.length (by omega) (by omega), some_bind', List.drop_zero, List.take_length]
      rw [ih m _ _ (by omega) (by omega), if_pos (List.mem_append.2 (Or.inr (List.mem_singleton.2 hx.symm)))]
      by_cases hin : (58 : UInt8) ∈ p.take k
      · rw [if_pos hin]
      · rw [if_neg hin]
        have hd : p = p.take k ++ 58 :: p.drop (k + 1) := by
          have : p.drop k = 58 :: p.drop (k + 1) := by rw [List.drop_eq_getElem_cons (by omega), hx]
          rw [← this, List.take_append_drop]
        have e1 : seg 58 p = p.take k := by
          rw [hd]
          have := seg_app hin (p.drop (k + 1))
          rw [this, ← hd]
        have e2 : restN 58 p = p.drop (k + 1) := by
          unfold restN
          have hmem : (58 : UInt8) ∈ p := by rw [hd]; simp
          rw [if_pos hmem, e1, List.length_take, Nat.min_eq_left (by omega)]
        rw [e1, e2]
    · rw [decide_eq_false hx, cond_false, ih m _ _ (by omega) (by omega)]
      by_cases hin : (58 : UInt8) ∈ p.take k
      · rw [if_pos hin, if_pos (List.mem_append.2 (Or.inl hin))]
      · rw [if_neg hin, if_neg (fun h => (List.mem_append.1 h).elim hin (fun h => hx (List.mem_singleton.1 h).symm))]
end Go.AM
set_option linter.unusedVariables false
set_option linter.unusedSimpArgs false
namespace Go.AM
abbrev KR := List UInt8 → Int → List DecL → Int → List TagL → Int → Int → Int → List UInt8 → Int → List DecL → Int → List TagL → Int → Int → Int → Int → Int → Int → Int → Nat → Nat → Nat → Option ParseD
abbrev K8 := List UInt8 → List (List UInt8) → List UInt8 → Int → List DecL → Int → List TagL → Int → Int → Int → List UInt8 → Int → List DecL → Int → List TagL → Int → Int → Int → Int → Int → Nat → Nat → Nat → Option ParseD
def badP (e a : Int) : ParseD := (zeroM, (e, a, ()), ())
theorem first_loop (n : Nat) (hn : 200000 ≤ n) (k1 kr : KR) (ps : List (List UInt8)) (hs : sumL ps ≤ 9000)
    (c0 : List UInt8) (c1 : Int) (c2 : List DecL) (c3 : Int) (c4 : List TagL) (c5 d0 d1 : Int) (e0 : List UInt8) (e1 : Int) (e3 : Int) (e4 : List TagL) (e5 e7 f0 f1 : Int) (q0 q1 : Nat)
    (hbad : ∀ acc a l, kr c0 c1 c2 c3 c4 c5 d0 d1 e0 e1 acc e3 e4 e5 0 e7 f0 f1 17 a q0 q1 l = some (badP 17 a)) :
    ∀ (r : List (List UInt8)) (acc : List DecL) (a : Int) (i m : Nat), ps.drop i = r → acc.length ≤ i → i ≤ ps.length → r.length < m → 0 ≤ a → a + sumL r ≤ 10000 →
    F.dog_Parse.L9_dog_reader_first n k1 kr m a ps (ps.length : Int) (i : Int) c0 c1 c2 c3 c4 c5 d0 d1 e0 e1 acc e3 e4 e5 0 e7 f0 f1 0 0 q0 q1 acc.length = match readVals r acc a with
      | .ok vs => k1 c0 c1 c2 c3 c4 c5 d0 d1 e0 e1 vs e3 e4 e5 0 e7 f0 f1 0 0 q0 q1 vs.length
      | .error b => some (badP 17 b) := by
  intro r
  have hpl := sumL_len ps
  induction r with
  | nil =>
    intro acc a i m h1 h2 hi hm ha has
    obtain ⟨m, rfl⟩ : ∃ q, m = q + 1 := ⟨m - 1, by omega⟩
    rw [F.dog_Parse.L9_dog_reader_first]
    unfold F.dog_Parse.L9_dog_reader_first.step
    dsimp only
    rw [bif_neg (by have := drop_nil' h1; omega)]
    rfl
  | cons p r ih =>
    intro acc a i m h1 h2 hi hm ha has
    obtain ⟨m, rfl⟩ : ∃ q, m = q + 1 := ⟨m - 1, by simp at hm; omega⟩
    obtain ⟨l1, g1, t1⟩ := drop_cons h1
    simp only [List.length_cons] at hm
    simp only [sumL, List.map_cons, List.sum_cons] at has
    have hp := sumL_mem (List.mem_of_getElem? g1)
    have hih := ih (acc ++ [((parseR p).1.1, (parseR p).1.2.1, (parseR p).1.2.2.1)]) (a + p.length + 1) (i + 1) m t1 (by simp; omega) (by omega) (by omega) (by omega) (by simp only [sumL]; omega)
    have hw : IntKind.wrap .i64 (a + IntKind.wrap .i64 ((p.length : Int) + 1)) = a + p.length + 1 := by
      rw [wrap_succ (by omega), wrap_in (by omega)]; omega
    have hw0 : IntKind.wrap .i64 (0 + a) = a := by rw [Int.zero_add, wrap_in (by omega)]
    have hg : (decide ((acc.length + 1) * 24 ≤ 2 ^ 46) && decide (0 < 24 ∧ 24 ≤ 2 ^ 20)) = true := by rw [decide_eq_true (by omega)]; rfl
    have h64 : ((acc.length : Int) == 64) = decide (acc.length = 64) := by
      by_cases h : acc.length = 64
      · rw [h]; rfl
      · rw [decide_eq_false h, beq_eq_false_iff_ne]; omega
    rw [F.dog_Parse.L9_dog_reader_first]
    unfold F.dog_Parse.L9_dog_reader_first.step
    dsimp only
    rw [bif_pos (by omega), idx_nat, g1, some_bind', decparse_eq n hn p (by omega), some_bind', parseR_bad, hw, hw0, wrap_succ (by omega), hg, Nat.beq_refl, cond_true, cond_true, h64, readVals]
    by_cases h0 : (parseR p).2.1.1 = 0
    · rw [decide_eq_true h0, Bool.not_true, cond_false]
      by_cases h6 : acc.length = 64
      · rw [decide_eq_true h6, cond_true, if_neg (by simp [h6])]
        exact hbad _ _ _
      · rw [decide_eq_false h6, cond_false, if_pos ⟨h0, h6⟩]
        exact hih
    · rw [decide_eq_false h0, Bool.not_false, cond_true, if_neg (by simp [h0])]
      exact hbad _ _ _
theorem prefix_eq (n : Nat) (c x : UInt8) (s : List UInt8) : F.strings_CutPrefix n (x :: s) [c] = some (if x = c then (s, true, ()) else (x :: s, false, ())) := by
  unfold F.strings_CutPrefix F.stringslite_CutPrefix F.stringslite_HasPrefix
  have h1 : sub (x :: s) 0 (([c] : List UInt8).length : Int) = some [x] := by
    rw [show (0 : Int) = ((0 : Nat) : Int) from rfl, show (([c] : List UInt8).length : Int) = ((1 : Nat) : Int) from rfl, sub_nat (x :: s) 0 1 (by omega) (by simp)]; rfl
  have h2 : sub (x :: s) (([c] : List UInt8).length : Int) ((x :: s).length : Int) = some s := by
    rw [show (([c] : List UInt8).length : Int) = ((1 : Nat) : Int) from rfl, sub_nat (x :: s) 1 _ (by simp) (by omega), List.take_length]; rfl
  rw [bif_pos (by simp; omega), h1, h2]
  by_cases h : x = c
  · subst h
    simp
  · rw [if_neg h]
    have : ([x] == [c]) = false := by simpa using h
    simp [this]
theorem prefix_nil (n : Nat) (c : UInt8) : F.strings_CutPrefix n [] [c] = some ([], false, ()) := rfl
theorem rate_bad (s : List UInt8) : ((rateR s).2.1.1 == 0 && (rateR s).2.1.2.1 == 0) = decide ((rateR s).2.1.1 = 0) := by
  by_cases h : (rateR s).2.1.1 = 0
  · rw [decide_eq_true h, h, (rate_ok h).1]; rfl
  · rw [decide_eq_false h, beq_eq_false_iff_ne.2 h]; rfl
theorem time_bad (s : List UInt8) : ((parseNum s 1 1099511627776).2.1.1 == 0 && (parseNum s 1 1099511627776).2.1.2.1 == 0) = decide ((parseNum s 1 1099511627776).2.1.1 = 0) := by
  by_cases h : (parseNum s 1 1099511627776).2.1.1 = 0
  · rw [decide_eq_true h, h, (parse_back h).1]; rfl
  · rw [decide_eq_false h, beq_eq_false_iff_ne.2 h]; rfl
theorem tagsR_len : ∀ (r : List (List UInt8)) (acc : List TagL) (a : Int) (l : List TagL), tagsR r acc a = .ok l → l.length = acc.length + r.length
  | [], acc, a, l, h => by cases h; simp
  | p :: r, acc, a, l, h => by
    rw [tagsR] at h
    split at h
    · have := tagsR_len r _ _ _ h
      simp at this ⊢; omega
    · cases h
theorem more_eq (n : Nat) (hn : 200000 ≤ n) (k0 kr : KR) (p : List UInt8) (hs : p.length ≤ 9000)
    (c0 : List UInt8) (c1 : Int) (c2 : List DecL) (c3 : Int) (c4 : List TagL) (c5 d0 d1 : Int) (e0 : List UInt8) (e1 : Int) (e2 : List DecL) (e3 : Int) (e4 : List TagL) (e5 a last f0 f1 : Int) (q0 q1 q2 : Nat) (ha : 0 ≤ a ∧ a ≤ 100000)
    (hk0 : k0 c0 c1 c2 c3 c4 c5 d0 d1 e0 e1 e2 e3 e4 e5 a last f0 f1 0 0 q0 q1 q2 = some (badP 11 a))
    (hbad : ∀ l e, e ≠ 0 → kr c0 c1 c2 c3 c4 c5 d0 d1 e0 e1 e2 e3 e4 e5 a l f0 f1 e a q0 q1 q2 = some (badP e a)) (m : Nat) (hm : 5 ≤ m) :
    F.dog_Parse.L2_dog_reader_more n k0 kr m p ([64], (), [35], (), [84], (), ()) (0 : Int) c0 c1 c2 c3 c4 c5 d0 d1 e0 e1 e2 e3 e4 e5 a last f0 f1 0 0 q0 q1 q2 = match moreR (e0, e1, e2, e3, e4, e5, ()) last p with
      | .error e => some (badP e a)
      | .ok (w, l) => kr c0 c1 c2 c3 c4 c5 d0 d1 w.1 w.2.1 w.2.2.1 w.2.2.2.1 w.2.2.2.2.1 w.2.2.2.2.2.1 a l f0 f1 0 0 q0 q1 q2 := by
  obtain ⟨m, rfl⟩ : ∃ q, m = q + 4 := ⟨m - 4, by omega⟩
  have hw0 : IntKind.wrap .i64 (a + 0) = a := by rw [Int.add_zero, wrap_in (by omega)]
  have w1 : IntKind.wrap .i64 ((0 : Int) + 1) = 1 := rfl
  have w2 : IntKind.wrap .i64 ((1 : Int) + 1) = 2 := rfl
  have w3 : IntKind.wrap .i64 ((2 : Int) + 1) = 3 := rfl
  have b1 : ((1 : Int) == 0) = false := rfl
  have b2 : ((2 : Int) == 0) = false := rfl
  have b3 : ((2 : Int) == 1) = false := rfl
  cases p with
  | nil =>
    rw [moreR]
    rw [F.dog_Parse.L2_dog_reader_more]
    unfold F.dog_Parse.L2_dog_reader_more.step
    dsimp only
    rw [bif_pos (by omega), beq_self_eq_true, cond_true, prefix_nil, some_bind', Bool.not_false, cond_true, w1, F.dog_Parse.L2_dog_reader_more]
    unfold F.dog_Parse.L2_dog_reader_more.step
    dsimp only
    rw [bif_pos (by omega), b1, beq_self_eq_true, cond_true, cond_false, prefix_nil, some_bind', Bool.not_false, cond_true, w2, F.dog_Parse.L2_dog_reader_more]
    unfold F.dog_Parse.L2_dog_reader_more.step
    dsimp only
    rw [bif_pos (by omega), b2, b3, beq_self_eq_true, cond_true, cond_false, cond_false, prefix_nil, some_bind', Bool.not_false, cond_true, w3, F.dog_Parse.L2_dog_reader_more]
    unfold F.dog_Parse.L2_dog_reader_more.step
    dsimp only
    rw [bif_neg (by omega)]
    exact hk0
  | cons x s =>
    simp only [List.length_cons] at hs
    rw [moreR]
    rw [F.dog_Parse.L2_dog_reader_more]
    unfold F.dog_Parse.L2_dog_reader_more.step
    dsimp only
    rw [bif_pos (by omega), beq_self_eq_true, cond_true, prefix_eq, some_bind', w1, hw0]
    by_cases h64 : x = 64
    · rw [if_pos h64, if_pos h64]
      dsimp only
      rw [Bool.not_true, cond_false, bdec]
      by_cases hl : 0 < last
      · rw [if_pos hl, if_pos hl]; exact hk0
      · rw [if_neg hl, if_neg hl, rate_num n (by omega) s (by omega) (by omega), some_bind', rate_bad]
        by_cases h0 : (rateR s).2.1.1 = 0
        · rw [decide_eq_true h0, Bool.not_true, cond_false]
          by_cases h2 : e1 = 2
          · rw [h2, beq_self_eq_true, cond_true]
            by_cases h1 : (rateR s).1 = 1000000
            · rw [h1, beq_self_eq_true, Bool.not_true, cond_false, if_neg (by simp [h0])]
            · rw [beq_eq_false_iff_ne.2 h1, Bool.not_false, cond_true, if_pos (by simp [h1])]
              rw [h2] at hbad
              exact hbad _ _ (by decide)
          · rw [beq_eq_false_iff_ne.2 h2, cond_false, if_neg (by simp [h0, h2])]
        · rw [decide_eq_false h0, Bool.not_false, cond_true, if_pos (by simp [h0])]
          exact hbad _ _ (by decide)
    rw [if_neg h64, if_neg h64]
    dsimp only
    rw [Bool.not_false, cond_true]
    rw [F.dog_Parse.L2_dog_reader_more]
    unfold F.dog_Parse.L2_dog_reader_more.step
    dsimp only
    rw [bif_pos (by omega), b1, beq_self_eq_true, cond_false, cond_true, prefix_eq, some_bind', w2, hw0]
    by_cases h35 : x = 35
    · rw [if_pos h35, if_pos h35]
      dsimp only
      rw [Bool.not_true, cond_false, bdec]
      by_cases hl : 1 < last
      · rw [if_pos hl, if_pos hl]; exact hk0
      · have hsl := splitL_sum 44 s
        have hsn := sumL_len (splitL 44 s)
        rw [if_neg hl, if_neg hl, tagParse_eq n hn s (by omega), some_bind']
        cases hT : tagsR (splitL 44 s) [] 0 with
        | error e =>
          dsimp only
          rw [show ((19 : Int) == 0) = false from rfl, Bool.false_and, Bool.not_false, cond_true]
          exact hbad _ _ (by decide)
        | ok l =>
          have hll := tagsR_len _ _ _ _ hT
          simp only [List.length_nil, Nat.zero_add] at hll
          dsimp only
          rw [beq_self_eq_true, Bool.and_self, Bool.not_true, cond_false, bdec]
          by_cases h32 : 32 < l.length
          · rw [if_pos (by omega), if_pos h32]
            exact hbad _ _ (by decide)
          · rw [if_neg (by omega), if_neg h32, tagNormal_eq n hn l (by omega), some_bind']
    rw [if_neg h35, if_neg h35]
    dsimp only
    rw [Bool.not_false, cond_true]
    rw [F.dog_Parse.L2_dog_reader_more]
    unfold F.dog_Parse.L2_dog_reader_more.step
    dsimp only
    rw [bif_pos (by omega), b2, b3, beq_self_eq_true, cond_false, cond_false, cond_true, prefix_eq, some_bind', w3, hw0]
    by_cases h84 : x = 84
    · rw [if_pos h84, if_pos h84]
      dsimp only
      rw [Bool.not_true, cond_false, bdec]
      by_cases hl : 2 < last
      · rw [if_pos hl, if_pos hl]; exact hk0
      · rw [if_neg hl, if_neg hl, time_eq n s (by omega) (by omega), some_bind', time_bad]
        by_cases h0 : (parseNum s 1 1099511627776).2.1.1 = 0
        · rw [decide_eq_true h0, Bool.not_true, cond_false, if_neg (by simp [h0])]
        · rw [decide_eq_false h0, Bool.not_false, cond_true, if_pos h0]
          exact hbad _ _ (by decide)
    rw [if_neg h84, if_neg h84]
    dsimp only
    rw [Bool.not_false, cond_true]
    rw [F.dog_Parse.L2_dog_reader_more]
    unfold F.dog_Parse.L2_dog_reader_more.step
    dsimp only
    rw [bif_neg (by omega)]
    exact hk0
structure K8OK (s : List UInt8) (ps : List (List UInt8)) (k0 : K8) : Prop where
  bad : ∀ c0 c1 c2 c3 c4 c5 d0 d1 e0 e1 e2 e3 e4 e5 e6 e7 e a q0 q1 q2, e ≠ 0 → k0 s ps c0 c1 c2 c3 c4 c5 d0 d1 e0 e1 e2 e3 e4 e5 e6 e7 e a q0 q1 q2 = some (badP e a)
  ok : 2 ≤ ps.length → ∀ c0 c1 c2 c3 c4 c5 d0 d1 e0 e1 e2 e3 e4 e5 e6 e7 q0 q1 q2, k0 s ps c0 c1 c2 c3 c4 c5 d0 d1 e0 e1 e2 e3 e4 e5 e6 e7 0 0 q0 q1 q2 = some ((e0, e1, e2, e3, e4, e5, ()), (0, 0, ()), ())
  one : ps.length < 2 → ∀ c0 c1 c2 c3 c4 c5 d0 d1 e0 e1 e2 e3 e4 e5 e6 e7 q0 q1 q2, k0 s ps c0 c1 c2 c3 c4 c5 d0 d1 e0 e1 e2 e3 e4 e5 e6 e7 0 0 q0 q1 q2 = some (badP 11 (s.length : Int))
theorem at_step {a : Int} (p : List UInt8) (h : 0 ≤ a ∧ a + p.length + 1 ≤ 100000) : IntKind.wrap .i64 (a + IntKind.wrap .i64 ((p.length : Int) + 1)) = a + p.length + 1 := by
  rw [wrap_succ (by omega), wrap_in (by omega)]; omega
theorem drest_loop (n : Nat) (hn : 200000 ≤ n) (k0 : K8) (s : List UInt8) (ps : List (List UInt8)) (hs : sumL ps ≤ 9000) (hk : K8OK s ps k0) (h2 : 2 ≤ ps.length)
    (c0 : List UInt8) (c1 : Int) (c2 : List DecL) (c3 : Int) (c4 : List TagL) (c5 d0 d1 : Int) (q0 q1 q2 : Nat) :
    ∀ (r : List (List UInt8)) (a : Int) (w : MetD) (last : Int) (i m : Nat), ps.drop i = r → 2 ≤ i → i ≤ ps.length → r.length < m → 0 ≤ a → a + sumL r ≤ 10000 →
    F.dog_Parse.L8 n k0 m s ps ps (ps.length : Int) (i : Int) c0 c1 c2 c3 c4 c5 d0 d1 w.1 w.2.1 w.2.2.1 w.2.2.2.1 w.2.2.2.2.1 w.2.2.2.2.2.1 a last 0 0 q0 q1 q2 = some (outP (restR r a w last)) := by
  intro r
  have hpl := sumL_len ps
  induction r with
  | nil =>
    intro a w last i m h1 hi2 hi hm ha has
    obtain ⟨m, rfl⟩ : ∃ q, m = q + 1 := ⟨m - 1, by omega⟩
    rw [F.dog_Parse.L8]
    unfold F.dog_Parse.L8.step
    dsimp only
    rw [bif_neg (by have := drop_nil' h1; omega), restR]
    exact hk.ok h2 _ _ _ _ _ _ _ _ _ _ _ _ _ _ _ _ _ _ _
  | cons p r ih =>
    intro a w last i m h1 hi2 hi hm ha has
    obtain ⟨m, rfl⟩ : ∃ q, m = q + 1 := ⟨m - 1, by simp at hm; omega⟩
    obtain ⟨l1, g1, t1⟩ := drop_cons h1
    simp only [List.length_cons] at hm
    simp only [sumL, List.map_cons, List.sum_cons] at has
    have hp := sumL_mem (List.mem_of_getElem? g1)
    have hw0 : IntKind.wrap .i64 (a + 0) = a := by rw [Int.add_zero, wrap_in (by omega)]
    rw [F.dog_Parse.L8]
    unfold F.dog_Parse.L8.step
    dsimp only
    rw [bif_pos (by omega), idx_nat, g1, some_bind', bif_neg (by omega : ¬ (i : Int) < 2)]
    refine (more_eq n hn _ _ p (by omega) c0 c1 c2 c3 c4 c5 d0 d1 w.1 w.2.1 w.2.2.1 w.2.2.2.1 w.2.2.2.2.1 w.2.2.2.2.2.1 a last 0 0 q0 q1 q2 (by omega) ?_ ?_ n (by omega)).trans ?_
    · rw [hw0, Bool.false_and, Bool.not_false, cond_true]
      exact hk.bad _ _ _ _ _ _ _ _ _ _ _ _ _ _ _ _ _ _ _ _ _ (by decide)
    · intro l e he
      rw [beq_eq_false_iff_ne.2 he, Bool.false_and, Bool.not_false, cond_true]
      exact hk.bad _ _ _ _ _ _ _ _ _ _ _ _ _ _ _ _ _ _ _ _ _ he
    · have hww : (w.1, w.2.1, w.2.2.1, w.2.2.2.1, w.2.2.2.2.1, w.2.2.2.2.2.1, ()) = w := rfl
      rw [hww, restR]
      cases moreR w last p with
      | error e => rfl
      | ok x =>
        obtain ⟨w', l'⟩ := x
        dsimp only
        rw [at_step p (by omega), wrap_succ (by omega)]
        exact ih (a + p.length + 1) w' l' (i + 1) m t1 (by omega) (by omega) (by omega) (by omega) (by simp only [sumL]; omega)
theorem nameB (s : List UInt8) : (((textF 1 s 1 200).1 == 0) && ((textF 1 s 1 200).2.1 == 0)) = nameOK s := textF_both 1 s 1 200
theorem lines_eq (n : Nat) (hn : 200000 ≤ n) (k0 : K8) (s : List UInt8) (ps : List (List UInt8)) (hne : ps ≠ []) (hs : sumL ps ≤ 9000) (hsl : s.length ≤ 9000) (hk : K8OK s ps k0) (c0 : List UInt8) (c1 : Int) (c2 : List DecL) (c3 : Int) (c4 : List TagL) (c5 d0 d1 : Int) (q0 q1 : Nat) :
    F.dog_Parse.L8 n k0 n s ps ps (ps.length : Int) (0 : Int) c0 c1 c2 c3 c4 c5 d0 d1 [] 0 [] 1000000 [] 0 0 0 0 0 q0 q1 0 = some (outP (linesR s ps)) := by
  have hpl := sumL_len ps
  cases ps with
  | nil => exact absurd rfl hne
  | cons p r =>
    obtain ⟨m, hm⟩ : ∃ q, n = q + 2 := ⟨n - 2, by omega⟩
    have hp := sumL_mem (show p ∈ p :: r by simp)
    have hseg := seg_le 58 p
    have hrn := restN_le 58 p
    have hcut : F.strings_Cut n p [58] = some (seg 58 p, restN 58 p, decide (58 ∈ p), ()) := cut_eq n 58 (by omega)
    have hw0 : ∀ x : Int, 0 ≤ x ∧ x ≤ 100000 → IntKind.wrap .i64 (0 + x) = x := fun x hx => by rw [Int.zero_add, wrap_in (by omega)]
    have key : ∀ m, 20001 ≤ m + 1 → F.dog_Parse.L8 n k0 (m + 1) s (p :: r) (p :: r) ((p :: r).length : Int) (0 : Int) c0 c1 c2 c3 c4 c5 d0 d1 [] 0 [] 1000000 [] 0 0 0 0 0 q0 q1 0 = match firstR p with
        | .error e => some (badP e.1 e.2)
        | .ok x => F.dog_Parse.L8 n k0 m s (p :: r) (p :: r) ((p :: r).length : Int) ((1 : Nat) : Int) c0 c1 c2 c3 c4 c5 d0 d1 x.1 0 x.2 1000000 [] 0 ((p.length : Int) + 1) 0 0 0 q0 q1 x.2.length := by
      intro m hm
      rw [F.dog_Parse.L8]
      unfold F.dog_Parse.L8.step
      dsimp only
      rw [bif_pos (by simp only [List.length_cons]; omega), show idx (p :: r) 0 = some p from rfl, some_bind', bif_pos (by omega : (0 : Int) < 2), beq_self_eq_true, cond_true, hcut, some_bind']
      dsimp only
      rw [text_cls n 1 _ 1 200 (by omega) (by omega), some_bind', nameB]
      unfold firstR
      cases hnm : nameOK (seg 58 p)
      · rw [Bool.not_false, cond_true, if_pos rfl, hw0 0 (by omega), Bool.false_and, Bool.not_false, cond_true]
        exact hk.bad _ _ _ _ _ _ _ _ _ _ _ _ _ _ _ _ _ _ _ _ _ (by decide)
      · rw [Bool.not_true, cond_false, if_neg (by simp)]
        by_cases hin : (58 : UInt8) ∈ p
        · rw [decide_eq_true hin, Bool.not_true, cond_false, if_neg (by simp [hin]), split_eq n 58 (by omega), some_bind']
          have hsum := splitL_sum 58 (restN 58 p)
          have hsn := sumL_len (splitL 58 (restN 58 p))
          have hrl : (seg 58 p).length + 1 + (restN 58 p).length ≤ p.length := by
            unfold restN
            rw [if_pos hin, List.length_drop]
            have := seg_lt hin
            omega
          have hA : IntKind.wrap .i64 (((seg 58 p).length : Int) + 1) = ((seg 58 p).length : Int) + 1 := wrap_in (by omega)
          have hP : IntKind.wrap .i64 ((p.length : Int) + 1) = (p.length : Int) + 1 := wrap_in (by omega)
          rw [hA, hP]
          refine (first_loop n hn _ _ (splitL 58 (restN 58 p)) (by omega) c0 c1 c2 c3 c4 c5 d0 d1 (seg 58 p) 0 1000000 [] 0 0 0 0 q0 q1 ?_ (splitL 58 (restN 58 p)) [] _ 0 n rfl (by simp) (by omega) (by omega) (by omega) (by omega)).trans ?_
          · intro acc a l
            rw [show ((17 : Int) == 0) = false from rfl, Bool.false_and, Bool.not_false, cond_true]
            exact hk.bad _ _ _ _ _ _ _ _ _ _ _ _ _ _ _ _ _ _ _ _ _ (by decide)
          · cases readVals (splitL 58 (restN 58 p)) [] (((seg 58 p).length : Int) + 1) with
            | error b => rfl
            | ok vs =>
              dsimp only
              rw [Bool.and_self, Bool.not_true, cond_false, hw0 ((p.length : Int) + 1) (by omega)]
              rfl
        · rw [decide_eq_false hin, Bool.not_false, cond_true, if_pos hin, hw0 _ (by omega), Bool.false_and, Bool.not_false, cond_true]
          exact hk.bad _ _ _ _ _ _ _ _ _ _ _ _ _ _ _ _ _ _ _ _ _ (by decide)
    have key2 : ∀ m, 20001 ≤ m + 1 → ∀ nm (vs : List DecL) (a : Int) (l : Nat), a = (p.length : Int) + 1 → F.dog_Parse.L8 n k0 (m + 1) s (p :: r) (p :: r) ((p :: r).length : Int) ((1 : Nat) : Int) c0 c1 c2 c3 c4 c5 d0 d1 nm 0 vs 1000000 [] 0 a 0 0 0 q0 q1 l = some (outP (secondR s p nm vs r)) := by
      intro m hm nm vs a l hA
      rw [F.dog_Parse.L8]
      unfold F.dog_Parse.L8.step
      dsimp only
      cases r with
      | nil =>
        rw [bif_neg (by simp), secondR]
        exact hk.one (by simp) _ _ _ _ _ _ _ _ _ _ _ _ _ _ _ _ _ _ _
      | cons q r =>
        have hq := sumL_mem (show q ∈ p :: q :: r by simp)
        rw [bif_pos (by simp only [List.length_cons]; omega), show idx (p :: q :: r) ((1 : Nat) : Int) = some q from rfl, some_bind', bif_pos (by omega), show (((1 : Nat) : Int) == 0) = false from rfl, cond_false, show (((1 : Nat) : Int) == 1) = true from rfl, cond_true, kind_eq n (by omega), some_bind']
        have hwa : IntKind.wrap .i64 (a + 0) = a := by rw [Int.add_zero, wrap_in (by omega)]
        rw [secondR]
        by_cases h0 : kindR q = 0
        · rw [if_pos h0, if_pos h0]
          dsimp only
          rw [show ((16 : Int) == 0) = false from rfl, Bool.not_false, cond_true, Bool.false_and, Bool.not_false, cond_true, hwa, hA]
          exact hk.bad _ _ _ _ _ _ _ _ _ _ _ _ _ _ _ _ _ _ _ _ _ (by decide)
        · rw [if_neg h0, if_neg h0]
          dsimp only
          rw [beq_self_eq_true, Bool.not_true, cond_false, Bool.and_self, Bool.not_true, cond_false]
          simp only [sumL, List.map_cons, List.sum_cons, List.length_cons] at hs hpl
          rw [at_step q (by omega), show IntKind.wrap .i64 (((1 : Nat) : Int) + 1) = ((2 : Nat) : Int) from rfl, hA]
          have := drest_loop n hn k0 s (p :: q :: r) (by simp only [sumL, List.map_cons, List.sum_cons]; omega) hk (by simp) c0 c1 c2 c3 c4 c5 d0 d1 q0 q1 l r ((p.length : Int) + 1 + (q.length + 1)) (nm, kindR q, vs, 1000000, [], 0, ()) 0 2 m rfl (by omega) (by simp) (by omega) (by omega) (by simp only [sumL]; omega)
          rw [show (p.length : Int) + 1 + (q.length + 1) = (p.length : Int) + 1 + q.length + 1 by omega] at this ⊢
          exact this
    have k1 := key (m + 1) (by omega)
    have k2 := key2 m (by omega)
    have hmm : n = m + 1 + 1 := hm
    rw [linesR]
    have goal : ∀ j, j = m + 1 + 1 → F.dog_Parse.L8 n k0 j s (p :: r) (p :: r) ((p :: r).length : Int) (0 : Int) c0 c1 c2 c3 c4 c5 d0 d1 [] 0 [] 1000000 [] 0 0 0 0 0 q0 q1 0 = some (outP (match firstR p with
      | .error e => .error e
      | .ok x => secondR s p x.1 x.2 r)) := by
      intro j hj
      rw [hj, k1]
      cases firstR p with
      | error e => rfl
      | ok x => exact k2 x.1 x.2 _ _ rfl
    exact goal n hmm
theorem parse_eq (n : Nat) (hn : 200000 ≤ n) (s : List UInt8) (hs : s.length ≤ 1000000) : F.dog_Parse n s = some (parseD s) := by
  unfold F.dog_Parse parseD
  rw [bdec]
  by_cases h : 8192 < s.length
  · rw [if_pos (by omega), if_pos h]; rfl
  · rw [if_neg (by omega), if_neg h, split_eq n 124 hs, some_bind']
    have hsum := splitL_sum 124 s
    refine lines_eq n hn _ s (splitL 124 s) (splitL_ne 124 s) (by omega) (by omega) ⟨?_, ?_, ?_⟩ [] 0 [] 0 [] 0 0 0 0 0
    · intro c0 c1 c2 c3 c4 c5 d0 d1 e0 e1 e2 e3 e4 e5 e6 e7 e a q0 q1 q2 he
      rw [beq_eq_false_iff_ne.2 he, Bool.false_and, cond_false, Bool.not_false, cond_true]
      rfl
    · intro h2 c0 c1 c2 c3 c4 c5 d0 d1 e0 e1 e2 e3 e4 e5 e6 e7 q0 q1 q2
      rw [beq_self_eq_true, Bool.and_self, cond_true, bif_neg (by omega), Bool.not_true, cond_false]
    · intro h2 c0 c1 c2 c3 c4 c5 d0 d1 e0 e1 e2 e3 e4 e5 e6 e7 q0 q1 q2
      rw [beq_self_eq_true, Bool.and_self, cond_true, bif_pos (by omega), Bool.false_and, Bool.not_false, cond_true]
      rfl
end Go.AM
set_option linter.unusedVariables false
set_option linter.unusedSimpArgs false
namespace Go.AM
theorem right_id {m : MetD} (h : RightM m) (hs : StrictT m.2.2.2.2.1) : normM m = (m, 0, ()) := by
  have hv := (right_vals h).1
  have e1 : m.2.2.1.map normV = m.2.2.1 := by
    have : m.2.2.1.map normV = m.2.2.1.map id := List.map_congr_left (fun d hd => (normV_id (hv d hd).1 (hv d hd).2).2)
    rw [this, List.map_id]
  have e2 : valsM m = m := by unfold valsM; rw [e1]
  unfold normM
  rw [e2, if_pos h.chk]
  unfold formM
  rw [e1, normT_id hs]
theorem line_right (n : Nat) (hn : 200000 ≤ n) {m : MetD} (h : RightM m) (hs : StrictT m.2.2.2.2.1) : F.dog_Line n m = some (lineD m, 0, ()) := by
  rw [line_eq n hn m h.ok]
  unfold lineM
  rw [right_id h hs, if_pos rfl]
theorem refkind_eq (n : Nat) (hn : 100 ≤ n) (s : List UInt8) : F.ref11_Kind n s = some (kindR s) := by
  obtain ⟨m, hm⟩ : ∃ q, n = q + 6 := ⟨n - 6, by omega⟩
  unfold F.ref11_Kind
  rw [show F.ref11_Words n = some [[99], [103], [109, 115], [104], [100]] from rfl, some_bind']
  have L : ∀ (k0 : Unit → Option Int) (kr : Int → Option Int), F.ref11_Kind.L3 n k0 kr (m + 6) s [[99], [103], [109, 115], [104], [100]] (0 : Int) = if s = [99] then kr 1 else if s = [103] then kr 2 else if s = [109, 115] then kr 3 else if s = [104] then kr 4 else if s = [100] then kr 5 else k0 () := by
    intro k0 kr
    have e1 : ([99] == s) = decide (s = [99]) := by by_cases h : s = [99] <;> simp [h]; exact fun h' => h h'.symm
    have e2 : ([103] == s) = decide (s = [103]) := by by_cases h : s = [103] <;> simp [h]; exact fun h' => h h'.symm
    have e3 : ([109, 115] == s) = decide (s = [109, 115]) := by by_cases h : s = [109, 115] <;> simp [h]; exact fun h' => h h'.symm
    have e4 : ([104] == s) = decide (s = [104]) := by by_cases h : s = [104] <;> simp [h]; exact fun h' => h h'.symm
    have e5 : ([100] == s) = decide (s = [100]) := by by_cases h : s = [100] <;> simp [h]; exact fun h' => h h'.symm
    show (bif [99] == s then kr 1 else bif [103] == s then kr 2 else bif [109, 115] == s then kr 3 else bif [104] == s then kr 4 else bif [100] == s then kr 5 else k0 ()) = _
    rw [e1, e2, e3, e4, e5]
    simp only [bdec]
  rw [hm] at L ⊢
  refine (L _ _).trans ?_
  unfold kindR
  repeat' split
  all_goals rfl
def exM : MetD := ([97], 3, [(false, 1, 0), (false, 25, -1)], 500000, [([97], [120]), ([98], [])], 7, ())
theorem ex_right : RightM exM ∧ StrictT exM.2.2.2.2.1 ∧ lineD exM = [97, 58, 49, 58, 50, 46, 53, 124, 109, 115, 124, 64, 48, 46, 53, 124, 35, 97, 58, 120, 44, 98, 124, 84, 55] := by
  have d1 : Lib.decDigits 1 = [49] := dd_small (by omega)
  have d7 : Lib.decDigits 7 = [55] := dd_small (by omega)
  have d25 : Lib.decDigits 25 = [50, 53] := dd_inv (l := [50, 53]) rfl ⟨by simp, by simp⟩
  have d15 : Lib.decDigits 1500000 = [49, 53, 48, 48, 48, 48, 48] := dd_inv (l := [49, 53, 48, 48, 48, 48, 48]) rfl ⟨by simp, by simp⟩
  have c1 : decC (false, 1, 0) = 0 := by
    show checkR false 1 0 = 0
    unfold checkR; rw [d1]; rfl
  have c25 : decC (false, 25, -1) = 0 := by
    show checkR false 25 (-1) = 0
    unfold checkR; rw [d25]; rfl
  have t1 : textL (false, 1, 0) = [49] := by
    show textD false 1 0 = _
    unfold textD; rw [d1]; rfl
  have t25 : textL (false, 25, -1) = [50, 46, 53] := by
    show textD false 25 (-1) = _
    unfold textD wideW; rw [d25]; rfl
  have rt : (rateText 500000).1 = [48, 46, 53] := by
    unfold rateText pad6
    rw [if_neg (by decide), if_neg (by decide), show 1000000 + (500000 : Int).toNat = 1500000 from rfl, d15]; rfl
  refine ⟨⟨⟨by decide, ⟨by decide, fun d hd => ?_⟩, by decide, fun t ht => ?_⟩, ?_⟩, ?_, ?_⟩
  · have : d = (false, 1, 0) ∨ d = (false, 25, -1) := by simpa [exM] using hd
    rcases this with rfl | rfl
    · exact ⟨trivial, by decide, by decide⟩
    · exact ⟨trivial, by decide, by decide⟩
  · have : t = ([97], [120]) ∨ t = ([98], []) := by simpa [exM] using ht
    rcases this with rfl | rfl
    · exact ⟨by decide, by decide⟩
    · exact ⟨by decide, by decide⟩
  · have hv : valsB exM.2.2.1 = true := by
      show valsB [(false, 1, 0), (false, 25, -1)] = true
      unfold valsB
      simp [c1, c25]
    unfold chkM
    rw [hv]
    rfl
  · refine List.pairwise_cons.2 ⟨fun x hx => ?_, List.pairwise_singleton _ _⟩
    have : x = ([98], []) := by simpa using hx
    subst this
    rfl
  · show [97] ++ valsT [(false, 1, 0), (false, 25, -1)] ++ ([124] ++ wordT 3) ++ rateP 500000 ++ tagsP [([97], [120]), ([98], [])] ++ timeP 7 = _
    have v : valsT [(false, 1, 0), (false, 25, -1)] = [58, 49, 58, 50, 46, 53] := by
      unfold valsT
      simp [t1, t25]
    have r : rateP 500000 = [124, 64, 48, 46, 53] := by unfold rateP; rw [rt]; rfl
    have t : timeP 7 = [124, 84, 55] := by
      unfold timeP
      rw [show (7 : Int).toNat = 7 from rfl, d7]; rfl
    rw [v, r, t]
    rfl
theorem awake11 (n : Nat) (hn : 200000 ≤ n) : F.law11_awake n = some true := by
  unfold F.law11_awake
  obtain ⟨h1, h2, h3⟩ := ex_right
  have q1 : parseD [97, 58, 49, 58, 50, 46, 53, 48, 124, 109, 115, 124, 64, 48, 46, 53, 124, 35, 98, 44, 97, 58, 120, 124, 84, 55] = (exM, (0, 0, ()), ()) := by kernel_rfl
  have q2 : parseD [97, 58, 49, 124, 103, 124, 64, 48, 46, 53] = (zeroM, (18, 6, ()), ()) := by kernel_rfl
  have q3 : parseD [97, 58, 49, 124, 99, 124, 84, 55, 124, 64, 49] = (zeroM, (11, 9, ()), ()) := by kernel_rfl
  rw [parse_eq n hn _ (by simp), parse_eq n hn _ (by simp), parse_eq n hn _ (by simp), q1, q2, q3]
  have hl : F.dog_Line n (exM.1, exM.2.1, exM.2.2.1, exM.2.2.2.1, exM.2.2.2.2.1, exM.2.2.2.2.2.1, ()) = some (lineD exM, 0, ()) := line_right n hn h1 h2
  have he : F.ref07_Equal n (exM.1, exM.2.1, exM.2.2.1, exM.2.2.2.1, exM.2.2.2.2.1, exM.2.2.2.2.2.1, ()) ([97], (3 : Int), [(false, 1, 0), (false, 25, -1)], (500000 : Int), [([97], [120]), ([98], [])], (7 : Int), ()) = some true := refequal_refl n hn exM (by decide) (by decide)
  simp only [some_bind', hl, he, h3]
  rfl
theorem dog_words (n : Nat) (hn : 200000 ≤ n) (k : Int) (s : List UInt8) : F.law11_DogWords n k s = some true := by
  unfold F.law11_DogWords
  rw [awake11 n hn, word_eq, kind_eq n (by omega), refkind_eq n (by omega)]
  simp only [some_bind']
  by_cases h : 100 < s.length
  · rw [bif_pos (by omega)]
  rw [bif_neg (by omega)]
  have K : (bif kindR s == (0 : Int) then (bif (if kindR s = 0 then ((0 : Int), (16 : Int), ()) else (kindR s, 0, ())).1 == (0 : Int) then (bif (if kindR s = 0 then ((0 : Int), (16 : Int), ()) else (kindR s, 0, ())).2.1 == (16 : Int) then some true else some false) else some false) else (bif (if kindR s = 0 then ((0 : Int), (16 : Int), ()) else (kindR s, 0, ())).1 == kindR s then (bif (if kindR s = 0 then ((0 : Int), (16 : Int), ()) else (kindR s, 0, ())).2.1 == (0 : Int) then some true else some false) else some false)) = some true := by
    by_cases h0 : kindR s = 0
    · rw [if_pos h0, h0]; rfl
    · rw [if_neg h0, beq_eq_false_iff_ne.2 h0, cond_false]
      simp
  by_cases h1 : k < 1
  · have hk : kindB k = false := by unfold kindB; rw [decide_eq_false (by omega)]; rfl
    rw [bif_pos h1, hk]
    simp only [Bool.false_eq_true, if_false]
    exact K
  · rw [bif_neg h1]
    by_cases h2 : k > 5
    · have hk : kindB k = false := by unfold kindB; rw [decide_eq_false (by omega : ¬ k ≤ 5), Bool.and_false]
      rw [bif_pos h2, hk]
      simp only [Bool.false_eq_true, if_false]
      exact K
    · rw [bif_neg h2]
      have hk : k = 1 ∨ k = 2 ∨ k = 3 ∨ k = 4 ∨ k = 5 := by omega
      rcases hk with rfl | rfl | rfl | rfl | rfl <;> exact K
end Go.AM
set_option linter.unusedVariables false
set_option linter.unusedSimpArgs false
namespace Go.AM
theorem fill_loop (n : Nat) (X : Type) (k0 : List UInt8 → Int → Int → Option X) (b0 b1 : Int) : ∀ (j m : Nat) (v : List UInt8), v.length + j = 6 → j < m → F.ref05_Rate.L17 n k0 m v b0 b1 = k0 (v ++ List.replicate j 48) b0 b1 := by
  intro j
  induction j with
  | zero =>
    intro m v h hm
    obtain ⟨m, rfl⟩ : ∃ q, m = q + 1 := ⟨m - 1, by omega⟩
    show F.ref05_Rate.L17.step n (F.ref05_Rate.L17 n k0 m) k0 v b0 b1 = _
    unfold F.ref05_Rate.L17.step
    rw [bif_neg (by omega), List.replicate_zero, List.append_nil]
  | succ j ih =>
    intro m v h hm
    obtain ⟨m, rfl⟩ : ∃ q, m = q + 1 := ⟨m - 1, by omega⟩
    show F.ref05_Rate.L17.step n (F.ref05_Rate.L17 n k0 m) k0 v b0 b1 = _
    unfold F.ref05_Rate.L17.step
    rw [bif_pos (by omega), bif_pos (by rw [strMax_eq]; omega), ih m _ (by simp; omega) (by omega), List.append_assoc, List.replicate_succ]
    rfl
theorem rate_ref (n : Nat) (hn : 100 ≤ n) (s : List UInt8) (hs : s.length ≤ 1000000) (hl : s.length < n) : F.ref05_Rate n s = some (rateR s) := by
  unfold F.ref05_Rate rateR
  by_cases h1 : s = [49]
  · rw [if_pos h1, h1]; rfl
  rw [beq_eq_false_iff_ne.2 h1, cond_false, if_neg h1]
  by_cases h2 : s = []
  · rw [if_pos h2, h2]; rfl
  rw [beq_eq_false_iff_ne.2 h2, cond_false, if_neg h2]
  have hp : 0 < s.length := List.length_pos_iff.2 h2
  obtain ⟨i0, g0⟩ := head_idx hp
  rw [List.drop_zero] at g0
  have i0' : idx s (0 : Int) = some s[0] := i0
  have b0 : (((s[0].toNat : Nat) : Int) == 48) = decide (s[0] = 48) := beq_byte s[0] 48
  rw [i0', some_bind', b0, g0]
  by_cases h3 : s[0] = 48
  · rw [decide_eq_true h3, Bool.not_true, cond_false, if_neg (by simp [h3])]
    by_cases h4 : (s.length : Int) < 2
    · have : (s.drop 1).head? = none := by rw [List.drop_eq_nil_of_le (by omega)]; rfl
      rw [bif_pos h4, this, if_pos (by simp)]; rfl
    rw [bif_neg h4]
    obtain ⟨i1, g1⟩ := head_idx (s := s) (k := 1) (by omega)
    have i1' : idx s (1 : Int) = some s[1] := i1
    have b1 : (((s[1].toNat : Nat) : Int) == 46) = decide (s[1] = 46) := beq_byte s[1] 46
    rw [i1', some_bind', b1, g1]
    by_cases h5 : s[1] = 46
    · rw [decide_eq_true h5, Bool.not_true, cond_false, if_neg (by simp [h5])]
      have hdl : (s.drop 2).length + 2 = s.length := by simp; omega
      have hsub : sub s (2 : Int) (s.length : Int) = some (s.drop 2) := sub_tail (s := s) (p := 2) (by omega)
      rw [hsub, some_bind']
      generalize s.drop 2 = d at hdl ⊢
      by_cases h6 : d = []
      · rw [if_pos h6, h6]; rfl
      rw [beq_eq_false_iff_ne.2 h6, cond_false, if_neg h6, bad_ref n hn 4 d (by omega) (by omega), some_bind', cls4_fun]
      by_cases h7 : 0 ≤ badK isDig 0 d
      · rw [bif_pos (by omega), if_pos h7]
        have := badK_hi isDig 0 d
        rw [wrap_in (by omega)]
        rfl
      rw [bif_neg (by omega), if_neg h7]
      have hd := digs_of_bad h7
      by_cases h8 : 6 < d.length
      · rw [bif_pos (by omega), if_pos h8]; rfl
      rw [bif_neg (by omega), if_neg h8, fill_loop n _ _ 0 0 (6 - d.length) n d (by omega) (by omega)]
      have hD : Digs (d ++ List.replicate (6 - d.length) 48) := digs_append.2 ⟨hd, digs_rep _⟩
      have hv := val_lt hD
      have hlen : (d ++ List.replicate (6 - d.length) (48 : UInt8)).length = 6 := by simp; omega
      rw [hlen] at hv
      rw [value_ref n _ (by omega) (by omega) hD, some_bind', if_pos (by omega), val_zeros_right] at *
      have hpp : 0 < 10 ^ (6 - d.length) := Nat.pow_pos (by omega)
      by_cases h9 : val d = 0
      · rw [if_pos h9, h9, Nat.zero_mul]; rfl
      · have := Nat.mul_pos (Nat.pos_of_ne_zero h9) hpp
        rw [if_neg h9, beq_eq_false_iff_ne.2 (by simp only; omega)]
        rfl
    · rw [decide_eq_false h5, if_pos (by simp [h5])]; rfl
  · rw [decide_eq_false h3, if_pos (by simp [h3])]; rfl
end Go.AM
set_option linter.unusedVariables false
set_option linter.unusedSimpArgs false
namespace Go.AM
theorem seg_miss {c : UInt8} {s : List UInt8} (h : c ∉ s) : seg c s = s ∧ restN c s = [] := ⟨seg_all h, by unfold restN; rw [if_neg h]⟩
theorem one_same (p : List UInt8) : (oneT (seg 58 p, restN 58 p) == p) = decide (¬ (58 ∈ p ∧ restN 58 p = [])) := by
  by_cases hin : (58 : UInt8) ∈ p
  · by_cases h0 : restN 58 p = []
    · rw [decide_eq_false (by simp [hin, h0]), beq_eq_false_iff_ne]
      unfold oneT
      rw [if_pos h0]
      intro h
      have := seg_lt hin
      have h : seg 58 p = p := h
      rw [h] at this
      omega
    · rw [decide_eq_true (by simp [h0])]
      unfold oneT
      rw [if_neg h0]
      have h1 := seg_split hin
      have h2 : restN 58 p = p.drop ((seg 58 p).length + 1) := by unfold restN; rw [if_pos hin]
      rw [← h2] at h1
      have : seg 58 p ++ ([58] ++ restN 58 p) = p := h1.symm
      rw [this, beq_self_eq_true]
  · obtain ⟨h1, h2⟩ := seg_miss hin
    rw [decide_eq_true (by simp [hin])]
    unfold oneT
    rw [h1, h2, if_pos rfl, beq_self_eq_true]
theorem piece_ref (n : Nat) (hn : 200000 ≤ n) (X : Type) (rec : List UInt8 → List TagL → Int → Int → Int → Int → Nat → Option X) (kr : List TagL → Int → Int → Nat → Option X) (v0 : List UInt8) (out : List TagL) (ho : out.length ≤ 100000) (v5 : Int) (i : Nat) (hi : i ≤ 100000) (p : List UInt8) (hp : p.length ≤ 9000) (b0 b1 : Int) :
    F.ref06_Parse.L10 n
              (fun e6_0 e6_4 e6_5 e6_6 e6_7 e6_b0_0 e6_b0_1 e6_b1_0 e6_b1_1 e6_k0 =>
                (F.ref06_Right n (e6_b1_0, e6_b1_1, ())).bind fun y7 =>
                  bif !y7 then
                    kr [] (19 : Int) e6_5 0
                  else
                    (F.ref06_One n (e6_b1_0, e6_b1_1, ())).bind fun y8 =>
                      bif !(y8 == e6_7) then
                        kr [] (19 : Int) e6_5 0
                      else
                      bif decide ((e6_4.length + 1) * 32 ≤ 2 ^ 46) && decide (0 < 32 ∧ 32 ≤ 2 ^ 20) then
                        bif Nat.beq e6_k0 e6_4.length then
                          rec e6_0 (e6_4 ++ ([(e6_b1_0, e6_b1_1)])) (IntKind.wrap .i64 (e6_6 + (1 : Int))) (IntKind.wrap .i64 (e6_6 + (1 : Int))) e6_b0_0 e6_b0_1 ((e6_4 ++ ([(e6_b1_0, e6_b1_1)])).length)
                        else
                          none
                      else
                        none) n v0 out v5 (i : Int) p (IntKind.wrap .i64 ((p.length : Int) - (1 : Int))) b0 b1 p [] out.length
    = if tagGood (seg 58 p, restN 58 p) = true ∧ ¬ (58 ∈ p ∧ restN 58 p = []) then rec v0 (out ++ [(seg 58 p, restN 58 p)]) ((i : Int) + 1) ((i + 1 : Nat) : Int) b0 b1 (out ++ [(seg 58 p, restN 58 p)]).length else kr [] 19 v5 0 := by
  have hw : IntKind.wrap .i64 ((p.length : Int) - 1) = (p.length : Int) - 1 := wrap_in (by omega)
  have hsl := seg_le 58 p
  have hrl := restN_le 58 p
  rw [hw]
  refine (colon_loop n X _ v0 out v5 (i : Int) p (by omega) b0 b1 out.length p.length n p [] (by omega) (by omega)).trans ?_
  have body : (F.ref06_Right n (seg 58 p, restN 58 p, ())).bind (fun y7 =>
                  bif !y7 then
                    kr [] (19 : Int) v5 0
                  else
                    (F.ref06_One n (seg 58 p, restN 58 p, ())).bind fun y8 =>
                      bif !(y8 == p) then
                        kr [] (19 : Int) v5 0
                      else
                      bif decide ((out.length + 1) * 32 ≤ 2 ^ 46) && decide (0 < 32 ∧ 32 ≤ 2 ^ 20) then
                        bif Nat.beq out.length out.length then
                          rec v0 (out ++ ([(seg 58 p, restN 58 p)])) (IntKind.wrap .i64 ((i : Int) + (1 : Int))) (IntKind.wrap .i64 ((i : Int) + (1 : Int))) b0 b1 ((out ++ ([(seg 58 p, restN 58 p)])).length)
                        else
                          none
                      else
                        none) = if tagGood (seg 58 p, restN 58 p) = true ∧ ¬ (58 ∈ p ∧ restN 58 p = []) then rec v0 (out ++ [(seg 58 p, restN 58 p)]) ((i : Int) + 1) ((i + 1 : Nat) : Int) b0 b1 (out ++ [(seg 58 p, restN 58 p)]).length else kr [] 19 v5 0 := by
    have hr := right_ref n hn (t := (seg 58 p, restN 58 p)) ⟨by show (seg 58 p).length ≤ 10000; omega, by show (restN 58 p).length ≤ 10000; omega⟩
    dsimp only at hr
    rw [hr, some_bind']
    cases hg : tagGood (seg 58 p, restN 58 p)
    · rw [if_neg (by simp)]; rfl
    · have ho1 := one_ref n (t := (seg 58 p, restN 58 p)) (tagGood_le hg)
      dsimp only at ho1
      rw [Bool.not_true, cond_false, ho1, some_bind', one_same]
      by_cases hc : ¬ (58 ∈ p ∧ restN 58 p = [])
      · rw [decide_eq_true hc, Bool.not_true, cond_false, refn_grow (by omega), Nat.beq_refl, cond_true, if_pos ⟨rfl, hc⟩, wrap_succ (by omega)]
        have : ((i + 1 : Nat) : Int) = (i : Int) + 1 := by omega
        rw [this]
      · rw [decide_eq_false hc, Bool.not_false, cond_true, if_neg (fun h => hc h.2)]
  rw [List.take_length]
  by_cases hin : (58 : UInt8) ∈ p
  · rw [if_pos hin]
    exact body
  · rw [if_neg hin]
    obtain ⟨h1, h2⟩ := seg_miss hin
    rw [h1, h2] at body ⊢
    exact body
def addL (cur : List UInt8) : List (List UInt8) → List (List UInt8)
  | [] => []
  | p :: q => (cur ++ p) :: q
theorem tags_ref_loop (n : Nat) (hn : 200000 ≤ n) (X : Type) (k0 kr : List TagL → Int → Int → Nat → Option X) (s : List UInt8) (hs : s.length ≤ 9000) (b0 b1 : Int) : ∀ (r cur : List UInt8) (out : List TagL) (fr i m : Nat), s.drop i = r → i ≤ s.length → s.drop fr = cur ++ r → i = fr + cur.length → out.length ≤ i → r.length + 1 < m →
    F.ref06_Parse.L4 n k0 kr m s out (fr : Int) (i : Int) b0 b1 out.length = match tagsR (addL cur (splitL 44 r)) out (fr : Int) with
      | .ok l => k0 l b0 b1 l.length
      | .error e => kr [] 19 e 0 := by
  intro r
  induction r with
  | nil =>
    intro cur out fr i m h1 hi h2 h3 ho hm
    obtain ⟨m, rfl⟩ : ∃ q, m = q + 2 := ⟨m - 2, by simp at hm; omega⟩
    have hil : s.length = i := by have := drop_nil' h1; omega
    have hsub : sub s (fr : Int) (i : Int) = some cur := by
      rw [sub_nat s fr i (by omega) (by omega), List.drop_take, h2, h3, List.append_nil]
      rw [List.take_of_length_le (by omega)]
    rw [F.ref06_Parse.L4]
    unfold F.ref06_Parse.L4.step
    dsimp only
    rw [bif_pos (by omega), bif_neg (by omega), hsub, some_bind']
    refine (piece_ref n hn X _ kr s out (by omega) (fr : Int) i (by omega) cur (by omega) b0 b1).trans ?_
    simp only [splitL, addL, List.append_nil]
    rw [tagsR]
    split
    · rw [F.ref06_Parse.L4]
      unfold F.ref06_Parse.L4.step
      dsimp only
      rw [bif_neg (by omega), tagsR]
    · rfl
  | cons x r ih =>
    intro cur out fr i m h1 hi h2 h3 ho hm
    obtain ⟨m, rfl⟩ : ∃ q, m = q + 1 := ⟨m - 1, by simp at hm; omega⟩
    obtain ⟨l1, g1, t1⟩ := drop_cons h1
    simp only [List.length_cons] at hm
    have hsub : sub s (fr : Int) (i : Int) = some cur := by
      rw [sub_nat s fr i (by omega) (by omega), List.drop_take, h2, h3]
      rw [show fr + cur.length - fr = cur.length by omega, List.take_append_of_le_length (by omega), List.take_length]
    have hb : (((x.toNat : Nat) : Int) == 44) = decide (x = 44) := beq_byte x 44
    rw [F.ref06_Parse.L4]
    unfold F.ref06_Parse.L4.step
    dsimp only
    rw [bif_pos (by omega), bif_pos (by omega), idx_nat, g1, some_bind', hb]
    by_cases hx : x = 44
    · rw [decide_eq_true hx, Bool.not_true, cond_false, hsub, some_bind']
      refine (piece_ref n hn X _ kr s out (by omega) (fr : Int) i (by omega) cur (by omega) b0 b1).trans ?_
      rw [splitL, if_pos hx]
      simp only [addL, List.append_nil]
      rw [tagsR]
      split
      · have hih := ih [] (out ++ [(seg 58 cur, restN 58 cur)]) (i + 1) (i + 1) m t1 (by omega) (by rw [t1]; rfl) (by simp) (by simp; omega) (by omega)
        have e1 : ((i + 1 : Nat) : Int) = (i : Int) + 1 := by omega
        have e2 : (fr : Int) + (cur.length : Int) + 1 = (i : Int) + 1 := by omega
        have e3 : addL [] (splitL 44 r) = splitL 44 r := by cases splitL 44 r <;> rfl
        rw [e3] at hih
        rw [e2, ← e1]
        exact hih
      · rfl
    · rw [decide_eq_false hx, Bool.not_false, cond_true, wrap_succ (by omega)]
      have hih := ih (cur ++ [x]) out fr (i + 1) m t1 (by omega) (by rw [h2]; simp) (by simp; omega) (by omega) (by omega)
      have e : addL (cur ++ [x]) (splitL 44 r) = addL cur (splitL 44 (x :: r)) := by
        rw [splitL, if_neg hx]
        cases hq : splitL 44 r with
        | nil => exact absurd hq (splitL_ne 44 r)
        | cons p q => simp [addL]
      rw [e] at hih
      exact hih
theorem tags_ref (n : Nat) (hn : 200000 ≤ n) (s : List UInt8) (hs : s.length ≤ 9000) : F.ref06_Parse n s = some (match tagsR (splitL 44 s) [] 0 with | .ok l => (l, (0, 0, ()), ()) | .error e => ([], (19, e, ()), ())) := by
  unfold F.ref06_Parse
  refine (tags_ref_loop n hn _ _ _ s hs 0 0 s [] [] 0 0 n rfl (by omega) rfl rfl (by simp) (by omega)).trans ?_
  have e3 : addL [] (splitL 44 s) = splitL 44 s := by cases splitL 44 s <;> rfl
  rw [e3]
  show (match tagsR (splitL 44 s) [] 0 with | .ok l => _ | .error e => _) = _
  cases tagsR (splitL 44 s) [] 0 <;> rfl
end Go.AM
set_option linter.unusedVariables false
set_option linter.unusedSimpArgs false
namespace Go.AM
abbrev K31 := List UInt8 → Int → List DecL → Int → List TagL → Int → Int → Int → List UInt8 → Int → List DecL → Int → List TagL → Int → List UInt8 → Int → List DecL → Int → List TagL → Int → Int → List UInt8 → Int → Int → Int → Int → Nat → Nat → Nat → Nat → Nat → Option ParseD
abbrev K29 := List UInt8 → Int → List DecL → Int → List TagL → Int → Int → Int → List UInt8 → Int → List DecL → Int → List TagL → Int → List UInt8 → Int → List DecL → Int → List TagL → Int → Int → List UInt8 → Int → Int → Int → Int → Nat → Nat → Nat → Option ParseD
abbrev K30 := List UInt8 → Int → List DecL → Int → List TagL → Int → Int → Int → List UInt8 → Int → List DecL → Int → List TagL → Int → List UInt8 → Int → List DecL → Int → List TagL → Int → Int → List UInt8 → Int → Int → Nat → Nat → Nat → Nat → Nat → Nat → Option ParseD
structure K16OK (k0 : K31) (kr : K29) : Prop where
  bad : ∀ e a w0 w1 w2 w3 w4 w5 g0 g1 n0 n1 j0 j1 q0 q1 q2, e ≠ 0 → kr [] 0 [] 0 [] 0 e a [] 0 [] 0 [] 0 w0 w1 w2 w3 w4 w5 g0 g1 n0 n1 j0 j1 q0 q1 q2 = some (badP e a)
  ok : ∀ c0 c1 c2 c3 c4 c5 d0 d1 w0 w1 w2 w3 w4 w5 g0 g1 n0 n1 j0 j1 q0 q1 q2 q3 q4, k0 c0 c1 c2 c3 c4 c5 d0 d1 [] 0 [] 0 [] 0 w0 w1 w2 w3 w4 w5 g0 g1 n0 n1 j0 j1 q0 q1 q2 q3 q4 = some ((w0, w1, w2, w3, w4, w5, ()), (0, 0, ()), ())
theorem tagsR_good : ∀ (r : List (List UInt8)) (acc : List TagL) (a : Int) (l : List TagL), tagsR r acc a = .ok l → (∀ t ∈ acc, tagGood t = true) → ∀ t ∈ l, tagGood t = true
  | [], acc, a, l, h, hg => by cases h; exact hg
  | p :: r, acc, a, l, h, hg => by
    rw [tagsR] at h
    split at h
    · rename_i hc
      refine tagsR_good r _ _ _ h (fun t ht => ?_)
      rcases List.mem_append.1 ht with ht | ht
      · exact hg t ht
      · rw [List.mem_singleton.1 ht]; exact hc.1
    · cases h
theorem tagS_ok {t : TagL} (h : TagS t) : TagLOK t := ⟨by have := h.1; omega, by have := h.2; omega⟩
theorem c19_eq' (n : Nat) (k0 : K31) (kr : K29) (hk : K16OK k0 kr) (kn : List (Int × List UInt8) → Int → Int → List UInt8 → Int → List DecL → Int → List TagL → Int → Int → Int → List UInt8 → Int → List DecL → Int → List TagL → Int → List UInt8 → Int → List DecL → Int → List TagL → Int → Int → List UInt8 → Int → Int → Int → Int → Nat → Nat → Nat → Nat → Nat → Option ParseD) (v5 : List (Int × List UInt8)) (last : Int) (i : Nat) (turn e a : Int) (p : List UInt8) (hi : v5[i]? = some (a, p)) (c0 : List UInt8) (c1 : Int) (c2 : List DecL) (c3 : Int) (c4 : List TagL) (c5 d0 d1 : Int) (w0 : List UInt8) (w1 : Int) (w2 : List DecL) (w3 : Int) (w4 : List TagL) (w5 : Int) (g0 : Int) (g1 : List UInt8) (n0 n1 : Int) (j0 j1 : Int) (q0 q1 q2 q3 q4 : Nat) :
    F.ref11_Parse.C19 n kr kn v5 last (i : Int) turn e c0 c1 c2 c3 c4 c5 d0 d1 [] 0 [] 0 [] 0 w0 w1 w2 w3 w4 w5 g0 g1 n0 n1 j0 j1 q0 q1 q2 q3 q4 = if turn ≤ last then some (badP 11 a) else if e ≠ 0 then some (badP e a) else kn v5 turn (i : Int) c0 c1 c2 c3 c4 c5 d0 d1 [] 0 [] 0 [] 0 w0 w1 w2 w3 w4 w5 g0 g1 n0 n1 j0 j1 q0 q1 q2 q3 q4 := by
  unfold F.ref11_Parse.C19
  rw [idx_nat, hi]
  by_cases h1 : turn ≤ last
  · rw [bif_pos h1, if_pos h1, some_bind']
    exact hk.bad _ _ _ _ _ _ _ _ _ _ _ _ _ _ _ _ _ (by decide)
  · rw [bif_neg h1, if_neg h1]
    by_cases h2 : e = 0
    · rw [h2, beq_self_eq_true, Bool.not_true, cond_false, if_neg (by simp)]
    · rw [beq_eq_false_iff_ne.2 h2, Bool.not_false, cond_true, if_pos h2, some_bind']
      exact hk.bad _ _ _ _ _ _ _ _ _ _ _ _ _ _ _ _ _ h2
theorem refrest_loop (n : Nat) (hn : 200000 ≤ n) (k0 : K31) (kr : K29) (hk : K16OK k0 kr) (v5 : List (Int × List UInt8)) (hv : v5.length ≤ 10000) (c0 : List UInt8) (c1 : Int) (c2 : List DecL) (c3 : Int) (c4 : List TagL) (c5 d0 d1 : Int) (g0 : Int) (g1 : List UInt8) (n0 n1 : Int) (j0 j1 : Int) (q0 q1 q2 q3 q4 : Nat) :
    ∀ (r : List (List UInt8)) (a : Int) (w : MetD) (last : Int) (i m : Nat), v5.drop i = atL r a → i ≤ v5.length → r.length < m → 0 ≤ last → sumL r ≤ 9000 →
    F.ref11_Parse.L16 n k0 kr m v5 last (i : Int) c0 c1 c2 c3 c4 c5 d0 d1 [] 0 [] 0 [] 0 w.1 w.2.1 w.2.2.1 w.2.2.2.1 w.2.2.2.2.1 w.2.2.2.2.2.1 g0 g1 n0 n1 j0 j1 q0 q1 q2 q3 q4 = some (outP (restR r a w last)) := by
  intro r
  induction r with
  | nil =>
    intro a w last i m h1 hi hm hl hs
    obtain ⟨m, rfl⟩ : ∃ q, m = q + 1 := ⟨m - 1, by omega⟩
    rw [atL] at h1
    rw [F.ref11_Parse.L16]
    unfold F.ref11_Parse.L16.step
    dsimp only
    rw [bif_neg (by have := drop_nil' h1; omega), restR]
    exact hk.ok _ _ _ _ _ _ _ _ _ _ _ _ _ _ _ _ _ _ _ _ _ _ _ _ _
  | cons p r ih =>
    intro a w last i m h1 hi hm hl hs
    obtain ⟨m, rfl⟩ : ∃ q, m = q + 1 := ⟨m - 1, by simp at hm; omega⟩
    rw [atL] at h1
    obtain ⟨l1, gg, t1⟩ := drop_cons h1
    simp only [List.length_cons] at hm
    simp only [sumL, List.map_cons, List.sum_cons] at hs
    have next : ∀ (w' : MetD) (last' : Int), 0 ≤ last' → F.ref11_Parse.L16 n k0 kr m v5 last' ((i + 1 : Nat) : Int) c0 c1 c2 c3 c4 c5 d0 d1 [] 0 [] 0 [] 0 w'.1 w'.2.1 w'.2.2.1 w'.2.2.2.1 w'.2.2.2.2.1 w'.2.2.2.2.2.1 g0 g1 n0 n1 j0 j1 q0 q1 q2 q3 q4 = some (outP (restR r (a + p.length + 1) w' last')) := fun w' last' hl' => ih _ w' last' (i + 1) m t1 (by omega) (by omega) hl' (by simp only [sumL]; omega)
    have hw : IntKind.wrap .i64 ((i : Int) + 1) = ((i + 1 : Nat) : Int) := wrap_succ (by omega)
    have hww : (w.1, w.2.1, w.2.2.1, w.2.2.2.1, w.2.2.2.2.1, w.2.2.2.2.2.1, ()) = w := rfl
    rw [F.ref11_Parse.L16]
    unfold F.ref11_Parse.L16.step
    dsimp only
    rw [bif_pos (by omega), idx_nat, gg, some_bind', restR]
    dsimp only
    cases p with
    | nil =>
      rw [beq_self_eq_true, cond_true, moreR]
      refine (c19_eq' n k0 kr hk _ v5 last i 0 11 a [] gg _ _ _ _ _ _ _ _ _ _ _ _ _ _ _ _ _ _ _ _ _ _ _ _ _).trans ?_
      rw [if_pos hl]; rfl
    | cons x s =>
      have hsub : sub (x :: s) 1 ((x :: s).length : Int) = some s := by
        rw [show (1 : Int) = ((1 : Nat) : Int) from rfl, sub_nat (x :: s) 1 _ (by simp) (by omega), List.take_length]; rfl
      have b64 : (((x.toNat : Nat) : Int) == 64) = decide (x = 64) := beq_byte x 64
      have b35 : (((x.toNat : Nat) : Int) == 35) = decide (x = 35) := beq_byte x 35
      have b84 : (((x.toNat : Nat) : Int) == 84) = decide (x = 84) := beq_byte x 84
      simp only [List.length_cons] at hs
      rw [show ((x :: s) == ([] : List UInt8)) = false from rfl, cond_false, hsub, some_bind', show idx (x :: s) 0 = some x from rfl, some_bind', b64, b35, b84, moreR]
      by_cases h64 : x = 64
      · rw [decide_eq_true h64, cond_true, if_pos h64, rate_ref n (by omega) s (by omega) (by omega), some_bind', rate_bad]
        by_cases hl1 : 0 < last
        · rw [if_pos hl1]
          have hle : (1 : Int) ≤ last := by omega
          cases decide ((rateR s).2.1.1 = 0)
          · rw [Bool.not_false, cond_true]
            refine (c19_eq' n k0 kr hk _ v5 last i 1 18 a _ gg _ _ _ _ _ _ _ _ _ _ _ _ _ _ _ _ _ _ _ _ _ _ _ _ _).trans ?_
            rw [if_pos hle]; rfl
          · rw [Bool.not_true, cond_false]
            cases (w.2.1 == 2)
            · rw [cond_false]
              refine (c19_eq' n k0 kr hk _ v5 last i 1 0 a _ gg _ _ _ _ _ _ _ _ _ _ _ _ _ _ _ _ _ _ _ _ _ _ _ _ _).trans ?_
              rw [if_pos hle]; rfl
            · rw [cond_true]
              cases ((rateR s).1 == 1000000)
              · rw [Bool.not_false, cond_true]
                refine (c19_eq' n k0 kr hk _ v5 last i 1 18 a _ gg _ _ _ _ _ _ _ _ _ _ _ _ _ _ _ _ _ _ _ _ _ _ _ _ _).trans ?_
                rw [if_pos hle]; rfl
              · rw [Bool.not_true, cond_false]
                refine (c19_eq' n k0 kr hk _ v5 last i 1 0 a _ gg _ _ _ _ _ _ _ _ _ _ _ _ _ _ _ _ _ _ _ _ _ _ _ _ _).trans ?_
                rw [if_pos hle]; rfl
        · have hle : ¬ (1 : Int) ≤ last := by omega
          rw [if_neg hl1]
          have good : F.ref11_Parse.C19 n kr (fun e20_5 e20_8 e20_9 b0_0 b0_1 b0_2 b0_3 b0_4 b0_5 b1_0 b1_1 b2_0 b2_1 b2_2 b2_3 b2_4 b2_5 b3_0 b3_1 b3_2 b3_3 b3_4 b3_5 b4_0 b4_1 b5_0 b5_1 b6_0 b6_1 y0 y1 y2 y3 y4 => F.ref11_Parse.L16 n k0 kr m e20_5 e20_8 (IntKind.wrap .i64 (e20_9 + (1 : Int))) b0_0 b0_1 b0_2 b0_3 b0_4 b0_5 b1_0 b1_1 b2_0 b2_1 b2_2 b2_3 b2_4 b2_5 b3_0 b3_1 b3_2 b3_3 b3_4 b3_5 b4_0 b4_1 b5_0 b5_1 b6_0 b6_1 y0 y1 y2 y3 y4) v5 last (i : Int) 1 0 c0 c1 c2 c3 c4 c5 d0 d1 [] 0 [] 0 [] 0 w.1 w.2.1 w.2.2.1 (rateR s).1 w.2.2.2.2.1 w.2.2.2.2.2.1 g0 g1 n0 n1 j0 j1 q0 q1 q2 q3 q4 = some (outP (restR r (a + (x :: s).length + 1) (w.1, w.2.1, w.2.2.1, (rateR s).1, w.2.2.2.2.1, w.2.2.2.2.2.1, ()) 1)) := by
            refine (c19_eq' n k0 kr hk _ v5 last i 1 0 a _ gg _ _ _ _ _ _ _ _ _ _ _ _ _ _ _ _ _ _ _ _ _ _ _ _ _).trans ?_
            rw [if_neg hle, if_neg (by simp), hw]
            exact next (w.1, w.2.1, w.2.2.1, (rateR s).1, w.2.2.2.2.1, w.2.2.2.2.2.1, ()) 1 (by omega)
          by_cases h0 : (rateR s).2.1.1 = 0
          · rw [decide_eq_true h0, Bool.not_true, cond_false]
            by_cases h2 : w.2.1 = 2
            · rw [h2, beq_self_eq_true, cond_true]
              by_cases h1 : (rateR s).1 = 1000000
              · rw [h1, beq_self_eq_true, Bool.not_true, cond_false, if_neg (by simp [h0])]
                rw [h1, h2] at good
                exact good
              · rw [beq_eq_false_iff_ne.2 h1, Bool.not_false, cond_true, if_pos (by simp [h1])]
                refine (c19_eq' n k0 kr hk _ v5 last i 1 18 a _ gg _ _ _ _ _ _ _ _ _ _ _ _ _ _ _ _ _ _ _ _ _ _ _ _ _).trans ?_
                rw [if_neg hle, if_pos (by decide)]; rfl
            · rw [beq_eq_false_iff_ne.2 h2, cond_false, if_neg (by simp [h0, h2])]
              exact good
          · rw [decide_eq_false h0, Bool.not_false, cond_true, if_pos (by simp [h0])]
            refine (c19_eq' n k0 kr hk _ v5 last i 1 18 a _ gg _ _ _ _ _ _ _ _ _ _ _ _ _ _ _ _ _ _ _ _ _ _ _ _ _).trans ?_
            rw [if_neg hle, if_pos (by decide)]; rfl
      rw [decide_eq_false h64, cond_false, if_neg h64]
      by_cases h35 : x = 35
      · have hsl := splitL_sum 44 s
        have hsn := sumL_len (splitL 44 s)
        rw [decide_eq_true h35, cond_true, if_pos h35, tags_ref n hn s (by omega), some_bind']
        cases hT : tagsR (splitL 44 s) [] 0 with
        | error e =>
          dsimp only
          have hnn : F.ref06_Normal n [] = some (normT []) := refNormal_eq n hn [] (by simp) (fun t ht => by cases ht)
          rw [hnn, some_bind', show ((19 : Int) == 0) = false from rfl, Bool.false_and, Bool.not_false, cond_true]
          refine (c19_eq' n k0 kr hk _ v5 last i 2 19 a _ gg _ _ _ _ _ _ _ _ _ _ _ _ _ _ _ _ _ _ _ _ _ _ _ _ _).trans ?_
          by_cases hl1 : 1 < last
          · rw [if_pos hl1, if_pos (by omega)]; rfl
          · rw [if_neg hl1, if_neg (by omega), if_pos (by decide)]; rfl
        | ok l =>
          have hll := tagsR_len _ _ _ _ hT
          have hgd := tagsR_good _ _ _ _ hT (fun t ht => by cases ht)
          simp only [List.length_nil, Nat.zero_add] at hll
          dsimp only
          have hnn : F.ref06_Normal n l = some (normT l) := refNormal_eq n hn l (by omega) (fun t ht => tagS_ok (tagGood_le (hgd t ht)))
          rw [hnn, some_bind', beq_self_eq_true, Bool.and_self, Bool.not_true, cond_false, bdec]
          by_cases h32 : 32 < l.length
          · rw [if_pos (by omega), if_pos h32]
            refine (c19_eq' n k0 kr hk _ v5 last i 2 19 a _ gg _ _ _ _ _ _ _ _ _ _ _ _ _ _ _ _ _ _ _ _ _ _ _ _ _).trans ?_
            by_cases hl1 : 1 < last
            · rw [if_pos hl1, if_pos (by omega)]; rfl
            · rw [if_neg hl1, if_neg (by omega), if_pos (by decide)]; rfl
          · rw [if_neg (by omega), if_neg h32]
            refine (c19_eq' n k0 kr hk _ v5 last i 2 0 a _ gg _ _ _ _ _ _ _ _ _ _ _ _ _ _ _ _ _ _ _ _ _ _ _ _ _).trans ?_
            by_cases hl1 : 1 < last
            · rw [if_pos hl1, if_pos (by omega)]; rfl
            · rw [if_neg hl1, if_neg (by omega), if_neg (by simp), hw]
              exact next (w.1, w.2.1, w.2.2.1, w.2.2.2.1, normT l, w.2.2.2.2.2.1, ()) 2 (by omega)
      rw [decide_eq_false h35, cond_false, if_neg h35]
      by_cases h84 : x = 84
      · have htm : F.ref05_Time n s = some (parseNum s 1 1099511627776) := by
          unfold F.ref05_Time
          rw [parse_ref n (by omega) s 1 1099511627776 (by omega) (by omega)]; rfl
        rw [decide_eq_true h84, cond_true, if_pos h84, htm, some_bind', time_bad]
        by_cases h0 : (parseNum s 1 1099511627776).2.1.1 = 0
        · rw [decide_eq_true h0, Bool.not_true, cond_false]
          refine (c19_eq' n k0 kr hk _ v5 last i 3 0 a _ gg _ _ _ _ _ _ _ _ _ _ _ _ _ _ _ _ _ _ _ _ _ _ _ _ _).trans ?_
          by_cases hl1 : 2 < last
          · rw [if_pos hl1, if_pos (by omega)]; rfl
          · rw [if_neg hl1, if_neg (by omega), if_neg (by simp), if_neg (by simp [h0]), hw]
            exact next (w.1, w.2.1, w.2.2.1, w.2.2.2.1, w.2.2.2.2.1, (parseNum s 1 1099511627776).1, ()) 3 (by omega)
        · rw [decide_eq_false h0, Bool.not_false, cond_true]
          refine (c19_eq' n k0 kr hk _ v5 last i 3 20 a _ gg _ _ _ _ _ _ _ _ _ _ _ _ _ _ _ _ _ _ _ _ _ _ _ _ _).trans ?_
          by_cases hl1 : 2 < last
          · rw [if_pos hl1, if_pos (by omega)]; rfl
          · rw [if_neg hl1, if_neg (by omega), if_pos (by decide), if_pos h0]; rfl
      rw [decide_eq_false h84, cond_false, if_neg h84]
      refine (c19_eq' n k0 kr hk _ v5 last i 0 11 a _ gg _ _ _ _ _ _ _ _ _ _ _ _ _ _ _ _ _ _ _ _ _ _ _ _ _).trans ?_
      rw [if_pos hl]; rfl
end Go.AM
set_option linter.unusedVariables false
set_option linter.unusedSimpArgs false
namespace Go.AM
theorem c7_bad (n : Nat) (s : List UInt8) (ps : List (Int × List UInt8)) (c0 : List UInt8) (c1 : Int) (c2 : List DecL) (c3 : Int) (c4 : List TagL) (c5 d0 d1 : Int) (w0 : List UInt8) (w1 : Int) (w2 : List DecL) (w3 : Int) (w4 : List TagL) (w5 g0 : Int) (g1 : List UInt8) (n0 n1 e a : Int) (he : e ≠ 0) (q0 q1 q2 q3 q4 q5 : Nat) :
    F.ref11_Parse.C7 n (fun b0_0 b0_1 b0_2 b0_3 b0_4 b0_5 b1_0 b1_1 k0 => some (((b0_0, b0_1, b0_2, b0_3, b0_4, b0_5, ()), (b1_0, b1_1, ()), ()))) s ps c0 c1 c2 c3 c4 c5 d0 d1 [] 0 [] 0 [] 0 w0 w1 w2 w3 w4 w5 g0 g1 n0 n1 e a q0 q1 q2 q3 q4 q5 = some (badP e a) := by
  unfold F.ref11_Parse.C7
  rw [beq_eq_false_iff_ne.2 he, Bool.false_and, Bool.not_false, cond_true]
  rfl
theorem atL_len : ∀ (r : List (List UInt8)) (a : Int), (atL r a).length = r.length
  | [], _ => rfl
  | p :: r, a => by simp [atL, atL_len r]
theorem c7_good (n : Nat) (hn : 200000 ≤ n) (s p : List UInt8) (r : List (List UInt8)) (hs : sumL (p :: r) ≤ 9000) (c0 : List UInt8) (c1 : Int) (c2 : List DecL) (c3 : Int) (c4 : List TagL) (c5 d0 d1 : Int) (nm : List UInt8) (vs : List DecL) (g0 : Int) (g1 : List UInt8) (n0 n1 : Int) (q0 q1 q2 q3 q4 q5 : Nat) :
    F.ref11_Parse.C7 n (fun b0_0 b0_1 b0_2 b0_3 b0_4 b0_5 b1_0 b1_1 k0 => some (((b0_0, b0_1, b0_2, b0_3, b0_4, b0_5, ()), (b1_0, b1_1, ()), ()))) s (atL (p :: r) 0) c0 c1 c2 c3 c4 c5 d0 d1 [] 0 [] 0 [] 0 nm 0 vs 1000000 [] 0 g0 g1 n0 n1 0 0 q0 q1 q2 q3 q4 q5 = some (outP (secondR s p nm vs r)) := by
  have hl := atL_len (p :: r) 0
  unfold F.ref11_Parse.C7
  rw [beq_self_eq_true, Bool.and_self, Bool.not_true, cond_false, hl]
  cases r with
  | nil => rfl
  | cons q r =>
    have e1 : (((p :: q :: r).length : Int) == 1) = false := by
      rw [beq_eq_false_iff_ne]; simp only [List.length_cons]; omega
    have e2 : idx (atL (p :: q :: r) 0) 1 = some (0 + (p.length : Int) + 1, q) := rfl
    rw [e1, cond_false, e2, some_bind']
    dsimp only
    rw [refkind_eq n (by omega), some_bind', secondR]
    by_cases h0 : kindR q = 0
    · rw [if_pos h0, h0, beq_self_eq_true, cond_true, some_bind']
      dsimp only
      rw [show (0 : Int) + (p.length : Int) + 1 = (p.length : Int) + 1 by omega]
      rfl
    · rw [if_neg h0, beq_eq_false_iff_ne.2 h0, cond_false]
      have hsum := sumL_len (p :: q :: r)
      simp only [sumL, List.map_cons, List.sum_cons] at hs
      have := refrest_loop n hn
        (fun e47_b0_0 e47_b0_1 e47_b0_2 e47_b0_3 e47_b0_4 e47_b0_5 e47_b1_0 e47_b1_1 e47_b2_0 e47_b2_1 e47_b2_2 e47_b2_3 e47_b2_4 e47_b2_5 e47_b3_0 e47_b3_1 e47_b3_2 e47_b3_3 e47_b3_4 e47_b3_5 e47_b4_0 e47_b4_1 e47_b5_0 e47_b5_1 e47_b6_0 e47_b6_1 e47_k0 e47_k1 e47_k2 e47_k3 e47_k4 => some (((e47_b3_0, e47_b3_1, e47_b3_2, e47_b3_3, e47_b3_4, e47_b3_5, ()), (0, 0, ()), ())))
        (fun e48_b0_0 e48_b0_1 e48_b0_2 e48_b0_3 e48_b0_4 e48_b0_5 e48_b1_0 e48_b1_1 e48_b2_0 e48_b2_1 e48_b2_2 e48_b2_3 e48_b2_4 e48_b2_5 e48_b3_0 e48_b3_1 e48_b3_2 e48_b3_3 e48_b3_4 e48_b3_5 e48_b4_0 e48_b4_1 e48_b5_0 e48_b5_1 e48_b6_0 e48_b6_1 e48_k0 e48_k1 e48_k4 => some (((e48_b0_0, e48_b0_1, e48_b0_2, e48_b0_3, e48_b0_4, e48_b0_5, ()), (e48_b1_0, e48_b1_1, ()), ())))
        ⟨by intros; rfl, by intros; rfl⟩ (atL (p :: q :: r) 0) (by rw [hl]; simp only [sumL, List.map_cons, List.sum_cons] at hsum; omega) c0 c1 c2 c3 c4 c5 d0 d1 g0 g1 n0 n1 0 0 q0 q1 q2 q3 q4 r (0 + (p.length : Int) + 1 + q.length + 1) (nm, kindR q, vs, 1000000, [], 0, ()) 0 2 n rfl (by rw [hl]; simp) (by simp only [sumL, List.map_cons, List.sum_cons] at hsum; simp at hsum; omega) (by omega) (by simp only [sumL]; omega)
      rw [show (0 : Int) + (p.length : Int) + 1 + q.length + 1 = (p.length : Int) + 1 + (q.length + 1) by omega] at this
      exact this
theorem reffirst_loop (n : Nat) (hn : 200000 ≤ n) (k0 kr : K30) (v5 : List (Int × List UInt8)) (hv : v5.length ≤ 10000) (c0 : List UInt8) (c1 : Int) (c2 : List DecL) (c3 : Int) (c4 : List TagL) (c5 d0 d1 : Int) (z0 : List UInt8) (z1 : Int) (z2 : List DecL) (z3 : Int) (z4 : List TagL) (z5 : Int) (w0 : List UInt8) (w1 w3 : Int) (w4 : List TagL) (w5 g0 : Int) (g1 : List UInt8) (q0 q1 q2 q3 q5 : Nat)
    (hbad : ∀ acc a l, kr c0 c1 c2 c3 c4 c5 d0 d1 z0 z1 z2 z3 z4 z5 w0 w1 acc w3 w4 w5 g0 g1 17 a q0 q1 q2 q3 l q5 = some (badP 17 a)) :
    ∀ (r : List (List UInt8)) (acc : List DecL) (a : Int) (i m : Nat), v5.drop i = atL r a → acc.length + 1 = i → i ≤ v5.length → acc.length ≤ 64 → r.length < m → sumL r ≤ 9000 →
    F.ref11_Parse.L8_ref11_First n k0 kr m v5 (i : Int) c0 c1 c2 c3 c4 c5 d0 d1 z0 z1 z2 z3 z4 z5 w0 w1 acc w3 w4 w5 g0 g1 0 0 q0 q1 q2 q3 acc.length q5 = match readVals r acc a with
      | .ok vs => k0 c0 c1 c2 c3 c4 c5 d0 d1 z0 z1 z2 z3 z4 z5 w0 w1 vs w3 w4 w5 g0 g1 0 0 q0 q1 q2 q3 vs.length q5
      | .error b => some (badP 17 b) := by
  intro r
  induction r with
  | nil =>
    intro acc a i m h1 h2 hi h64 hm hs
    obtain ⟨m, rfl⟩ : ∃ q, m = q + 1 := ⟨m - 1, by omega⟩
    rw [atL] at h1
    rw [F.ref11_Parse.L8_ref11_First]
    unfold F.ref11_Parse.L8_ref11_First.step
    dsimp only
    rw [bif_neg (by have := drop_nil' h1; omega)]
    rfl
  | cons p r ih =>
    intro acc a i m h1 h2 hi h64 hm hs
    obtain ⟨m, rfl⟩ : ∃ q, m = q + 1 := ⟨m - 1, by simp at hm; omega⟩
    rw [atL] at h1
    obtain ⟨l1, gg, t1⟩ := drop_cons h1
    simp only [List.length_cons] at hm
    simp only [sumL, List.map_cons, List.sum_cons] at hs
    rw [F.ref11_Parse.L8_ref11_First]
    unfold F.ref11_Parse.L8_ref11_First.step
    dsimp only
    rw [bif_pos (by omega), idx_nat, gg]
    simp only [some_bind']
    rw [refparse_eq n hn p (by omega), some_bind', parseR_bad, readVals]
    by_cases h0 : (parseR p).2.1.1 = 0
    · rw [decide_eq_true h0, Bool.not_true, cond_false]
      by_cases h6 : acc.length = 64
      · rw [bif_pos (by omega), if_neg (by simp [h6])]
        exact hbad _ _ _
      · rw [bif_neg (by omega), if_pos ⟨h0, h6⟩, refn_growD (by omega), Nat.beq_refl, cond_true, wrap_succ (by omega)]
        exact ih (acc ++ [((parseR p).1.1, (parseR p).1.2.1, (parseR p).1.2.2.1)]) (a + p.length + 1) (i + 1) m t1 (by simp; omega) (by omega) (by simp; omega) (by omega) (by simp only [sumL]; omega)
    · rw [decide_eq_false h0, Bool.not_false, cond_true, if_neg (by simp [h0])]
      exact hbad _ _ _
theorem refParse_eq (n : Nat) (hn : 200000 ≤ n) (s : List UInt8) (hs : s.length ≤ 100000) : F.ref11_Parse n s = some (parseD s) := by
  unfold F.ref11_Parse parseD
  rw [bdec]
  by_cases h : 8192 < s.length
  · rw [if_pos (by omega), if_pos h]; rfl
  · rw [if_neg (by omega), if_neg h]
    have hsum := splitL_sum 124 s
    have hc1 : F.ref11_Cut n s 124 0 = some (atL (splitL 124 s) 0) := cut_ref n hn 124 s 0 (by omega) (by omega)
    rw [hc1, some_bind']
    have hne := splitL_ne 124 s
    generalize splitL 124 s = ps at hsum hne
    cases ps with
    | nil => exact absurd rfl hne
    | cons p r =>
      have hp := sumL_mem (show p ∈ p :: r by simp)
      have hseg := seg_le 58 p
      have hc2 : F.ref11_Cut n p 58 0 = some (atL (splitL 58 p) 0) := cut_ref n hn 58 p 0 (by omega) (by omega)
      rw [show idx (atL (p :: r) 0) 0 = some (0, p) from rfl, some_bind']
      dsimp only
      rw [hc2, some_bind']
      have hi0 : idx (atL (splitL 58 p) 0) 0 = some (0, seg 58 p) := by
        rw [splitL_seg]
        by_cases hin : (58 : UInt8) ∈ p
        · rw [if_pos hin]; rfl
        · rw [if_neg hin, (seg_miss hin).1]; rfl
      rw [hi0, some_bind']
      dsimp only
      rw [name_ref n hn _ (by omega), some_bind', linesR]
      unfold firstR
      cases hnm : nameOK (seg 58 p)
      · rw [Bool.not_false, cond_true, if_pos rfl]
        exact c7_bad n s _ [] 0 [] 0 [] 0 0 0 _ _ _ _ _ _ _ _ _ _ 15 0 (by decide) _ _ _ _ _ _
      · rw [Bool.not_true, cond_false, if_neg (by simp), atL_len, splitL_seg]
        by_cases hin : (58 : UInt8) ∈ p
        · have hsum2 := splitL_sum 58 (restN 58 p)
          have hsn := sumL_len (splitL 58 (restN 58 p))
          have hne2 := splitL_ne 58 (restN 58 p)
          have hpos : 0 < (splitL 58 (restN 58 p)).length := List.length_pos_iff.2 hne2
          have hrn := restN_le 58 p
          have e1 : ((((seg 58 p :: splitL 58 (restN 58 p)).length : Nat) : Int) == 1) = false := by
            rw [beq_eq_false_iff_ne]; simp only [List.length_cons]; omega
          rw [if_pos hin, e1, cond_false, if_neg (by simp [hin])]
          refine (reffirst_loop n hn _ _ (atL (seg 58 p :: splitL 58 (restN 58 p)) 0) (by rw [atL_len]; simp only [List.length_cons]; omega) [] 0 [] 0 [] 0 0 0 [] 0 [] 0 [] 0 (seg 58 p) 0 1000000 [] 0 0 p 0 0 0 0 0 ?_ (splitL 58 (restN 58 p)) [] (0 + ((seg 58 p).length : Int) + 1) 1 n rfl rfl (by rw [atL_len]; simp only [List.length_cons]; omega) (by simp) (by omega) (by omega)).trans ?_
          · intro acc a l
            exact c7_bad n s _ [] 0 [] 0 [] 0 0 0 _ _ _ _ _ _ _ _ _ _ 17 a (by decide) _ _ _ _ _ _
          · rw [show (0 : Int) + ((seg 58 p).length : Int) + 1 = ((seg 58 p).length : Int) + 1 by omega]
            cases readVals (splitL 58 (restN 58 p)) [] (((seg 58 p).length : Int) + 1) with
            | error b => rfl
            | ok vs => exact c7_good n hn s p r (by omega) [] 0 [] 0 [] 0 0 0 (seg 58 p) vs 0 p 0 0 _ _ _ _ _ _
        · rw [if_neg hin, show ((([p] : List (List UInt8)).length : Int) == 1) = true from rfl, cond_true, if_pos hin]
          have hw : IntKind.wrap .i64 (0 + (p.length : Int)) = (p.length : Int) := by rw [Int.zero_add, wrap_in (by omega)]
          rw [hw]
          exact c7_bad n s _ [] 0 [] 0 [] 0 0 0 _ _ _ _ _ _ _ _ _ _ 11 _ (by decide) _ _ _ _ _ _
end Go.AM
set_option linter.unusedVariables false
set_option linter.unusedSimpArgs false
namespace Go.AM
structure InvM (m : MetD) : Prop where
  nm : nameOK m.1 = true
  kd : kindB m.2.1 = true
  vs : (∀ d ∈ m.2.2.1, DecLOK d ∧ decC d = 0) ∧ 1 ≤ m.2.2.1.length ∧ m.2.2.1.length ≤ 64
  rt : rateB m.2.1 m.2.2.2.1 = true
  tg : (∀ t ∈ m.2.2.2.2.1, tagGood t = true) ∧ m.2.2.2.2.1.length ≤ 32 ∧ StrictT m.2.2.2.2.1
  tm : timeB m.2.2.2.2.2.1 = true
theorem InvM.right {m : MetD} (h : InvM m) : RightM m := by
  have hn := nameOK_le h.nm
  refine ⟨⟨by omega, ⟨by have := h.vs.2.2; omega, fun d hd => (h.vs.1 d hd).1⟩, by have := h.tg.2.1; omega, fun t ht => tagS_ok (tagGood_le (h.tg.1 t ht))⟩, ?_⟩
  have hv : valsB m.2.2.1 = true := by
    unfold valsB
    simp only [Bool.and_eq_true, decide_eq_true_eq]
    exact ⟨h.vs.2.1, h.vs.2.2, List.all_eq_true.2 (fun d hd => by simp [(h.vs.1 d hd).2])⟩
  have ht : tagsB m.2.2.2.2.1 = true := by
    unfold tagsB
    simp only [Bool.and_eq_true, decide_eq_true_eq]
    exact ⟨h.tg.2.1, List.all_eq_true.2 h.tg.1⟩
  unfold chkM
  rw [h.nm, h.kd, hv, h.rt, ht, h.tm]
  rfl
theorem RightM.inv {m : MetD} (h : RightM m) (hs : StrictT m.2.2.2.2.1) : InvM m := by
  obtain ⟨c1, c2, c3, c4, c5, c6⟩ := chk_zero h.chk
  have ht := right_tags h
  exact ⟨c1, c2, right_vals h, c4, ⟨fun t htm => (ht.1 t htm).2, ht.2, hs⟩, c6⟩
theorem parse_decl {p : List UInt8} (h : (parseR p).2.1.1 = 0) : DecLOK ((parseR p).1.1, (parseR p).1.2.1, (parseR p).1.2.2.1) ∧ decC ((parseR p).1.1, (parseR p).1.2.1, (parseR p).1.2.2.1) = 0 := by
  obtain ⟨neg, c, e, h1, h2, h3, h4⟩ := parse_ok h
  rw [h1]
  refine ⟨⟨trivial, ⟨by simp, ?_⟩, h3⟩, h4⟩
  have := two64_eq
  simp only
  omega
theorem readVals_ok : ∀ (r : List (List UInt8)) (acc : List DecL) (a : Int) (vs : List DecL), readVals r acc a = .ok vs → (∀ d ∈ acc, DecLOK d ∧ decC d = 0) → acc.length ≤ 64 → (∀ d ∈ vs, DecLOK d ∧ decC d = 0) ∧ vs.length ≤ 64 ∧ vs.length = acc.length + r.length
  | [], acc, a, vs, h, hd, hl => by cases h; exact ⟨hd, hl, by simp⟩
  | p :: r, acc, a, vs, h, hd, hl => by
    rw [readVals] at h
    split at h
    · rename_i hc
      have hr := readVals_ok r _ _ _ h (fun d hd' => by
        rcases List.mem_append.1 hd' with hd' | hd'
        · exact hd d hd'
        · rw [List.mem_singleton.1 hd']; exact parse_decl hc.1) (by simp; omega)
      refine ⟨hr.1, hr.2.1, ?_⟩
      have := hr.2.2
      simp at this ⊢
      omega
    · cases h
theorem readVals_err : ∀ (r : List (List UInt8)) (acc : List DecL) (a b : Int), readVals r acc a = .error b → a ≤ b ∧ b < a + sumL r
  | [], acc, a, b, h => by cases h
  | p :: r, acc, a, b, h => by
    rw [readVals] at h
    simp only [sumL, List.map_cons, List.sum_cons]
    split at h
    · have := readVals_err r _ _ _ h
      simp only [sumL] at this
      omega
    · cases h; omega
theorem kindR_ok {s : List UInt8} (h : kindR s ≠ 0) : kindB (kindR s) = true := by
  revert h
  unfold kindR
  repeat' split
  all_goals first | (intro _; rfl) | (intro h; exact absurd rfl h)
theorem moreR_ok {m : MetD} (h : InvM m) {last : Int} {p : List UInt8} {m' : MetD} {l : Int} (hr : moreR m last p = .ok (m', l)) : InvM m' := by
  cases p with
  | nil => cases hr
  | cons x s =>
    rw [moreR] at hr
    split at hr
    · split at hr
      · cases hr
      · split at hr
        · cases hr
        · rename_i hc
          cases hr
          have h0 : (rateR s).2.1.1 = 0 := Classical.byContradiction fun hh => hc (Or.inl hh)
          obtain ⟨_, r1, r2, _⟩ := rate_ok h0
          refine ⟨h.nm, h.kd, h.vs, ?_, h.tg, h.tm⟩
          unfold rateB
          simp only [Bool.and_eq_true, decide_eq_true_eq]
          refine ⟨r1, r2, ?_⟩
          by_cases h2 : m.2.1 = 2
          · have : (rateR s).1 = 1000000 := Classical.byContradiction fun hh => hc (Or.inr ⟨h2, hh⟩)
            simp [this]
          · simp [h2]
    · split at hr
      · split at hr
        · cases hr
        · split at hr
          · cases hr
          · rename_i l' hT
            split at hr
            · cases hr
            · rename_i h32
              cases hr
              have hg := tagsR_good _ _ _ _ hT (fun t ht => by cases ht)
              refine ⟨h.nm, h.kd, h.vs, h.rt, ⟨fun t ht => hg t ((normT_mem _ _).1 ht), ?_, normT_strict _⟩, h.tm⟩
              have := normT_len l'
              show (normT l').length ≤ 32
              omega
      · split at hr
        · split at hr
          · cases hr
          · split at hr
            · cases hr
            · rename_i hc
              cases hr
              have h0 : (parseNum s 1 1099511627776).2.1.1 = 0 := Classical.byContradiction hc
              obtain ⟨_, r1, r2, r3, r4, _⟩ := parse_back h0
              refine ⟨h.nm, h.kd, h.vs, h.rt, h.tg, ?_⟩
              unfold timeB
              simp only [Bool.and_eq_true, decide_eq_true_eq]
              rw [r1]
              omega
        · cases hr
theorem moreR_err {m : MetD} {last : Int} {p : List UInt8} {e : Int} (hr : moreR m last p = .error e) : e ≠ 0 := by
  cases p with
  | nil => cases hr; decide
  | cons x s =>
    rw [moreR] at hr
    split at hr
    · split at hr
      · cases hr; decide
      · split at hr <;> cases hr; decide
    · split at hr
      · split at hr
        · cases hr; decide
        · split at hr
          · cases hr; decide
          · split at hr <;> cases hr; decide
      · split at hr
        · split at hr
          · cases hr; decide
          · split at hr <;> cases hr; decide
        · cases hr; decide
theorem restR_ok : ∀ (r : List (List UInt8)) (a : Int) (m : MetD) (last : Int), InvM m → (∀ m', restR r a m last = .ok m' → InvM m') ∧ (∀ e b, restR r a m last = .error (e, b) → e ≠ 0 ∧ a ≤ b ∧ b < a + sumL r)
  | [], a, m, last, h => ⟨fun m' hr => by cases hr; exact h, fun e b hr => by cases hr⟩
  | p :: r, a, m, last, h => by
    rw [restR]
    simp only [sumL, List.map_cons, List.sum_cons]
    cases hm : moreR m last p with
    | error e => exact ⟨fun m' hr => (by cases hr), fun e b hr => by cases hr; exact ⟨moreR_err hm, by omega, by omega⟩⟩
    | ok x =>
      obtain ⟨m1, l1⟩ := x
      obtain ⟨h1, h2⟩ := restR_ok r (a + p.length + 1) m1 l1 (moreR_ok h hm)
      refine ⟨h1, fun e b hr => ?_⟩
      have := h2 e b hr
      simp only [sumL] at this
      omega
theorem firstR_ok {s : List UInt8} {nm : List UInt8} {vs : List DecL} (h : firstR s = .ok (nm, vs)) : nameOK nm = true ∧ (∀ d ∈ vs, DecLOK d ∧ decC d = 0) ∧ 1 ≤ vs.length ∧ vs.length ≤ 64 := by
  unfold firstR at h
  split at h
  · cases h
  · rename_i hnm
    split at h
    · cases h
    · split at h
      · rename_i vs' hv
        cases h
        obtain ⟨h1, h2, h3⟩ := readVals_ok _ _ _ _ hv (fun d hd => by cases hd) (by simp)
        have := List.length_pos_iff.2 (splitL_ne 58 (restN 58 s))
        simp only [List.length_nil, Nat.zero_add] at h3
        exact ⟨by simpa using hnm, h1, by omega, h2⟩
      · cases h
theorem firstR_err {s : List UInt8} {e a : Int} (h : firstR s = .error (e, a)) : e ≠ 0 ∧ 0 ≤ a ∧ a ≤ s.length := by
  unfold firstR at h
  split at h
  · cases h; exact ⟨by decide, by omega, by omega⟩
  · split at h
    · cases h; exact ⟨by decide, by omega, by omega⟩
    · rename_i hin
      split at h
      · cases h
      · rename_i b hv
        cases h
        have h1 := readVals_err _ _ _ _ hv
        have h2 := splitL_sum 58 (restN 58 s)
        have hin' : (58 : UInt8) ∈ s := Classical.byContradiction hin
        have h3 : (restN 58 s).length = s.length - ((seg 58 s).length + 1) := by unfold restN; rw [if_pos hin', List.length_drop]
        have h4 := seg_lt hin'
        exact ⟨by decide, by omega, by omega⟩
theorem linesR_ok (s : List UInt8) (ps : List (List UInt8)) (hsum : sumL ps = s.length + 1) : (∀ m, linesR s ps = .ok m → InvM m) ∧ (∀ e a, linesR s ps = .error (e, a) → e ≠ 0 ∧ 0 ≤ a ∧ a ≤ s.length) := by
  cases ps with
  | nil => exact ⟨fun m h => (by cases h), fun e a h => by cases h; exact ⟨by decide, by omega, by omega⟩⟩
  | cons p r =>
    simp only [sumL, List.map_cons, List.sum_cons] at hsum
    rw [linesR]
    cases hf : firstR p with
    | error x =>
      obtain ⟨e, a⟩ := x
      refine ⟨fun m h => (by cases h), fun e a h => ?_⟩
      cases h
      have := firstR_err hf
      exact ⟨this.1, this.2.1, by omega⟩
    | ok x =>
      obtain ⟨nm, vs⟩ := x
      obtain ⟨h1, h2, h3, h4⟩ := firstR_ok hf
      dsimp only
      cases r with
      | nil =>
        rw [secondR]
        exact ⟨fun m h => (by cases h), fun e a h => by cases h; exact ⟨by decide, by omega, by omega⟩⟩
      | cons q r =>
        simp only [List.map_cons, List.sum_cons] at hsum
        rw [secondR]
        by_cases h0 : kindR q = 0
        · rw [if_pos h0]
          exact ⟨fun m h => (by cases h), fun e a h => by cases h; exact ⟨by decide, by omega, by omega⟩⟩
        · rw [if_neg h0]
          have inv : InvM (nm, kindR q, vs, 1000000, [], 0, ()) := ⟨h1, kindR_ok h0, ⟨h2, h3, h4⟩, by
            unfold rateB; simp, ⟨fun t ht => (by cases ht), by simp, List.Pairwise.nil⟩, (show timeB 0 = true by decide)⟩
          obtain ⟨g1, g2⟩ := restR_ok r ((p.length : Int) + 1 + (q.length + 1)) _ 0 inv
          refine ⟨g1, fun e a h => ?_⟩
          have := g2 e a h
          simp only [sumL] at this
          omega
theorem parseD_cases (s : List UInt8) : ((parseD s).2.1 = (0, 0, ()) ∧ InvM (parseD s).1) ∨ (∃ e a, e ≠ 0 ∧ 0 ≤ a ∧ a ≤ (s.length : Int) ∧ parseD s = badP e a) := by
  unfold parseD
  split
  · exact Or.inr ⟨12, 0, by decide, by omega, by omega, rfl⟩
  · obtain ⟨h1, h2⟩ := linesR_ok s (splitL 124 s) (splitL_sum 124 s)
    cases hl : linesR s (splitL 124 s) with
    | ok m => exact Or.inl ⟨rfl, h1 m hl⟩
    | error x =>
      obtain ⟨e, a⟩ := x
      obtain ⟨g1, g2, g3⟩ := h2 e a hl
      exact Or.inr ⟨e, a, g1, g2, g3, rfl⟩
theorem parseD_len (s : List UInt8) : (parseD s).1.2.2.1.length ≤ 1000 ∧ (parseD s).1.2.2.2.2.1.length ≤ 1000 := by
  rcases parseD_cases s with ⟨_, h⟩ | ⟨e, a, _, _, _, h⟩
  · have h1 := h.vs.2.2
    have h2 := h.tg.2.1
    exact ⟨by omega, by omega⟩
  · rw [h]; exact ⟨(show (0 : Nat) ≤ 1000 by omega), (show (0 : Nat) ≤ 1000 by omega)⟩
theorem dog_parses (n : Nat) (hn : 200000 ≤ n) (s : List UInt8) : F.law11_DogParses n s = some true := by
  unfold F.law11_DogParses
  rw [awake11 n hn]
  have body : s.length ≤ 100000 → ((F.dog_Parse n s).bind fun y3 =>
        (F.ref11_Parse n s).bind fun y4 =>
          bif (y3.2.1.1 == y4.2.1.1) && (y3.2.1.2.1 == y4.2.1.2.1) then
            (F.ref07_Equal n (y3.1.1, y3.1.2.1, y3.1.2.2.1, y3.1.2.2.2.1, y3.1.2.2.2.2.1, y3.1.2.2.2.2.2.1, ()) (y4.1.1, y4.1.2.1, y4.1.2.2.1, y4.1.2.2.2.1, y4.1.2.2.2.2.1, y4.1.2.2.2.2.2.1, ())).bind fun y5 =>
              bif y5 then
                (some true : Option Bool).bind fun y6 =>
                  some (y6)
              else
                some (false)
          else
            some (false)) = some true := by
    intro hs
    rw [parse_eq n hn s (by omega), refParse_eq n hn s hs]
    have hl := parseD_len s
    have he : F.ref07_Equal n ((parseD s).1.1, (parseD s).1.2.1, (parseD s).1.2.2.1, (parseD s).1.2.2.2.1, (parseD s).1.2.2.2.2.1, (parseD s).1.2.2.2.2.2.1, ()) ((parseD s).1.1, (parseD s).1.2.1, (parseD s).1.2.2.1, (parseD s).1.2.2.2.1, (parseD s).1.2.2.2.2.1, (parseD s).1.2.2.2.2.2.1, ()) = some true := refequal_refl n hn (parseD s).1 (by omega) (by omega)
    simp only [some_bind', beq_self_eq_true, Bool.and_self, cond_true, he]
  by_cases h1 : 3000 < s.length
  · rw [bif_pos (by omega)]
    by_cases h2 : s.length < 8180
    · rw [bif_pos (by omega)]; rfl
    · rw [bif_neg (by omega)]
      by_cases h3 : 8200 < s.length
      · rw [bif_pos (by omega)]; rfl
      · rw [bif_neg (by omega)]
        exact body (by omega)
  · rw [bif_neg (by omega), bif_neg (by omega)]
    exact body (by omega)
end Go.AM
namespace Go.Proofs.YtgkhaoohkeblfaaGreatDoor.dogParses
open Go.ChangeShapes Go.WideShapes Go.ChangeAt Go.RowKit Go.AM
theorem own : ownKnob Tryz.prog.godebug = none := by kernel_rfl
theorem goes : LawGoes Tryz.prog SI 5 [.str] := fun x hx w vals hI hr =>
  ok5 _ (x.1, ()) true (dog_parses 200000 (by omega) x.1) w (AllD w) vals (WOf.of hI) hr (fun b o h => h)
noncomputable def laidWorld (os : Os) : World := laidOf Tryz.prog os [layTab 4 Rows.laid_math_bits_deBruijn32tab, layTab 5 Rows.laid_math_bits_deBruijn64tab, layTab 0 Rows.laid_internal_strconv_uint64pow10, layTab 3 Rows.laid_unicode_utf8_acceptRanges, layErr 7 232 234 Rows.laid_strconv_ErrRange, layErr 6 232 234 Rows.laid_strconv_ErrSyntax, layTab 2 Rows.laid_unicode_utf8_first]
theorem laid_met (os : Os) (args : Array Value) : laidMet Tryz.prog Rows.dogParsesRow.laid ((laidWorld os).forCall (fun _ _ => 0) ⟨#[], args, []⟩).memory :=
  (LaidIn.of_run [4, 5, 0, 3, 7, 6, 2, (World.holding Tryz.prog os ⟨#[], #[], []⟩).heap.size, (World.holding Tryz.prog os ⟨#[], #[], []⟩).heap.size + 1] 8 (by kernel_rfl) (by kernel_rfl) (by kernel_rfl) (by kernel_rfl)).met
theorem witness_row (os : Os) {H : Type} (enc : TypeId × Value → H) :
    (OpenSpec.ofChange Rows.dogParsesSpec).preRow enc Tryz.prog Tryz.f5 Rows.dogParsesRow.domain false Rows.dogParsesRow.laid ((laidWorld os).forCall (fun _ _ => 0) ⟨#[], #[.string .empty], []⟩).memory #[.string .empty] := by
  have hw : (DataW.whole enc Tryz.prog ((laidWorld os).forCall (fun _ _ => 0) ⟨#[], #[.string .empty], []⟩).memory Tryz.f5.params.toList Rows.dogParsesSpec.vars false (#[.string .empty] : Array Value).toList 8).map (fun x => (x.1, x.2.1)) =
      some ([.lit (.string [])], []) := by kernel_rfl
  obtain ⟨⟨x1, x2, x3⟩, hx, hx1⟩ := Option.map_eq_some_iff.1 hw
  simp only [Prod.mk.injEq] at hx1
  obtain ⟨rfl, rfl⟩ := hx1
  exact OpenSpec.preRow_of_cond 8 hx (by kernel_rfl) (fun k hk => by cases hk) (by kernel_rfl) (laid_met os _)
set_option maxRecDepth 100000 in
theorem lifted (os : Os) (started : os.Started) (H : Type) (enc : TypeId × Value → H) (F : Stop.Interp) :
    ReturnsInHanded {} Tryz.checked os 5 .any ((OpenSpec.ofChange Rows.dogParsesSpec).preRow enc Tryz.prog Tryz.f5 Rows.dogParsesRow.domain false Rows.dogParsesRow.laid) (((OpenSpec.ofChange Rows.dogParsesSpec).at F).post enc Tryz.prog Tryz.f5 false true false false) := by
  refine returnsInHanded_of_row (C := Tryz.checked) (s := OpenSpec.ofChange Rows.dogParsesSpec) own started (by kernel_rfl) Tryz.func5
    (witness_row_atRef (enc := enc) (C := Tryz.checked) false (laidWorld os) #[.string .empty] rfl (by kernel_rfl) (by kernel_rfl) (by kernel_rfl) (witness_row os enc)) ?_
  intro W base args ds gs before hval hW _ _ hw hL hO _
  exact law_calls (s := Rows.dogParsesSpec) (n := 8) (by kernel_rfl) Tryz.func5 (by kernel_rfl) (by decide) (by kernel_rfl) rfl Tryz.underlying4 rfl (fun ds h => by match ds, h with | [_], _ => rfl) goes hval hW hw ⟨hL, hO⟩
theorem said : Rows.DogParsesSaid :=
  OpenClaim.holds_of_cond 5 Tryz.f5 rfl rfl rfl rfl rfl rfl rfl ⟨rfl, rfl, rfl, rfl, rfl⟩ rfl rfl rfl rfl rfl (by kernel_rfl) Tryz.func5 (by kernel_rfl)
    (of_decide_eq_true (by kernel_rfl)) (by unfold Func.isWrapper; first | (rw [if_pos (by decide +kernel)]; kernel_rfl) | (rw [if_neg (by decide +kernel)]; exact ⟨rfl, rfl⟩))
    (fun os started H enc _ F => by rw [OpenClaim.pre_eq_preRow]; exact lifted os started H enc F)
theorem plain (f : FuncId) (fn : Func) (hf : Tryz.pinned.checked.prog.funcNamed "forebay/forebaylaw11.DogParses" = some f) (hfn : Tryz.pinned.checked.prog.funcs[f]? = some fn) :
    true = Tryz.pinned.checked.prog.looks [] ∧ ∀ (j : Nat) t, fn.params[j]? = some t → Tryz.pinned.checked.prog.wantsStandIn t = false := by
  obtain rfl : f = 5 := Option.some.inj ((show Tryz.prog.funcNamed "forebay/forebaylaw11.DogParses" = some 5 by kernel_rfl).symm.trans hf) |>.symm
  obtain rfl : fn = Tryz.f5 := (Option.some.inj (Tryz.func5.symm.trans hfn)).symm
  refine ⟨by kernel_rfl, fun j t ht => ?_⟩
  have hm : t ∈ ([9] : List TypeId) := by
    rw [Tryz.params5] at ht
    have := Array.mem_of_getElem? ht
    simpa using this
  have all : ∀ x ∈ ([9] : List TypeId), Tryz.prog.wantsStandIn x = false := fun x hx => by
    have h : ([9] : List TypeId).all (fun x => Tryz.prog.wantsStandIn x == false) = true := by kernel_rfl
    simpa using List.all_eq_true.1 h x hx
  exact all t hm
theorem proved : Rows.DogParsesCardSaid :=
  Claim7.holds_tied_plain_at .later [] _ _ _ _ said (fun _ h => by cases h) (by kernel_rfl) (fun _ h => by cases h) dogParses_row_tie rfl ⟨rfl, rfl⟩ (by kernel_rfl) rfl plain (by kernel_rfl)
end Go.Proofs.YtgkhaoohkeblfaaGreatDoor.dogParses
