/- DogPieces: a rate of 1 that is told, tags in another order, and one of them once more, turn nothing of what is parsed, and pieces in another order or twice are refused at the piece, for every metric that is not too great. -/
import Derived.Test.YtgkhaoohkeblfaaGreatDoorQ5
import Derived.KernelRfl
import Derived.Test.YtgkhaoohkeblfaaGreatDoorCards
import Derived.Test.YtgkhaoohkeblfaaGreatDoorTie
import Derived.OpenShut
set_option linter.unusedVariables false
set_option linter.unusedSimpArgs false
namespace Go.AM
def pad6 (k : Nat) : List UInt8 := (Lib.decDigits (1000000 + k)).drop 1
theorem pad6_all {k : Nat} (h : k < 1000000) : Lib.decDigits (1000000 + k) = 49 :: pad6 k ∧ (pad6 k).length = 6 ∧ Digs (pad6 k) ∧ val (pad6 k) = k := by
  have hN : (Lib.decDigits (1000000 + k)).length = 7 := by rw [dd_length]; exact Lib.nDigits_unique 6 _ (by omega) (by omega)
  have hd := dd_digs (1000000 + k)
  have hv := dd_val (1000000 + k)
  unfold pad6
  cases e : Lib.decDigits (1000000 + k) with
  | nil => rw [e] at hN; simp at hN
  | cons b r =>
    rw [e] at hN hd hv
    have hr : r.length = 6 := by simpa using hN
    obtain ⟨d1, d2⟩ := digs_cons.1 hd
    have := val_lt d2
    rw [hr] at this
    rw [val_cons, hr] at hv
    have hb : dv b = 1 := by omega
    have : b = 49 := dv_inj d1 rfl hb
    subst this
    refine ⟨rfl, hr, d2, ?_⟩
    show val r = k
    omega
def rateText (k : Int) : List UInt8 × Int × Unit :=
  if k < 1 ∨ k > 1000000 then ([], 10, ()) else if k = 1000000 then ([49], 0, ()) else ([48, 46] ++ trz (pad6 k.toNat), 0, ())
theorem rateText_num (n : Nat) (k : Int) : F.num_RateText n k = some (rateText k) := by
  unfold F.num_RateText rateText
  by_cases h1 : k < 1
  · rw [bif_pos h1, if_pos (Or.inl h1)]
  rw [bif_neg h1]
  by_cases h2 : k > 1000000
  · rw [bif_pos h2, if_pos (Or.inr h2)]
  rw [bif_neg h2, if_neg (by omega)]
  by_cases h3 : k = 1000000
  · subst h3; rfl
  have e3 : (k == 1000000) = false := by simpa using h3
  rw [e3, cond_false, if_neg h3, wrap_in (by omega)]
  obtain ⟨p1, p2, p3, p4⟩ := pad6_all (k := k.toNat) (by omega)
  have hi : O.itoa n (1000000 + k) = some (49 :: pad6 k.toNat) := by
    unfold O.itoa
    have : (decide (-9223372036854775808 ≤ 1000000 + k) && decide (1000000 + k ≤ 9223372036854775807)) = true := by simp; omega
    rw [this, cond_true]
    unfold Lib.itoa
    rw [if_neg (by omega), show (1000000 + k).toNat = 1000000 + k.toNat from by omega, p1]
  rw [hi, some_bind']
  have hsub : sub (49 :: pad6 k.toNat) 1 (((49 :: pad6 k.toNat).length : Nat) : Int) = some (pad6 k.toNat) := by
    have := sub_nat (49 :: pad6 k.toNat) 1 (49 :: pad6 k.toNat).length (by simp) (by simp)
    rw [List.take_length] at this
    exact this
  rw [hsub, some_bind']
  unfold O.trimR
  have hb : (Nat.blt (48 : UInt8).toNat 128 && Nat.ble (pad6 k.toNat).length big47) = true := by rw [p2]; rfl
  simp only [hb, cond_true, some_bind', trimR_trz]
  rw [bif_pos]
  have := trz_le (pad6 k.toNat)
  rw [strMax_eq]
  omega
def rateR (s : List UInt8) : NumR :=
  if s = [49] then numR 1000000 0 0 else if s = [] then numR 0 13 0 else if s.head? ≠ some 48 then numR 0 11 0 else if (s.drop 1).head? ≠ some 46 then numR 0 11 1
  else if s.drop 2 = [] then numR 0 13 2 else if 0 ≤ badK isDig 0 (s.drop 2) then numR 0 14 (2 + badK isDig 0 (s.drop 2)) else if 6 < (s.drop 2).length then numR 0 12 8
  else if val (s.drop 2) = 0 then numR 0 10 0 else numR ((val (s.drop 2) * 10 ^ (6 - (s.drop 2).length) : Nat) : Int) 0 0
theorem rate_digs_loop (n : Nat) (X : Type) (k3 : Int → Int → Int → Int → Int → Int → Int → Option X) (d : List UInt8) (hd : Digs d) (hl : d.length ≤ 6) (a b c e f g : Int) : ∀ (j i m : Nat), i + j = 6 → j < m →
    F.num_Rate.L23 n k3 m d (i : Int) a b c e f g (val ((d ++ List.replicate (6 - d.length) 48).take i) : Int) = k3 a b c e f g ((val d * 10 ^ (6 - d.length) : Nat) : Int) := by
  have hD : Digs (d ++ List.replicate (6 - d.length) 48) := digs_append.2 ⟨hd, digs_rep _⟩
  have hL : (d ++ List.replicate (6 - d.length) (48 : UInt8)).length = 6 := by simp; omega
  intro j
  induction j with
  | zero =>
    intro i m hi hm
    cases m with
    | zero => omega
    | succ m =>
      show F.num_Rate.L23.step n _ k3 d _ _ _ _ _ _ _ _ = _
      unfold F.num_Rate.L23.step
      rw [bif_neg (by omega), List.take_of_length_le (by omega), val_zeros_right]
  | succ j ih =>
    intro i m hi hm
    cases m with
    | zero => omega
    | succ m =>
      show F.num_Rate.L23.step n (F.num_Rate.L23 n k3 m) k3 d _ _ _ _ _ _ _ _ = _
      unfold F.num_Rate.L23.step
      rw [bif_pos (by omega), wrap_succ (by omega)]
      have hb : val ((d ++ List.replicate (6 - d.length) 48).take i) < 10 ^ i := by
        have := val_lt (digs_take i hD)
        rw [List.length_take, hL, Nat.min_eq_left (by omega)] at this
        exact this
      have hp : (10 : Nat) ^ i ≤ 10 ^ 6 := Nat.pow_le_pow_right (by omega) (by omega)
      have hstep : ∀ x, (d ++ List.replicate (6 - d.length) (48 : UInt8))[i]? = some x → val ((d ++ List.replicate (6 - d.length) 48).take (i + 1)) = val ((d ++ List.replicate (6 - d.length) 48).take i) * 10 + dv x := by
        intro x hx
        rw [List.take_add_one, hx]
        exact val_snoc _ _
      by_cases hlt : i < d.length
      · have hx : (d ++ List.replicate (6 - d.length) (48 : UInt8))[i]? = d[i]? := List.getElem?_append_left hlt
        rw [bif_pos (by omega), idx_lt hlt, some_bind']
        have hg : d[i]? = some d[i] := by simp [hlt]
        have hdx := List.all_eq_true.1 hd d[i] (List.getElem_mem hlt)
        have hdi := isDig_iff.1 hdx
        have hv := hstep d[i] (hx.trans hg)
        have hdl := dv_lt hdx
        have h8 : IntKind.wrap .i64 (IntKind.wrap .u8 ((d[i].toNat : Int) - 48)) = (dv d[i] : Int) := by
          rw [IntWalk.u8_in _ (by omega), wrap_in (by omega)]; unfold dv; omega
        rw [h8, wrap_in (x := 10 * _) (by omega), wrap_in (by omega), show 10 * (val ((d ++ List.replicate (6 - d.length) (48 : UInt8)).take i) : Int) + (dv d[i] : Int) = (val ((d ++ List.replicate (6 - d.length) (48 : UInt8)).take (i + 1)) : Int) from by omega]
        exact ih (i + 1) m (by omega) (by omega)
      · have hx : (d ++ List.replicate (6 - d.length) (48 : UInt8))[i]? = some 48 := by
          rw [List.getElem?_append_right (by omega), List.getElem?_replicate, if_pos (by omega)]
        have hv := hstep 48 hx
        rw [dv_48] at hv
        rw [bif_neg (by omega), wrap_in (x := 10 * _) (by omega), wrap_in (by omega), show 10 * (val ((d ++ List.replicate (6 - d.length) (48 : UInt8)).take i) : Int) + 0 = (val ((d ++ List.replicate (6 - d.length) (48 : UInt8)).take (i + 1)) : Int) from by omega]
        exact ih (i + 1) m (by omega) (by omega)
theorem rate_head_loop (n : Nat) (X : Type) (k0 : List UInt8 → Int → Int → Int → Int → Option X) (s : List UInt8) (m : Nat) (hm : 3 ≤ m) :
    F.num_Rate.L5 n k0 m s (48, 46, ()) 0 0 0 0 0 = if s = [] then k0 s 0 0 13 0 else if s.head? ≠ some 48 then k0 s 0 0 11 0 else if (s.drop 1).head? ≠ some 46 then k0 s 0 0 11 1 else k0 s 0 0 0 0 := by
  obtain ⟨m, rfl⟩ : ∃ q, m = q + 3 := ⟨m - 3, by omega⟩
  show F.num_Rate.L5.step n (F.num_Rate.L5 n k0 (m + 2)) k0 s _ _ _ _ _ _ = _
  have hb : ∀ (b c : UInt8), ((b.toNat : Int) == (c.toNat : Int)) = decide (b = c) := by
    intro b c
    by_cases h : b = c
    · simp [h]
    · have : ¬ (b.toNat : Int) = (c.toNat : Int) := fun hh => h (u8_ext (by omega))
      simp [h, this]
  cases s with
  | nil => rfl
  | cons b r =>
    have e48 : ((b.toNat : Int) == 48) = decide (b = 48) := hb b 48
    unfold F.num_Rate.L5.step
    have a1 : decide ((0 : Int) < 2) = true := rfl
    have a2 : ((0 : Int) == 0) = true := rfl
    have a3 : ((0 : Int) == (((b :: r).length : Nat) : Int)) = false := by
      have : ¬ (0 : Int) = (((b :: r).length : Nat) : Int) := by simp; omega
      simpa using this
    have a4 : decide ((0 : Int) ≥ (((b :: r).length : Nat) : Int)) = false := by
      have : ¬ (0 : Int) ≥ (((b :: r).length : Nat) : Int) := by simp only [List.length_cons]; omega
      exact decide_eq_false this
    have a5 : idx (b :: r) (0 : Int) = some b := rfl
    rw [a1, a2, a3, a4, a5, cond_true, cond_true, cond_false, cond_false, some_bind', e48]
    by_cases h1 : b = 48
    · subst h1
      simp only [decide_true, Bool.not_true, cond_false]
      show F.num_Rate.L5.step n (F.num_Rate.L5 n k0 (m + 1)) k0 _ _ 1 _ _ _ _ = _
      unfold F.num_Rate.L5.step
      have c1 : decide ((1 : Int) < 2) = true := rfl
      have c2 : ((1 : Int) == 0) = false := rfl
      have c3 : ((1 : Int) == 1) = true := rfl
      rw [c1, c2, c3, cond_true, cond_false, cond_true]
      cases r with
      | nil => rfl
      | cons c r =>
        have e46 : ((c.toNat : Int) == 46) = decide (c = 46) := hb c 46
        have b3 : ((1 : Int) == (((48 :: c :: r).length : Nat) : Int)) = false := by
          have : ¬ (1 : Int) = (((48 :: c :: r).length : Nat) : Int) := by simp; omega
          simpa using this
        have b4 : decide ((1 : Int) ≥ (((48 :: c :: r).length : Nat) : Int)) = false := by
          have : ¬ (1 : Int) ≥ (((48 :: c :: r).length : Nat) : Int) := by simp; omega
          simpa using this
        have b5 : idx (48 :: c :: r) (1 : Int) = some c := rfl
        rw [b3, b4, b5, cond_false, cond_false, some_bind', e46]
        by_cases h2 : c = 46
        · subst h2
          rfl
        · simp [h2]
    · simp [h1]
theorem rate_num (n : Nat) (hn : 100 ≤ n) (s : List UInt8) (hs : s.length ≤ 1000000) (hl : s.length < n) : F.num_Rate n s = some (rateR s) := by
  unfold F.num_Rate rateR
  by_cases h1 : s = [49]
  · rw [if_pos h1, h1]; rfl
  have e1 : (s == [49]) = false := by simpa using h1
  rw [e1, cond_false, if_neg h1, rate_head_loop n _ _ s n (by omega)]
  by_cases h2 : s = []
  · rw [if_pos h2, if_pos h2]; rfl
  rw [if_neg h2, if_neg h2]
  by_cases h3 : s.head? ≠ some 48
  · rw [if_pos h3, if_pos h3]; rfl
  rw [if_neg h3, if_neg h3]
  by_cases h4 : (s.drop 1).head? ≠ some 46
  · rw [if_pos h4, if_pos h4]; rfl
  rw [if_neg h4, if_neg h4]
  have e2 : (!((0 : Int) == 0 && (0 : Int) == 0)) = false := rfl
  simp only [e2, cond_false]
  have hlen : 2 ≤ s.length := by
    cases s with
    | nil => exact absurd rfl h2
    | cons b r => cases r with
      | nil => simp at h4
      | cons => simp
  have hsub : sub s 2 (s.length : Int) = some (s.drop 2) := by
    have := sub_nat s 2 s.length hlen (Nat.le_refl _)
    rw [List.take_length] at this
    exact this
  have hdl : (s.drop 2).length + 2 = s.length := by simp; omega
  rw [hsub, some_bind', text_cls n 4 _ _ _ (by omega) (by omega), some_bind', textF4 _ (by omega)]
  generalize s.drop 2 = d at hdl ⊢
  by_cases h5 : d = []
  · rw [if_pos h5, if_pos h5]; rfl
  rw [if_neg h5, if_neg h5]
  by_cases h6 : 0 ≤ badK isDig 0 d
  · rw [if_pos h6, if_pos h6]
    have := badK_hi isDig 0 d
    have e : (!((14 : Int) == 0 && badK isDig 0 d == 0)) = true := rfl
    simp only [e, cond_true, fault_eq, some_bind']
    rw [wrap_in (by omega)]
    rfl
  rw [if_neg h6, if_neg h6]
  simp only [e2, cond_false]
  have hd := digs_of_bad h6
  by_cases h7 : 6 < d.length
  · rw [bif_pos (by omega), if_pos h7]; rfl
  rw [bif_neg (by omega), if_neg h7]
  have := rate_digs_loop n _ (fun e12_b0_0 e12_b0_1 e12_b1_0 e12_b1_1 e12_b2_0 e12_b2_1 e12_b3_0 =>
                    bif e12_b3_0 == (0 : Int) then
                      (F.num_fault n (10 : Int) (0 : Int)).bind fun y13 =>
                        some ((y13.1, (y13.2.1.1, y13.2.1.2.1, ()), ()))
                    else
                      some ((e12_b3_0, ((0 : Int), (0 : Int), ()), ()))) d hd (by omega) 0 0 0 0 0 0 6 0 n (by omega) (by omega)
  refine this.trans ?_
  have hpp : 0 < 10 ^ (6 - d.length) := Nat.pow_pos (by omega)
  by_cases h8 : val d = 0
  · rw [if_pos h8, h8, Nat.zero_mul]; rfl
  · rw [if_neg h8]
    have : ¬ ((val d * 10 ^ (6 - d.length) : Nat) : Int) = 0 := by
      have := Nat.mul_pos (Nat.pos_of_ne_zero h8) hpp
      omega
    have e : (((val d * 10 ^ (6 - d.length) : Nat) : Int) == 0) = false := by simpa using this
    rw [e, cond_false]
    rfl
end Go.AM
set_option linter.unusedVariables false
set_option linter.unusedSimpArgs false
namespace Go.AM
theorem rate_form (d : List UInt8) : rateR (48 :: 46 :: d) = if d = [] then numR 0 13 2 else if 0 ≤ badK isDig 0 d then numR 0 14 (2 + badK isDig 0 d) else if 6 < d.length then numR 0 12 8
    else if val d = 0 then numR 0 10 0 else numR ((val d * 10 ^ (6 - d.length) : Nat) : Int) 0 0 := by
  unfold rateR
  rw [if_neg (by simp), if_neg (by simp), if_neg (by simp), if_neg (by simp)]
  rfl
theorem rate_read (k : Int) (hk : 1 ≤ k ∧ k < 1000000) (z : Nat) : rateR (48 :: 46 :: (trz (pad6 k.toNat) ++ List.replicate z 48)) = if (trz (pad6 k.toNat)).length + z ≤ 6 then numR k 0 0 else numR 0 12 8 := by
  obtain ⟨p1, p2, p3, p4⟩ := pad6_all (k := k.toNat) (by omega)
  have hd : Digs (trz (pad6 k.toNat) ++ List.replicate z 48) := digs_append.2 ⟨trz_digs p3, digs_rep _⟩
  have hne : trz (pad6 k.toNat) ≠ [] := fun hh => by have := (trz_nil p3).1 hh; omega
  have hlen : (trz (pad6 k.toNat) ++ List.replicate z (48 : UInt8)).length = (trz (pad6 k.toNat)).length + z := by simp
  rw [rate_form, if_neg (by simp [hne]), if_neg (by rw [bad_of_digs hd]; omega), hlen]
  have hpad := trz_pad (pad6 k.toNat)
  have hv : val (trz (pad6 k.toNat)) * 10 ^ (6 - (trz (pad6 k.toNat)).length) = k.toNat := by
    rw [p2] at hpad
    have := congrArg val hpad
    rw [val_zeros_right, p4] at this
    exact this.symm
  have hv0 : ¬ val (trz (pad6 k.toNat)) = 0 := fun h => by rw [h] at hv; omega
  have hle := trz_le (pad6 k.toNat)
  by_cases h : (trz (pad6 k.toNat)).length + z ≤ 6
  · rw [if_neg (by omega), if_pos h, val_zeros_right]
    have hp : 0 < 10 ^ z := Nat.pow_pos (by omega)
    rw [if_neg (by have := Nat.mul_pos (Nat.pos_of_ne_zero hv0) hp; omega), Nat.mul_assoc, ← Nat.pow_add, show z + (6 - ((trz (pad6 k.toNat)).length + z)) = 6 - (trz (pad6 k.toNat)).length from by omega, hv]
    rw [show ((k.toNat : Nat) : Int) = k from by omega]
  · rw [if_pos (by omega), if_neg h]
theorem rateText_form {k : Int} (hk : 1 ≤ k ∧ k < 1000000) : rateText k = (48 :: 46 :: trz (pad6 k.toNat), 0, ()) := by
  unfold rateText
  rw [if_neg (by omega), if_neg (by omega)]; rfl
theorem rate_ok {s : List UInt8} (h : (rateR s).2.1.1 = 0) : (rateR s).2.1.2.1 = 0 ∧ 1 ≤ (rateR s).1 ∧ (rateR s).1 ≤ 1000000 ∧ (rateText (rateR s).1).2.1 = 0 ∧
    ∃ a j, s = a ++ List.replicate j 48 ∧ (rateText (rateR s).1).1 = a ∧ a ≠ [] ∧ (∀ x, a.getLast? = some x → x ≠ 48) := by
  by_cases h1 : s = [49]
  · subst h1
    exact ⟨rfl, by decide, by decide, rfl, [49], 0, rfl, rfl, by simp, by simp⟩
  have e := h
  unfold rateR at e
  rw [if_neg h1] at e
  by_cases h2 : s = []
  · rw [if_pos h2] at e; cases e
  rw [if_neg h2] at e
  by_cases h3 : s.head? ≠ some 48
  · rw [if_pos h3] at e; cases e
  rw [if_neg h3] at e
  by_cases h4 : (s.drop 1).head? ≠ some 46
  · rw [if_pos h4] at e; cases e
  clear e
  obtain ⟨d, rfl⟩ : ∃ d, s = 48 :: 46 :: d := by
    cases s with
    | nil => exact absurd rfl h2
    | cons b r => cases r with
      | nil => simp at h4
      | cons c r =>
        simp at h3 h4
        exact ⟨r, by rw [h3, h4]⟩
  rw [rate_form] at h ⊢
  by_cases g1 : d = []
  · rw [if_pos g1] at h; cases h
  rw [if_neg g1] at h ⊢
  by_cases g2 : 0 ≤ badK isDig 0 d
  · rw [if_pos g2] at h; cases h
  rw [if_neg g2] at h ⊢
  by_cases g3 : 6 < d.length
  · rw [if_pos g3] at h; cases h
  rw [if_neg g3] at h ⊢
  by_cases g4 : val d = 0
  · rw [if_pos g4] at h; cases h
  rw [if_neg g4]
  have hd := digs_of_bad g2
  have hp : 0 < 10 ^ (6 - d.length) := Nat.pow_pos (by omega)
  have hpos := Nat.mul_pos (Nat.pos_of_ne_zero g4) hp
  have hub : val d * 10 ^ (6 - d.length) < 1000000 := by
    have h5 := val_lt (digs_append.2 ⟨hd, digs_rep (6 - d.length)⟩)
    rw [val_zeros_right, List.length_append, List.length_replicate, show d.length + (6 - d.length) = 6 from by omega] at h5
    exact h5
  have hk : 1 ≤ ((val d * 10 ^ (6 - d.length) : Nat) : Int) ∧ ((val d * 10 ^ (6 - d.length) : Nat) : Int) < 1000000 := by omega
  have hf := rateText_form hk
  obtain ⟨p1, p2, p3, p4⟩ := pad6_all hub
  have hpd : pad6 (val d * 10 ^ (6 - d.length)) = d ++ List.replicate (6 - d.length) 48 :=
    val_inj p3 (digs_append.2 ⟨hd, digs_rep _⟩) (by simp; omega) (by rw [p4, val_zeros_right])
  have ht : trz (pad6 (val d * 10 ^ (6 - d.length))) = trz d := by rw [hpd, trz_zeros]
  have hne : trz d ≠ [] := fun hh => g4 ((trz_nil hd).1 hh)
  show (0 : Int) = 0 ∧ _ ∧ _ ∧ (rateText ((val d * 10 ^ (6 - d.length) : Nat) : Int)).2.1 = 0 ∧ ∃ a j, _ ∧ (rateText ((val d * 10 ^ (6 - d.length) : Nat) : Int)).1 = a ∧ _
  rw [hf]
  refine ⟨rfl, hk.1, by show ((val d * 10 ^ (6 - d.length) : Nat) : Int) ≤ 1000000; omega, rfl, 48 :: 46 :: trz d, d.length - (trz d).length, ?_, ?_, by simp, ?_⟩
  · rw [List.cons_append, List.cons_append, ← trz_pad]
  · show 48 :: 46 :: trz (pad6 (val d * 10 ^ (6 - d.length))) = _
    rw [ht]
  · intro x hx
    refine trz_last (l := d) ?_
    rw [← hx]
    cases e : trz d with
    | nil => exact absurd e hne
    | cons b r => simp [List.getLast?_cons]
end Go.AM
set_option linter.unusedVariables false
set_option linter.unusedSimpArgs false
namespace Go.AM
def TagS (t : TagL) : Prop := t.1.length ≤ 1000 ∧ t.2.length ≤ 1000
theorem textF_zero {c : Int} {s : List UInt8} {lo hi : Int} (h : (textF c s lo hi).1 = 0) : lo ≤ (s.length : Int) ∧ (s.length : Int) ≤ hi ∧ s.all (cls c) = true := by
  unfold textF at h
  split at h
  · cases h
  · split at h
    · cases h
    · split at h
      · cases h
      · split at h
        · cases h
        · rename_i h1 h2 h3 h4
          exact ⟨by omega, by omega, Classical.byContradiction fun hh => h4 ((badK_ge _ _ _).2 hh)⟩
theorem tagGood_le {t : TagL} (h : tagGood t = true) : TagS t := by
  unfold tagGood at h
  simp only [Bool.and_eq_true, beq_iff_eq] at h
  have h1 := textF_zero h.1
  have h2 := textF_zero h.2
  exact ⟨by omega, by omega⟩
theorem growS {X : Type} {a b : Nat} (h : a + b ≤ 1000000) (y : Option X) : (bif decide (a + b ≤ strMax) then y else none) = y := by
  rw [decide_eq_true (by rw [strMax_eq]; omega)]; rfl
theorem growB {X : Type} {a b : Nat} (h : a + b ≤ 1000000) (y : Option X) : (bif decide ((a + b) * 1 ≤ 2 ^ 46) && decide (0 < 1 ∧ 1 ≤ 2 ^ 20) then y else none) = y := by
  rw [decide_eq_true (by omega)]; rfl
theorem growL {X : Type} {a : Nat} (h : a ≤ 1000000) (y : Option X) : (bif decide ((a + 1) * 16 ≤ 2 ^ 46) && decide (0 < 16 ∧ 16 ≤ 2 ^ 20) then y else none) = y := by
  rw [decide_eq_true (by omega)]; rfl
def wordT (k : Int) : List UInt8 := if k = 1 then [99] else if k = 2 then [103] else if k = 3 then [109, 115] else if k = 4 then [104] else if k = 5 then [100] else []
theorem kind_five {k : Int} (h : kindB k = true) : k = 1 ∨ k = 2 ∨ k = 3 ∨ k = 4 ∨ k = 5 := by
  unfold kindB at h
  simp only [Bool.and_eq_true, decide_eq_true_eq] at h
  omega
theorem word_eq (n : Nat) (k : Int) : F.dog_Word n k = some (if kindB k then (wordT k, 0, ()) else ([], 16, ())) := by
  unfold F.dog_Word
  by_cases h1 : k < 1
  · have : kindB k = false := by unfold kindB; rw [decide_eq_false (by omega)]; rfl
    rw [bif_pos h1, this]; rfl
  · rw [bif_neg h1]
    by_cases h2 : k > 5
    · have : kindB k = false := by unfold kindB; rw [decide_eq_false (by omega : ¬ k ≤ 5), Bool.and_false]
      rw [bif_pos h2, this]; rfl
    · have hk : k = 1 ∨ k = 2 ∨ k = 3 ∨ k = 4 ∨ k = 5 := by omega
      rw [bif_neg h2]
      rcases hk with rfl | rfl | rfl | rfl | rfl <;> rfl
theorem word_short (k : Int) : (wordT k).length ≤ 2 := by
  unfold wordT; repeat' split
  all_goals decide
def textL (d : DecL) : List UInt8 := textD d.1 d.2.1.toNat d.2.2
def valsT (vs : List DecL) : List UInt8 := (vs.map fun d => 58 :: textL d).flatten
def oneT (t : TagL) : List UInt8 := if t.2 = [] then t.1 else t.1 ++ ([58] ++ t.2)
def tagText (ts : List TagL) : List UInt8 := Lib.join (ts.map oneT) [44]
def rateP (r : Int) : List UInt8 := if r = 1000000 then [] else [124, 64] ++ (rateText r).1
def tagsP (ts : List TagL) : List UInt8 := if ts = [] then [] else [124, 35] ++ tagText ts
def timeP (t : Int) : List UInt8 := if t = 0 then [] else [124, 84] ++ Lib.decDigits t.toNat
def lineD (m : MetD) : List UInt8 := m.1 ++ valsT m.2.2.1 ++ ([124] ++ wordT m.2.1) ++ rateP m.2.2.2.1 ++ tagsP m.2.2.2.2.1 ++ timeP m.2.2.2.2.2.1
theorem valsT_le {vs : List DecL} (h : ∀ d ∈ vs, DecLOK d ∧ decC d = 0) : (valsT vs).length ≤ 40 * vs.length := by
  induction vs with
  | nil => simp [valsT]
  | cons d vs ih =>
    have := textD_le (h d (by simp)).1 (h d (by simp)).2
    have h2 := ih (fun x hx => h x (List.mem_cons_of_mem _ hx))
    have e : (valsT (d :: vs)).length = (textL d).length + 1 + (valsT vs).length := by simp [valsT]; omega
    have e2 : (textL d).length ≤ 39 := this
    simp only [List.length_cons]
    omega
theorem oneT_le {t : TagL} (h : TagS t) : (oneT t).length ≤ 2001 := by
  unfold oneT
  have := h.1; have := h.2
  split <;> simp <;> omega
theorem join_le (sep : List UInt8) (b : Nat) : ∀ l : List (List UInt8), (∀ x ∈ l, x.length ≤ b) → (Lib.join l sep).length ≤ l.length * (b + sep.length) := by
  intro l h
  cases l with
  | nil => simp [Lib.join]
  | cons x l =>
    rw [Lib.join_cons]
    have : ∀ l : List (List UInt8), (∀ x ∈ l, x.length ≤ b) → (Lib.joinTail sep l).length ≤ l.length * (b + sep.length) := by
      intro l
      induction l with
      | nil => intro _; simp [Lib.joinTail]
      | cons y l ih =>
        intro h
        have h1 := ih (fun x hx => h x (List.mem_cons_of_mem _ hx))
        have h2 := h y (by simp)
        have : Lib.joinTail sep (y :: l) = sep ++ y ++ Lib.joinTail sep l := by simp [Lib.joinTail]
        rw [this, List.length_append, List.length_append, List.length_cons, Nat.add_mul]
        omega
    have h1 := this l (fun x hx => h x (List.mem_cons_of_mem _ hx))
    have h2 := h x (by simp)
    rw [List.length_append, List.length_cons, Nat.add_mul]
    omega
theorem tagText_le {ts : List TagL} (h : ∀ t ∈ ts, TagS t) (hl : ts.length ≤ 32) : (tagText ts).length ≤ 70000 := by
  unfold tagText
  have := join_le [44] 2001 (ts.map oneT) (fun x hx => by
    obtain ⟨t, ht, rfl⟩ := List.mem_map.1 hx
    exact oneT_le (h t ht))
  rw [List.length_map] at this
  have h2 : ts.length * (2001 + [(44 : UInt8)].length) ≤ 32 * 2002 := Nat.mul_le_mul_right _ hl
  omega
theorem tagText_loop (n : Nat) (hn : 200000 ≤ n) (X : Type) (k0 : List (List UInt8) → Nat → Option X) (kr : List UInt8 → Int → Int → Option X) (ts : List TagL) (hl : ts.length ≤ 1000) (hok : ∀ t ∈ ts, TagS t ∧ tagGood t = true) : ∀ (r : List TagL) (acc : List (List UInt8)) (i m : Nat), ts.drop i = r → acc.length ≤ i → i ≤ ts.length → r.length < m →
    F.tag_Text.L3 n k0 kr m acc ts (ts.length : Int) (i : Int) acc.length = k0 (acc ++ r.map oneT) (acc ++ r.map oneT).length := by
  intro r
  induction r with
  | nil =>
    intro acc i m h1 h2 hi hm
    obtain ⟨m, rfl⟩ : ∃ q, m = q + 1 := ⟨m - 1, by omega⟩
    rw [F.tag_Text.L3]
    unfold F.tag_Text.L3.step
    dsimp only
    rw [bif_neg (by have := drop_nil' h1; omega)]
    simp
  | cons t r ih =>
    intro acc i m h1 h2 hi hm
    obtain ⟨m, rfl⟩ : ∃ q, m = q + 1 := ⟨m - 1, by simp at hm; omega⟩
    obtain ⟨l1, g1, t1⟩ := drop_cons h1
    simp only [List.length_cons] at hm
    obtain ⟨ht, hg⟩ := hok t (List.mem_of_getElem? g1)
    have a1 := ht.1
    have a2 := ht.2
    have hih := ih (acc ++ [oneT t]) (i + 1) m t1 (by simp; omega) (by omega) (by omega)
    have e : acc ++ [oneT t] ++ r.map oneT = acc ++ (t :: r).map oneT := by simp
    rw [e] at hih
    rw [F.tag_Text.L3]
    unfold F.tag_Text.L3.step
    dsimp only
    rw [bif_pos (by omega), idx_nat, g1, some_bind', tag_chk n hn ⟨by omega, by omega⟩, some_bind', hg, cond_true]
    rw [wrap_succ (by omega), Nat.beq_refl, growL (by omega), growL (by omega)]
    simp only [beq_self_eq_true, Bool.not_true, cond_false, cond_true]
    by_cases h0 : t.2 = []
    · rw [h0, beq_self_eq_true, Bool.not_true, cond_false]
      have e1 : oneT t = t.1 := by unfold oneT; rw [if_pos h0]
      rw [e1] at hih
      exact hih
    · rw [beq_eq_false_iff_ne.2 h0, Bool.not_false, cond_true, growS (by omega), growS (by simp only [List.length_append, List.length_cons, List.length_nil]; omega)]
      have e1 : oneT t = t.1 ++ ([58] ++ t.2) := by unfold oneT; rw [if_neg h0]
      rw [e1] at hih
      exact hih
theorem tagText_eq (n : Nat) (hn : 200000 ≤ n) (ts : List TagL) (hl : ts.length ≤ 32) (hok : ∀ t ∈ ts, TagS t ∧ tagGood t = true) : F.tag_Text n ts = some (tagText ts, 0, 0, ()) := by
  unfold F.tag_Text
  refine (tagText_loop n hn _ _ _ ts (by omega) hok ts [] 0 n rfl (by simp) (by omega) (by omega)).trans ?_
  have e1 : O.join n (ts.map oneT) [44] = some (tagText ts) := by
    unfold O.join
    have h2 := tagText_le (fun t ht => (hok t ht).1) hl
    unfold tagText at h2
    have : (Nat.ble (ts.map oneT).length big47 && Nat.ble (Lib.join (ts.map oneT) [44]).length big47) = true := by
      simp only [Bool.and_eq_true, nble, big47, List.length_map]
      omega
    rw [this, cond_true]; rfl
  show (O.join n (ts.map oneT) [44]).bind _ = _
  rw [e1]; rfl
end Go.AM
set_option linter.unusedVariables false
set_option linter.unusedSimpArgs false
namespace Go.AM
theorem rateP_le {k r : Int} (h : rateB k r = true) : (rateP r).length ≤ 20 ∧ (rateText r).2.1 = 0 ∧ 1 ≤ r ∧ r ≤ 1000000 := by
  have hr : 1 ≤ r ∧ r ≤ 1000000 := by
    unfold rateB at h
    simp only [Bool.and_eq_true, decide_eq_true_eq] at h
    exact ⟨h.1, h.2.1⟩
  by_cases e : r = 1000000
  · subst e; exact ⟨by decide, by decide, by omega, by omega⟩
  · have hf := rateText_form (k := r) ⟨hr.1, by omega⟩
    have h6 := (pad6_all (k := r.toNat) (by omega)).2.1
    have ht := trz_le (pad6 r.toNat)
    unfold rateP
    rw [if_neg e, hf]
    refine ⟨?_, rfl, hr⟩
    simp only [List.length_append, List.length_cons, List.length_nil]
    omega
theorem timeP_le {t : Int} (h : timeB t = true) : (timeP t).length ≤ 24 ∧ 0 ≤ t ∧ t ≤ 1099511627776 := by
  have hr : 0 ≤ t ∧ t ≤ 1099511627776 := by
    unfold timeB at h
    simpa only [Bool.and_eq_true, decide_eq_true_eq] using h
  refine ⟨?_, hr⟩
  have := dd_len64 (c := t.toNat) (by rw [two64_eq]; omega)
  unfold timeP
  split
  · simp
  · simp only [List.length_append, List.length_cons, List.length_nil]; omega
structure RightM (m : MetD) : Prop where
  ok : MetOK m
  chk : chkM m = 0
theorem right_vals {m : MetD} (h : RightM m) : (∀ d ∈ m.2.2.1, DecLOK d ∧ decC d = 0) ∧ 1 ≤ m.2.2.1.length ∧ m.2.2.1.length ≤ 64 := by
  have := (chk_zero h.chk).2.2.1
  unfold valsB at this
  simp only [Bool.and_eq_true, decide_eq_true_eq] at this
  refine ⟨fun d hd => ⟨h.ok.2.1.2 d hd, ?_⟩, this.1, this.2.1⟩
  simpa using List.all_eq_true.1 this.2.2 d hd
theorem right_tags {m : MetD} (h : RightM m) : (∀ t ∈ m.2.2.2.2.1, TagS t ∧ tagGood t = true) ∧ m.2.2.2.2.1.length ≤ 32 := by
  have := (chk_zero h.chk).2.2.2.2.1
  unfold tagsB at this
  simp only [Bool.and_eq_true, decide_eq_true_eq] at this
  exact ⟨fun t ht => ⟨tagGood_le (List.all_eq_true.1 this.2 t ht), List.all_eq_true.1 this.2 t ht⟩, this.1⟩
theorem nameOK_le {s : List UInt8} (h : nameOK s = true) : 1 ≤ s.length ∧ s.length ≤ 200 := by
  rw [nameOK_eq] at h
  simp only [Bool.and_eq_true, decide_eq_true_eq] at h
  exact h.2
theorem line_loop (n : Nat) (hn : 200000 ≤ n) (X : Type) (k0 : List UInt8 → Int → List DecL → Int → List TagL → Int → (Nat × List UInt8) → (Nat × Nat) → Int → Option X) (b0 : List UInt8) (b1 : Int) (b2 : List DecL) (b3 : Int) (b4 : List TagL) (b5 : Int) (vs : List DecL) (hl : vs.length ≤ 100) (hok : ∀ d ∈ vs, DecLOK d ∧ decC d = 0) : ∀ (r : List DecL) (acc : List UInt8) (v i m : Nat), vs.drop i = r → acc.length ≤ 1000 + i * 40 → i ≤ vs.length → r.length < m →
    ∃ v', F.dog_Line.L9 n k0 m vs (vs.length : Int) (i : Int) b0 b1 b2 b3 b4 b5 (v, acc) (v, acc.length) 0 = k0 b0 b1 b2 b3 b4 b5 (v', acc ++ valsT r) (v', (acc ++ valsT r).length) 0 := by
  intro r
  induction r with
  | nil =>
    intro acc v i m h1 h2 hi hm
    obtain ⟨m, rfl⟩ : ∃ q, m = q + 1 := ⟨m - 1, by omega⟩
    refine ⟨v, ?_⟩
    rw [F.dog_Line.L9]
    unfold F.dog_Line.L9.step
    dsimp only
    rw [bif_neg (by have := drop_nil' h1; omega)]
    simp [valsT]
  | cons d r ih =>
    intro acc v i m h1 h2 hi hm
    obtain ⟨m, rfl⟩ : ∃ q, m = q + 1 := ⟨m - 1, by simp at hm; omega⟩
    obtain ⟨l1, g1, t1⟩ := drop_cons h1
    simp only [List.length_cons] at hm
    obtain ⟨hd, h0⟩ := hok d (List.mem_of_getElem? g1)
    have hlen : (textL d).length ≤ 39 := textD_le hd h0
    have hT : F.dec_Text n (d.1, d.2.1, d.2.2, ()) = some (textL d, 0, ()) := decText_eq n hn hd h0
    obtain ⟨v', hv⟩ := ih (acc ++ ([58] ++ textL d)) (v + 1) (i + 1) m t1 (by simp only [List.length_append, List.length_cons, List.length_nil]; omega) (by omega) (by omega)
    refine ⟨v', ?_⟩
    rw [F.dog_Line.L9]
    unfold F.dog_Line.L9.step
    dsimp only
    rw [bif_pos (by omega), idx_nat, g1, some_bind', hT, some_bind', wrap_succ (by omega)]
    dsimp only
    rw [beq_self_eq_true, cond_true, growS (by omega), Nat.beq_refl, cond_true, growB (by simp only [List.length_append, List.length_cons, List.length_nil]; omega)]
    rw [hv]
    simp [valsT]
theorem c25_eq (n : Nat) (X : Type) (kr : List UInt8 → Int → Option X) (b0 : List UInt8) (b1 : Int) (b2 : List DecL) (b3 : Int) (b4 : List TagL) (b5 : Int) (B : List UInt8) (v l : Nat) (hB : B ≠ []) : F.dog_Line.C25 n kr b0 b1 b2 b3 b4 b5 (v, B) (v, l) 0 = kr B 0 := by
  unfold F.dog_Line.C25
  dsimp only
  rw [beq_self_eq_true, Bool.not_true, cond_false, Nat.beq_refl, cond_true]
  cases B with
  | nil => exact absurd rfl hB
  | cons x B => rfl
theorem c22_eq (n : Nat) (X : Type) (kr : List UInt8 → Int → Option X) (b0 : List UInt8) (b1 : Int) (b2 : List DecL) (b3 : Int) (b4 : List TagL) (b5 : Int) (h5 : timeB b5 = true) (B : List UInt8) (v : Nat) (hB : B ≠ []) (hl : B.length ≤ 200000) : F.dog_Line.C22 n kr b0 b1 b2 b3 b4 b5 (v, B) (v, B.length) 0 = kr (B ++ timeP b5) 0 := by
  obtain ⟨t1, t2, t3⟩ := timeP_le h5
  unfold F.dog_Line.C22 timeP
  by_cases e : b5 = 0
  · rw [e, beq_self_eq_true, Bool.not_true, cond_false, if_pos rfl, List.append_nil]
    exact c25_eq n X _ b0 b1 b2 b3 b4 0 B v _ hB
  · have hd : F.num_Text n b5 = some (Lib.decDigits b5.toNat, 0, ()) := by
      rw [text_num n b5 (by omega)]; unfold numText; rw [if_neg (by omega)]
    have hdl := dd_len64 (c := b5.toNat) (by rw [two64_eq]; omega)
    rw [beq_eq_false_iff_ne.2 e, Bool.not_false, cond_true, hd, some_bind', if_neg e]
    dsimp only
    rw [beq_self_eq_true, cond_true, growS (by omega), Nat.beq_refl, cond_true, growB (by simp only [List.length_append, List.length_cons, List.length_nil]; omega)]
    exact c25_eq n X _ b0 b1 b2 b3 b4 b5 _ _ _ (by simp)
theorem c19_eq (n : Nat) (hn : 200000 ≤ n) (X : Type) (kr : List UInt8 → Int → Option X) (b0 : List UInt8) (b1 : Int) (b2 : List DecL) (b3 : Int) (b4 : List TagL) (b5 : Int) (h5 : timeB b5 = true) (hts : b4.length ≤ 32) (ht : ∀ t ∈ b4, TagS t ∧ tagGood t = true) (B : List UInt8) (v : Nat) (hB : B ≠ []) (hl : B.length ≤ 100000) : F.dog_Line.C19 n kr b0 b1 b2 b3 b4 b5 (v, B) (v, B.length) 0 = kr (B ++ tagsP b4 ++ timeP b5) 0 := by
  have htl := tagText_le (fun t ht' => (ht t ht').1) hts
  unfold F.dog_Line.C19 tagsP
  by_cases e : b4 = []
  · rw [e, bif_neg (by simp), if_pos rfl, List.append_nil]
    exact c22_eq n X _ b0 b1 b2 b3 [] b5 h5 B v hB (by omega)
  · have hlen : 0 < b4.length := List.length_pos_iff.2 e
    rw [bif_pos (by omega), tagText_eq n hn b4 hts ht, some_bind', if_neg e]
    dsimp only
    rw [beq_self_eq_true, cond_true, growS (by omega), Nat.beq_refl, cond_true, growB (by simp only [List.length_append, List.length_cons, List.length_nil]; omega)]
    exact c22_eq n X _ b0 b1 b2 b3 b4 b5 h5 _ _ (by simp) (by simp only [List.length_append, List.length_cons, List.length_nil]; omega)
theorem c16_eq (n : Nat) (hn : 200000 ≤ n) (X : Type) (kr : List UInt8 → Int → Option X) (b0 : List UInt8) (b1 : Int) (b2 : List DecL) (b3 : Int) (b4 : List TagL) (b5 : Int) (k : Int) (h3 : rateB k b3 = true) (h5 : timeB b5 = true) (hts : b4.length ≤ 32) (ht : ∀ t ∈ b4, TagS t ∧ tagGood t = true) (B : List UInt8) (v : Nat) (hB : B ≠ []) (hl : B.length ≤ 50000) : F.dog_Line.C16 n kr b0 b1 b2 b3 b4 b5 (v, B) (v, B.length) 0 = kr (B ++ rateP b3 ++ tagsP b4 ++ timeP b5) 0 := by
  obtain ⟨r1, r2, r3, r4⟩ := rateP_le h3
  unfold F.dog_Line.C16
  by_cases e : b3 = 1000000
  · have : rateP b3 = [] := by unfold rateP; rw [if_pos e]
    rw [this, List.append_nil, e, beq_self_eq_true, Bool.not_true, cond_false]
    exact c19_eq n hn X _ b0 b1 b2 1000000 b4 b5 h5 hts ht B v hB (by omega)
  · have hP : rateP b3 = [124, 64] ++ (rateText b3).1 := by unfold rateP; rw [if_neg e]
    have hrl : (rateText b3).1.length ≤ 20 := by rw [hP] at r1; simp only [List.length_append, List.length_cons, List.length_nil] at r1; omega
    rw [hP, beq_eq_false_iff_ne.2 e, Bool.not_false, cond_true, rateText_num, some_bind', beq_self_eq_true, cond_true, growS (by omega)]
    dsimp only
    rw [Nat.beq_refl, cond_true, growB (by simp only [List.length_append, List.length_cons, List.length_nil]; omega), r2]
    exact c19_eq n hn X _ b0 b1 b2 b3 b4 b5 h5 hts ht _ _ (by simp) (by simp only [List.length_append, List.length_cons, List.length_nil]; omega)
def lineM (m : MetD) : List UInt8 × Int × Unit := if (normM m).2.1 = 0 then (lineD (normM m).1, 0, ()) else ([], (normM m).2.1, ())
theorem normM_cases {m : MetD} (hm : MetOK m) : (normM m = (formM m, 0, ()) ∧ RightM (formM m)) ∨ (∃ e, e ≠ 0 ∧ normM m = (zeroM, e, ())) := by
  unfold normM
  by_cases h : chkM (valsM m) = 0
  · refine Or.inl ⟨if_pos h, ?_, ?_⟩
    · have hv := valsM_ok hm
      refine ⟨hm.1, hv.2.1, ?_, ?_⟩
      · have h1 := normT_len m.2.2.2.2.1
        have h2 := hm.2.2.1
        show (normT m.2.2.2.2.1).length ≤ 10000
        omega
      · intro t ht
        exact hm.2.2.2 t ((normT_mem _ _).1 ht)
    · obtain ⟨c1, c2, c3, c4, c5, c6⟩ := chk_zero h
      have c5' : tagsB (formM m).2.2.2.2.1 = true := by
        unfold tagsB at c5 ⊢
        simp only [Bool.and_eq_true, decide_eq_true_eq] at c5 ⊢
        have h1 := normT_len m.2.2.2.2.1
        have h2 : m.2.2.2.2.1.length ≤ 32 := c5.1
        refine ⟨?_, List.all_eq_true.2 (fun t ht => List.all_eq_true.1 c5.2 t ((normT_mem _ _).1 ht))⟩
        show (normT m.2.2.2.2.1).length ≤ 32
        omega
      unfold chkM
      have d1 : nameOK (formM m).1 = true := c1
      have d2 : kindB (formM m).2.1 = true := c2
      have d3 : valsB (formM m).2.2.1 = true := c3
      have d4 : rateB (formM m).2.1 (formM m).2.2.2.1 = true := c4
      have d6 : timeB (formM m).2.2.2.2.2.1 = true := c6
      rw [d1, d2, d3, d4, c5', d6]
      rfl
  · exact Or.inr ⟨_, h, if_neg h⟩
theorem line_eq (n : Nat) (hn : 200000 ≤ n) (m : MetD) (hm : MetOK m) : F.dog_Line n m = some (lineM m) := by
  unfold F.dog_Line lineM
  have hN : F.metric_Normal n (m.1, m.2.1, m.2.2.1, m.2.2.2.1, m.2.2.2.2.1, m.2.2.2.2.2.1, ()) = some (normM m) := metNormal_eq n hn m hm
  rw [hN, some_bind']
  rcases normM_cases hm with ⟨h1, hR⟩ | ⟨e, he, h1⟩
  · rw [h1]
    generalize formM m = f at hR
    obtain ⟨hv, hv1, hv2⟩ := right_vals hR
    obtain ⟨ht, ht2⟩ := right_tags hR
    obtain ⟨c1, c2, c3, c4, c5, c6⟩ := chk_zero hR.chk
    have hnm := nameOK_le c1
    have hvl := valsT_le hv
    obtain ⟨nm, k, vs, r, ts, t, _⟩ := f
    dsimp only at hv hv1 hv2 ht ht2 c1 c2 c3 c4 c5 c6 hnm hvl ⊢
    rw [beq_self_eq_true, Bool.not_true, cond_false, if_pos rfl, growS (by omega), growB (by simp only [List.length_append, List.length_nil]; omega)]
    obtain ⟨v', hloop⟩ := line_loop n hn _ (fun e4_b0_0 e4_b0_1 e4_b0_2 e4_b0_3 e4_b0_4 e4_b0_5 e4_b1_0 e4_b2_1 e4_b3_0 =>
            (F.dog_Word n e4_b0_1).bind fun y5 =>
              bif e4_b3_0 == (0 : Int) then
                bif decide (1 + y5.1.length ≤ strMax) then
                  bif Nat.beq e4_b2_1.1 e4_b1_0.1 then
                    bif decide ((e4_b1_0.2.length + ((([124]) ++ y5.1).length)) * 1 ≤ 2 ^ 46) && decide (0 < 1 ∧ 1 ≤ 2 ^ 20) then
                      F.dog_Line.C16 n
                        (fun e30_2 e30_3 =>
                          some ((e30_2, e30_3, ()))) e4_b0_0 e4_b0_1 e4_b0_2 e4_b0_3 e4_b0_4 e4_b0_5 (e4_b2_1.1 + 1, e4_b1_0.2 ++ (([124]) ++ y5.1)) (e4_b2_1.1 + 1, (e4_b1_0.2 ++ (([124]) ++ y5.1)).length) y5.2.1
                    else
                      none
                  else
                    none
                else
                  none
              else
              bif decide (1 + y5.1.length ≤ strMax) then
                bif Nat.beq e4_b2_1.1 e4_b1_0.1 then
                  bif decide ((e4_b1_0.2.length + ((([124]) ++ y5.1).length)) * 1 ≤ 2 ^ 46) && decide (0 < 1 ∧ 1 ≤ 2 ^ 20) then
                    F.dog_Line.C16 n
                      (fun e31_2 e31_3 =>
                        some ((e31_2, e31_3, ()))) e4_b0_0 e4_b0_1 e4_b0_2 e4_b0_3 e4_b0_4 e4_b0_5 (e4_b2_1.1 + 1, e4_b1_0.2 ++ (([124]) ++ y5.1)) (e4_b2_1.1 + 1, (e4_b1_0.2 ++ (([124]) ++ y5.1)).length) e4_b3_0
                  else
                    none
                else
                  none
              else
                none) nm k vs r ts t vs (by omega) hv vs nm 2 0 n rfl (by omega) (by omega) (by omega)
    refine hloop.trans ?_
    dsimp only
    have hws := word_short k
    rw [word_eq, c2, if_pos rfl, some_bind']
    dsimp only
    rw [beq_self_eq_true, cond_true, growS (by omega), Nat.beq_refl, cond_true, growB (by simp only [List.length_append, List.length_cons, List.length_nil]; omega)]
    exact c16_eq n hn _ _ nm k vs r ts t k c4 c6 ht2 ht _ _ (by simp) (by simp only [List.length_append, List.length_cons, List.length_nil]; omega)
  · rw [h1]
    dsimp only
    rw [if_neg he, beq_eq_false_iff_ne.2 he, Bool.not_false, cond_true]
end Go.AM
set_option linter.unusedVariables false
set_option linter.unusedSimpArgs false
namespace Go.AM
abbrev Res (α : Type) := Except (Int × Int) α
def kindR (s : List UInt8) : Int := if s = [99] then 1 else if s = [103] then 2 else if s = [109, 115] then 3 else if s = [104] then 4 else if s = [100] then 5 else 0
theorem kind_eq (n : Nat) (hn : 100 ≤ n) (s : List UInt8) : F.dog_Kind n s = some (if kindR s = 0 then (0, 16, ()) else (kindR s, 0, ())) := by
  obtain ⟨m, hm⟩ : ∃ q, n = q + 7 := ⟨n - 7, by omega⟩
  unfold F.dog_Kind
  rw [show F.dog_words n = some ([], [99], [103], [109, 115], [104], [100], ()) from rfl, some_bind']
  have L : ∀ (k0 : Unit → Option (Int × Int × Unit)) (kr : Int → Int → Option (Int × Int × Unit)), F.dog_Kind.L2 n k0 kr (m + 7) s ([], [99], [103], [109, 115], [104], [100], ()) (0 : Int) = if s = [99] then kr 1 0 else if s = [103] then kr 2 0 else if s = [109, 115] then kr 3 0 else if s = [104] then kr 4 0 else if s = [100] then kr 5 0 else k0 () := by
    intro k0 kr
    have e1 : ([99] == s) = decide (s = [99]) := by by_cases h : s = [99] <;> simp [h]; exact fun h' => h h'.symm
    have e2 : ([103] == s) = decide (s = [103]) := by by_cases h : s = [103] <;> simp [h]; exact fun h' => h h'.symm
    have e3 : ([109, 115] == s) = decide (s = [109, 115]) := by by_cases h : s = [109, 115] <;> simp [h]; exact fun h' => h h'.symm
    have e4 : ([104] == s) = decide (s = [104]) := by by_cases h : s = [104] <;> simp [h]; exact fun h' => h h'.symm
    have e5 : ([100] == s) = decide (s = [100]) := by by_cases h : s = [100] <;> simp [h]; exact fun h' => h h'.symm
    show (bif [99] == s then kr 1 0 else bif [103] == s then kr 2 0 else bif [109, 115] == s then kr 3 0 else bif [104] == s then kr 4 0 else bif [100] == s then kr 5 0 else k0 ()) = _
    rw [e1, e2, e3, e4, e5]
    simp only [bdec]
  rw [hm] at L ⊢
  refine (L _ _).trans ?_
  unfold kindR
  repeat' split
  all_goals first | rfl | (simp_all)
def readVals : List (List UInt8) → List DecL → Int → Except Int (List DecL)
  | [], acc, _ => .ok acc
  | v :: r, acc, at_ => if (parseR v).2.1.1 = 0 ∧ acc.length ≠ 64 then readVals r (acc ++ [((parseR v).1.1, (parseR v).1.2.1, (parseR v).1.2.2.1)]) (at_ + v.length + 1) else .error at_
def restN (c : UInt8) (s : List UInt8) : List UInt8 := if c ∈ s then s.drop ((seg c s).length + 1) else []
def firstR (s : List UInt8) : Res (List UInt8 × List DecL) :=
  if nameOK (seg 58 s) = false then .error (15, 0)
  else if 58 ∉ s then .error (11, (s.length : Int))
  else match readVals (splitL 58 (restN 58 s)) [] ((seg 58 s).length + 1) with
    | .ok vs => .ok (seg 58 s, vs)
    | .error at_ => .error (17, at_)
def tagsR : List (List UInt8) → List TagL → Int → Except Int (List TagL)
  | [], acc, _ => .ok acc
  | p :: r, acc, at_ => if tagGood (seg 58 p, restN 58 p) = true ∧ ¬ (58 ∈ p ∧ restN 58 p = []) then tagsR r (acc ++ [(seg 58 p, restN 58 p)]) (at_ + p.length + 1) else .error at_
def moreR (m : MetD) (last : Int) : List UInt8 → Except Int (MetD × Int)
  | [] => .error 11
  | x :: s =>
    if x = 64 then (if 0 < last then .error 11 else if (rateR s).2.1.1 ≠ 0 ∨ (m.2.1 = 2 ∧ (rateR s).1 ≠ 1000000) then .error 18 else .ok ((m.1, m.2.1, m.2.2.1, (rateR s).1, m.2.2.2.2.1, m.2.2.2.2.2.1, ()), 1))
    else if x = 35 then (if 1 < last then .error 11 else match tagsR (splitL 44 s) [] 0 with
      | .error _ => .error 19
      | .ok l => if 32 < l.length then .error 19 else .ok ((m.1, m.2.1, m.2.2.1, m.2.2.2.1, normT l, m.2.2.2.2.2.1, ()), 2))
    else if x = 84 then (if 2 < last then .error 11 else if (parseNum s 1 1099511627776).2.1.1 ≠ 0 then .error 20 else .ok ((m.1, m.2.1, m.2.2.1, m.2.2.2.1, m.2.2.2.2.1, (parseNum s 1 1099511627776).1, ()), 3))
    else .error 11
def restR : List (List UInt8) → Int → MetD → Int → Res MetD
  | [], _, m, _ => .ok m
  | p :: r, at_, m, last => match moreR m last p with
    | .error e => .error (e, at_)
    | .ok (m', last') => restR r (at_ + p.length + 1) m' last'
def secondR (s p : List UInt8) (nm : List UInt8) (vs : List DecL) : List (List UInt8) → Res MetD
  | [] => .error (11, (s.length : Int))
  | q :: r => if kindR q = 0 then .error (16, (p.length : Int) + 1) else restR r ((p.length : Int) + 1 + (q.length + 1)) (nm, kindR q, vs, 1000000, [], 0, ()) 0
def linesR (s : List UInt8) : List (List UInt8) → Res MetD
  | [] => .error (11, 0)
  | p :: r => match firstR p with
    | .error e => .error e
    | .ok x => secondR s p x.1 x.2 r
abbrev ParseD := MetD × (Int × Int × Unit) × Unit
def outP : Res MetD → ParseD
  | .ok m => (m, (0, 0, ()), ())
  | .error e => (zeroM, (e.1, e.2, ()), ())
def parseD (s : List UInt8) : ParseD := if 8192 < s.length then (zeroM, (12, 0, ()), ()) else outP (linesR s (splitL 124 s))
theorem restN_le (c : UInt8) (s : List UInt8) : (restN c s).length ≤ s.length := by
  unfold restN; split <;> simp
theorem splitL_seg (c : UInt8) (s : List UInt8) : splitL c s = if c ∈ s then seg c s :: splitL c (restN c s) else [s] := by
  induction s with
  | nil => rfl
  | cons x s ih =>
    by_cases hx : x = c
    · subst hx
      have e1 : seg x (x :: s) = [] := by rw [seg_cons, if_pos rfl]
      have e2 : restN x (x :: s) = s := by unfold restN; rw [if_pos (by simp), e1]; rfl
      rw [if_pos (by simp), e1, e2, splitL, if_pos rfl]
    · have hmem : (c ∈ x :: s) ↔ c ∈ s := by simp [show ¬ c = x from fun h => hx h.symm]
      rw [splitL, if_neg hx, ih]
      by_cases hc : c ∈ s
      · rw [if_pos hc, if_pos (hmem.2 hc)]
        have e1 : seg c (x :: s) = x :: seg c s := by rw [seg_cons, if_neg hx]
        have e2 : restN c (x :: s) = restN c s := by unfold restN; rw [if_pos hc, if_pos (hmem.2 hc), e1]; rfl
        rw [e1, e2]
      · rw [if_neg hc, if_neg (fun h => hc (hmem.1 h))]
def sumL (l : List (List UInt8)) : Nat := (l.map fun p => p.length + 1).sum
theorem splitL_sum (c : UInt8) (s : List UInt8) : sumL (splitL c s) = s.length + 1 := by
  induction s with
  | nil => rfl
  | cons x s ih =>
    rw [splitL]
    split
    · simp only [sumL, List.map_cons, List.sum_cons, List.length_nil, List.length_cons] at ih ⊢
      omega
    · have hne := splitL_ne c s
      revert ih hne
      cases splitL c s with
      | nil => intro _ h; exact absurd rfl h
      | cons p l =>
        intro ih _
        simp only [sumL, List.map_cons, List.sum_cons, List.length_cons] at ih ⊢
        omega
theorem sumL_len (l : List (List UInt8)) : l.length ≤ sumL l := by
  induction l with
  | nil => simp [sumL]
  | cons p l ih => simp only [sumL, List.map_cons, List.sum_cons, List.length_cons] at ih ⊢; omega
theorem sumL_mem {l : List (List UInt8)} {p : List UInt8} (h : p ∈ l) : p.length + 1 ≤ sumL l := by
  induction l with
  | nil => cases h
  | cons q l ih =>
    simp only [sumL, List.map_cons, List.sum_cons] at ih ⊢
    rcases List.mem_cons.1 h with rfl | h
    · omega
    · have := ih h; omega
theorem split_eq (n : Nat) (c : UInt8) {s : List UInt8} (hs : s.length ≤ 1000000) : O.split1 n s [c] = some (splitL c s) := by
  unfold O.split1
  dsimp only
  rw [decide_eq_true (by omega)]; rfl
theorem parseR_bad (s : List UInt8) : ((parseR s).2.1.1 == 0 && (parseR s).2.1.2.1 == 0) = decide ((parseR s).2.1.1 = 0) := by
  by_cases h : (parseR s).2.1.1 = 0
  · rw [decide_eq_true h, h, parseR_at h]; rfl
  · rw [decide_eq_false h, beq_eq_false_iff_ne.2 h]; rfl
theorem tagsR_loop (n : Nat) (hn : 200000 ≤ n) (X : Type) (k0 kr : List TagL → Int → Int → Nat → Option X) (ps : List (List UInt8)) (hs : sumL ps ≤ 10000) (b0 b1 : Int) : ∀ (r : List (List UInt8)) (acc : List TagL) (a : Int) (i m : Nat), ps.drop i = r → acc.length ≤ i → i ≤ ps.length → r.length < m → 0 ≤ a → a + sumL r ≤ 10000 →
    F.tag_Parse.L4 n k0 kr m acc a ps (ps.length : Int) (i : Int) b0 b1 acc.length = match tagsR r acc a with
      | .ok l => k0 l b0 b1 l.length
      | .error e => kr [] 19 e 0 := by
  intro r
  have hpl := sumL_len ps
  induction r with
  | nil =>
    intro acc a i m h1 h2 hi hm ha has
    obtain ⟨m, rfl⟩ : ∃ q, m = q + 1 := ⟨m - 1, by omega⟩
    rw [F.tag_Parse.L4]
    unfold F.tag_Parse.L4.step
    dsimp only
    rw [bif_neg (by have := drop_nil' h1; omega)]
    rfl
  | cons p r ih =>
    intro acc a i m h1 h2 hi hm ha has
    obtain ⟨m, rfl⟩ : ∃ q, m = q + 1 := ⟨m - 1, by simp at hm; omega⟩
    obtain ⟨l1, g1, t1⟩ := drop_cons h1
    simp only [List.length_cons] at hm
    simp only [sumL, List.map_cons, List.sum_cons] at has
    have hp := sumL_mem (List.mem_of_getElem? g1)
    have hsl := seg_le 58 p
    have hrl := restN_le 58 p
    have hih := ih (acc ++ [(seg 58 p, restN 58 p)]) (a + p.length + 1) (i + 1) m t1 (by simp; omega) (by omega) (by omega) (by omega) (by simp only [sumL]; omega)
    have hcut : F.strings_Cut n p [58] = some (seg 58 p, restN 58 p, decide (58 ∈ p), ()) := cut_eq n 58 (by omega)
    have hw : IntKind.wrap .i64 (a + IntKind.wrap .i64 ((p.length : Int) + 1)) = a + p.length + 1 := by
      rw [wrap_succ (by omega), wrap_in (by omega)]; omega
    have hg : (decide ((acc.length + 1) * 32 ≤ 2 ^ 46) && decide (0 < 32 ∧ 32 ≤ 2 ^ 20)) = true := by rw [decide_eq_true (by omega)]; rfl
    rw [F.tag_Parse.L4]
    unfold F.tag_Parse.L4.step
    dsimp only
    rw [bif_pos (by omega), idx_nat, g1, some_bind', hcut, some_bind']
    dsimp only
    have hc := tag_chk n hn (t := (seg 58 p, restN 58 p)) ⟨by show (seg 58 p).length ≤ 10000; omega, by show (restN 58 p).length ≤ 10000; omega⟩
    dsimp only at hc
    rw [hc, some_bind', hw, wrap_succ (by omega), hg, Nat.beq_refl, cond_true, cond_true, tagsR]
    cases tagGood (seg 58 p, restN 58 p)
    · rw [if_neg (by simp)]; rfl
    · rw [cond_true, beq_self_eq_true, Bool.not_true, cond_false, bdec]
      by_cases hin : (58 : UInt8) ∈ p
      · rw [if_pos hin]
        by_cases h0 : restN 58 p = []
        · rw [h0, beq_self_eq_true, cond_true, if_neg (by simp [hin])]
        · rw [beq_eq_false_iff_ne.2 h0, cond_false, if_pos ⟨rfl, by simp [h0]⟩]
          exact hih
      · rw [if_neg hin, if_pos ⟨rfl, by simp [hin]⟩]
        exact hih
theorem tagParse_eq (n : Nat) (hn : 200000 ≤ n) (s : List UInt8) (hs : s.length ≤ 9000) : F.tag_Parse n s = some (match tagsR (splitL 44 s) [] 0 with | .ok l => (l, (0, 0, ()), ()) | .error e => ([], (19, e, ()), ())) := by
  unfold F.tag_Parse
  have h1 := splitL_sum 44 s
  have h2 := sumL_len (splitL 44 s)
  rw [split_eq n 44 (by omega), some_bind']
  refine (tagsR_loop n hn _ _ _ (splitL 44 s) (by omega) 0 0 (splitL 44 s) [] 0 0 n rfl (by simp) (by omega) (by omega) (by omega) (by omega)).trans ?_
  cases tagsR (splitL 44 s) [] 0 <;> rfl
end Go.AM
set_option linter.unusedVariables false
set_option linter.unusedSimpArgs false
namespace Go.AM
end Go.AM
set_option linter.unusedVariables false
set_option linter.unusedSimpArgs false
namespace Go.AM
theorem seg_app {c : UInt8} {a : List UInt8} (h : c ∉ a) (t : List UInt8) : seg c (a ++ c :: t) = a := by
  induction a with
  | nil => show seg c (c :: t) = []; rw [seg_cons, if_pos rfl]
  | cons b a ih =>
    show seg c (b :: (a ++ c :: t)) = _
    rw [seg_cons, if_neg (fun hh => h (by simp [hh])), ih (fun hh => h (by simp [hh]))]
end Go.AM
set_option linter.unusedVariables false
set_option linter.unusedSimpArgs false
namespace Go.AM
end Go.AM
set_option linter.unusedVariables false
set_option linter.unusedSimpArgs false
namespace Go.AM
abbrev KR := List UInt8 → Int → List DecL → Int → List TagL → Int → Int → Int → List UInt8 → Int → List DecL → Int → List TagL → Int → Int → Int → Int → Int → Int → Int → Nat → Nat → Nat → Option ParseD
abbrev K8 := List UInt8 → List (List UInt8) → List UInt8 → Int → List DecL → Int → List TagL → Int → Int → Int → List UInt8 → Int → List DecL → Int → List TagL → Int → Int → Int → Int → Int → Nat → Nat → Nat → Option ParseD
def badP (e a : Int) : ParseD := (zeroM, (e, a, ()), ())
theorem first_loop (n : Nat) (hn : 200000 ≤ n) (k1 kr : KR) (ps : List (List UInt8)) (hs : sumL ps ≤ 9000)
    (c0 : List UInt8) (c1 : Int) (c2 : List DecL) (c3 : Int) (c4 : List TagL) (c5 d0 d1 : Int) (e0 : List UInt8) (e1 : Int) (e3 : Int) (e4 : List TagL) (e5 e7 f0 f1 : Int) (q0 q1 : Nat)
    (hbad : ∀ acc a l, kr c0 c1 c2 c3 c4 c5 d0 d1 e0 e1 acc e3 e4 e5 0 e7 f0 f1 17 a q0 q1 l = some (badP 17 a)) :
    ∀ (r : List (List UInt8)) (acc : List DecL) (a : Int) (i m : Nat), ps.drop i = r → acc.length ≤ i → i ≤ ps.length → r.length < m → 0 ≤ a → a + sumL r ≤ 10000 →
    F.dog_Parse.L9_dog_reader_first n k1 kr m a ps (ps.length : Int) (i : Int) c0 c1 c2 c3 c4 c5 d0 d1 e0 e1 acc e3 e4 e5 0 e7 f0 f1 0 0 q0 q1 acc.length = match readVals r acc a with
      | .ok vs => k1 c0 c1 c2 c3 c4 c5 d0 d1 e0 e1 vs e3 e4 e5 0 e7 f0 f1 0 0 q0 q1 vs.length
      | .error b => some (badP 17 b) := by
  intro r
  have hpl := sumL_len ps
  induction r with
  | nil =>
    intro acc a i m h1 h2 hi hm ha has
    obtain ⟨m, rfl⟩ : ∃ q, m = q + 1 := ⟨m - 1, by omega⟩
    rw [F.dog_Parse.L9_dog_reader_first]
    unfold F.dog_Parse.L9_dog_reader_first.step
    dsimp only
    rw [bif_neg (by have := drop_nil' h1; omega)]
    rfl
  | cons p r ih =>
    intro acc a i m h1 h2 hi hm ha has
    obtain ⟨m, rfl⟩ : ∃ q, m = q + 1 := ⟨m - 1, by simp at hm; omega⟩
    obtain ⟨l1, g1, t1⟩ := drop_cons h1
    simp only [List.length_cons] at hm
    simp only [sumL, List.map_cons, List.sum_cons] at has
    have hp := sumL_mem (List.mem_of_getElem? g1)
    have hih := ih (acc ++ [((parseR p).1.1, (parseR p).1.2.1, (parseR p).1.2.2.1)]) (a + p.length + 1) (i + 1) m t1 (by simp; omega) (by omega) (by omega) (by omega) (by simp only [sumL]; omega)
    have hw : IntKind.wrap .i64 (a + IntKind.wrap .i64 ((p.length : Int) + 1)) = a + p.length + 1 := by
      rw [wrap_succ (by omega), wrap_in (by omega)]; omega
    have hw0 : IntKind.wrap .i64 (0 + a) = a := by rw [Int.zero_add, wrap_in (by omega)]
    have hg : (decide ((acc.length + 1) * 24 ≤ 2 ^ 46) && decide (0 < 24 ∧ 24 ≤ 2 ^ 20)) = true := by rw [decide_eq_true (by omega)]; rfl
    have h64 : ((acc.length : Int) == 64) = decide (acc.length = 64) := by
      by_cases h : acc.length = 64
      · rw [h]; rfl
      · rw [decide_eq_false h, beq_eq_false_iff_ne]; omega
    rw [F.dog_Parse.L9_dog_reader_first]
    unfold F.dog_Parse.L9_dog_reader_first.step
    dsimp only
    rw [bif_pos (by omega), idx_nat, g1, some_bind', decparse_eq n hn p (by omega), some_bind', parseR_bad, hw, hw0, wrap_succ (by omega), hg, Nat.beq_refl, cond_true, cond_true, h64, readVals]
    by_cases h0 : (parseR p).2.1.1 = 0
    · rw [decide_eq_true h0, Bool.not_true, cond_false]
      by_cases h6 : acc.length = 64
      · rw [decide_eq_true h6, cond_true, if_neg (by simp [h6])]
        exact hbad _ _ _
      · rw [decide_eq_false h6, cond_false, if_pos ⟨h0, h6⟩]
        exact hih
    · rw [decide_eq_false h0, Bool.not_false, cond_true, if_neg (by simp [h0])]
      exact hbad _ _ _
theorem prefix_eq (n : Nat) (c x : UInt8) (s : List UInt8) : F.strings_CutPrefix n (x :: s) [c] = some (if x = c then (s, true, ()) else (x :: s, false, ())) := by
  unfold F.strings_CutPrefix F.stringslite_CutPrefix F.stringslite_HasPrefix
  have h1 : sub (x :: s) 0 (([c] : List UInt8).length : Int) = some [x] := by
    rw [show (0 : Int) = ((0 : Nat) : Int) from rfl, show (([c] : List UInt8).length : Int) = ((1 : Nat) : Int) from rfl, sub_nat (x :: s) 0 1 (by omega) (by simp)]; rfl
  have h2 : sub (x :: s) (([c] : List UInt8).length : Int) ((x :: s).length : Int) = some s := by
    rw [show (([c] : List UInt8).length : Int) = ((1 : Nat) : Int) from rfl, sub_nat (x :: s) 1 _ (by simp) (by omega), List.take_length]; rfl
  rw [bif_pos (by simp; omega), h1, h2]
  by_cases h : x = c
  · subst h
    simp
  · rw [if_neg h]
    have : ([x] == [c]) = false := by simpa using h
    simp [this]
theorem prefix_nil (n : Nat) (c : UInt8) : F.strings_CutPrefix n [] [c] = some ([], false, ()) := rfl
theorem rate_bad (s : List UInt8) : ((rateR s).2.1.1 == 0 && (rateR s).2.1.2.1 == 0) = decide ((rateR s).2.1.1 = 0) := by
  by_cases h : (rateR s).2.1.1 = 0
  · rw [decide_eq_true h, h, (rate_ok h).1]; rfl
  · rw [decide_eq_false h, beq_eq_false_iff_ne.2 h]; rfl
theorem time_bad (s : List UInt8) : ((parseNum s 1 1099511627776).2.1.1 == 0 && (parseNum s 1 1099511627776).2.1.2.1 == 0) = decide ((parseNum s 1 1099511627776).2.1.1 = 0) := by
  by_cases h : (parseNum s 1 1099511627776).2.1.1 = 0
  · rw [decide_eq_true h, h, (parse_back h).1]; rfl
  · rw [decide_eq_false h, beq_eq_false_iff_ne.2 h]; rfl
theorem tagsR_len : ∀ (r : List (List UInt8)) (acc : List TagL) (a : Int) (l : List TagL), tagsR r acc a = .ok l → l.length = acc.length + r.length
  | [], acc, a, l, h => by cases h; simp
  | p :: r, acc, a, l, h => by
    rw [tagsR] at h
    split at h
    · have := tagsR_len r _ _ _ h
      simp at this ⊢; omega
    · cases h
theorem more_eq (n : Nat) (hn : 200000 ≤ n) (k0 kr : KR) (p : List UInt8) (hs : p.length ≤ 9000)
    (c0 : List UInt8) (c1 : Int) (c2 : List DecL) (c3 : Int) (c4 : List TagL) (c5 d0 d1 : Int) (e0 : List UInt8) (e1 : Int) (e2 : List DecL) (e3 : Int) (e4 : List TagL) (e5 a last f0 f1 : Int) (q0 q1 q2 : Nat) (ha : 0 ≤ a ∧ a ≤ 100000)
    (hk0 : k0 c0 c1 c2 c3 c4 c5 d0 d1 e0 e1 e2 e3 e4 e5 a last f0 f1 0 0 q0 q1 q2 = some (badP 11 a))
    (hbad : ∀ l e, e ≠ 0 → kr c0 c1 c2 c3 c4 c5 d0 d1 e0 e1 e2 e3 e4 e5 a l f0 f1 e a q0 q1 q2 = some (badP e a)) (m : Nat) (hm : 5 ≤ m) :
    F.dog_Parse.L2_dog_reader_more n k0 kr m p ([64], (), [35], (), [84], (), ()) (0 : Int) c0 c1 c2 c3 c4 c5 d0 d1 e0 e1 e2 e3 e4 e5 a last f0 f1 0 0 q0 q1 q2 = match moreR (e0, e1, e2, e3, e4, e5, ()) last p with
      | .error e => some (badP e a)
      | .ok (w, l) => kr c0 c1 c2 c3 c4 c5 d0 d1 w.1 w.2.1 w.2.2.1 w.2.2.2.1 w.2.2.2.2.1 w.2.2.2.2.2.1 a l f0 f1 0 0 q0 q1 q2 := by
  obtain ⟨m, rfl⟩ : ∃ q, m = q + 4 := ⟨m - 4, by omega⟩
  have hw0 : IntKind.wrap .i64 (a + 0) = a := by rw [Int.add_zero, wrap_in (by omega)]
  have w1 : IntKind.wrap .i64 ((0 : Int) + 1) = 1 := rfl
  have w2 : IntKind.wrap .i64 ((1 : Int) + 1) = 2 := rfl
  have w3 : IntKind.wrap .i64 ((2 : Int) + 1) = 3 := rfl
  have b1 : ((1 : Int) == 0) = false := rfl
  have b2 : ((2 : Int) == 0) = false := rfl
  have b3 : ((2 : Int) == 1) = false := rfl
  cases p with
  | nil =>
    rw [moreR]
    rw [F.dog_Parse.L2_dog_reader_more]
    unfold F.dog_Parse.L2_dog_reader_more.step
    dsimp only
    rw [bif_pos (by omega), beq_self_eq_true, cond_true, prefix_nil, some_bind', Bool.not_false, cond_true, w1, F.dog_Parse.L2_dog_reader_more]
    unfold F.dog_Parse.L2_dog_reader_more.step
    dsimp only
    rw [bif_pos (by omega), b1, beq_self_eq_true, cond_true, cond_false, prefix_nil, some_bind', Bool.not_false, cond_true, w2, F.dog_Parse.L2_dog_reader_more]
    unfold F.dog_Parse.L2_dog_reader_more.step
    dsimp only
    rw [bif_pos (by omega), b2, b3, beq_self_eq_true, cond_true, cond_false, cond_false, prefix_nil, some_bind', Bool.not_false, cond_true, w3, F.dog_Parse.L2_dog_reader_more]
    unfold F.dog_Parse.L2_dog_reader_more.step
    dsimp only
    rw [bif_neg (by omega)]
    exact hk0
  | cons x s =>
    simp only [List.length_cons] at hs
    rw [moreR]
    rw [F.dog_Parse.L2_dog_reader_more]
    unfold F.dog_Parse.L2_dog_reader_more.step
    dsimp only
    rw [bif_pos (by omega), beq_self_eq_true, cond_true, prefix_eq, some_bind', w1, hw0]
    by_cases h64 : x = 64
    · rw [if_pos h64, if_pos h64]
      dsimp only
      rw [Bool.not_true, cond_false, bdec]
      by_cases hl : 0 < last
      · rw [if_pos hl, if_pos hl]; exact hk0
      · rw [if_neg hl, if_neg hl, rate_num n (by omega) s (by omega) (by omega), some_bind', rate_bad]
        by_cases h0 : (rateR s).2.1.1 = 0
        · rw [decide_eq_true h0, Bool.not_true, cond_false]
          by_cases h2 : e1 = 2
          · rw [h2, beq_self_eq_true, cond_true]
            by_cases h1 : (rateR s).1 = 1000000
            · rw [h1, beq_self_eq_true, Bool.not_true, cond_false, if_neg (by simp [h0])]
            · rw [beq_eq_false_iff_ne.2 h1, Bool.not_false, cond_true, if_pos (by simp [h1])]
              rw [h2] at hbad
              exact hbad _ _ (by decide)
          · rw [beq_eq_false_iff_ne.2 h2, cond_false, if_neg (by simp [h0, h2])]
        · rw [decide_eq_false h0, Bool.not_false, cond_true, if_pos (by simp [h0])]
          exact hbad _ _ (by decide)
    rw [if_neg h64, if_neg h64]
    dsimp only
    rw [Bool.not_false, cond_true]
    rw [F.dog_Parse.L2_dog_reader_more]
    unfold F.dog_Parse.L2_dog_reader_more.step
    dsimp only
    rw [bif_pos (by omega), b1, beq_self_eq_true, cond_false, cond_true, prefix_eq, some_bind', w2, hw0]
    by_cases h35 : x = 35
    · rw [if_pos h35, if_pos h35]
      dsimp only
      rw [Bool.not_true, cond_false, bdec]
      by_cases hl : 1 < last
      · rw [if_pos hl, if_pos hl]; exact hk0
      · have hsl := splitL_sum 44 s
        have hsn := sumL_len (splitL 44 s)
        rw [if_neg hl, if_neg hl, tagParse_eq n hn s (by omega), some_bind']
        cases hT : tagsR (splitL 44 s) [] 0 with
        | error e =>
          dsimp only
          rw [show ((19 : Int) == 0) = false from rfl, Bool.false_and, Bool.not_false, cond_true]
          exact hbad _ _ (by decide)
        | ok l =>
          have hll := tagsR_len _ _ _ _ hT
          simp only [List.length_nil, Nat.zero_add] at hll
          dsimp only
          rw [beq_self_eq_true, Bool.and_self, Bool.not_true, cond_false, bdec]
          by_cases h32 : 32 < l.length
          · rw [if_pos (by omega), if_pos h32]
            exact hbad _ _ (by decide)
          · rw [if_neg (by omega), if_neg h32, tagNormal_eq n hn l (by omega), some_bind']
    rw [if_neg h35, if_neg h35]
    dsimp only
    rw [Bool.not_false, cond_true]
    rw [F.dog_Parse.L2_dog_reader_more]
    unfold F.dog_Parse.L2_dog_reader_more.step
    dsimp only
    rw [bif_pos (by omega), b2, b3, beq_self_eq_true, cond_false, cond_false, cond_true, prefix_eq, some_bind', w3, hw0]
    by_cases h84 : x = 84
    · rw [if_pos h84, if_pos h84]
      dsimp only
      rw [Bool.not_true, cond_false, bdec]
      by_cases hl : 2 < last
      · rw [if_pos hl, if_pos hl]; exact hk0
      · rw [if_neg hl, if_neg hl, time_eq n s (by omega) (by omega), some_bind', time_bad]
        by_cases h0 : (parseNum s 1 1099511627776).2.1.1 = 0
        · rw [decide_eq_true h0, Bool.not_true, cond_false, if_neg (by simp [h0])]
        · rw [decide_eq_false h0, Bool.not_false, cond_true, if_pos h0]
          exact hbad _ _ (by decide)
    rw [if_neg h84, if_neg h84]
    dsimp only
    rw [Bool.not_false, cond_true]
    rw [F.dog_Parse.L2_dog_reader_more]
    unfold F.dog_Parse.L2_dog_reader_more.step
    dsimp only
    rw [bif_neg (by omega)]
    exact hk0
structure K8OK (s : List UInt8) (ps : List (List UInt8)) (k0 : K8) : Prop where
  bad : ∀ c0 c1 c2 c3 c4 c5 d0 d1 e0 e1 e2 e3 e4 e5 e6 e7 e a q0 q1 q2, e ≠ 0 → k0 s ps c0 c1 c2 c3 c4 c5 d0 d1 e0 e1 e2 e3 e4 e5 e6 e7 e a q0 q1 q2 = some (badP e a)
  ok : 2 ≤ ps.length → ∀ c0 c1 c2 c3 c4 c5 d0 d1 e0 e1 e2 e3 e4 e5 e6 e7 q0 q1 q2, k0 s ps c0 c1 c2 c3 c4 c5 d0 d1 e0 e1 e2 e3 e4 e5 e6 e7 0 0 q0 q1 q2 = some ((e0, e1, e2, e3, e4, e5, ()), (0, 0, ()), ())
  one : ps.length < 2 → ∀ c0 c1 c2 c3 c4 c5 d0 d1 e0 e1 e2 e3 e4 e5 e6 e7 q0 q1 q2, k0 s ps c0 c1 c2 c3 c4 c5 d0 d1 e0 e1 e2 e3 e4 e5 e6 e7 0 0 q0 q1 q2 = some (badP 11 (s.length : Int))
theorem at_step {a : Int} (p : List UInt8) (h : 0 ≤ a ∧ a + p.length + 1 ≤ 100000) : IntKind.wrap .i64 (a + IntKind.wrap .i64 ((p.length : Int) + 1)) = a + p.length + 1 := by
  rw [wrap_succ (by omega), wrap_in (by omega)]; omega
theorem drest_loop (n : Nat) (hn : 200000 ≤ n) (k0 : K8) (s : List UInt8) (ps : List (List UInt8)) (hs : sumL ps ≤ 9000) (hk : K8OK s ps k0) (h2 : 2 ≤ ps.length)
    (c0 : List UInt8) (c1 : Int) (c2 : List DecL) (c3 : Int) (c4 : List TagL) (c5 d0 d1 : Int) (q0 q1 q2 : Nat) :
    ∀ (r : List (List UInt8)) (a : Int) (w : MetD) (last : Int) (i m : Nat), ps.drop i = r → 2 ≤ i → i ≤ ps.length → r.length < m → 0 ≤ a → a + sumL r ≤ 10000 →
    F.dog_Parse.L8 n k0 m s ps ps (ps.length : Int) (i : Int) c0 c1 c2 c3 c4 c5 d0 d1 w.1 w.2.1 w.2.2.1 w.2.2.2.1 w.2.2.2.2.1 w.2.2.2.2.2.1 a last 0 0 q0 q1 q2 = some (outP (restR r a w last)) := by
  intro r
  have hpl := sumL_len ps
  induction r with
  | nil =>
    intro a w last i m h1 hi2 hi hm ha has
    obtain ⟨m, rfl⟩ : ∃ q, m = q + 1 := ⟨m - 1, by omega⟩
    rw [F.dog_Parse.L8]
    unfold F.dog_Parse.L8.step
    dsimp only
    rw [bif_neg (by have := drop_nil' h1; omega), restR]
    exact hk.ok h2 _ _ _ _ _ _ _ _ _ _ _ _ _ _ _ _ _ _ _
  | cons p r ih =>
    intro a w last i m h1 hi2 hi hm ha has
    obtain ⟨m, rfl⟩ : ∃ q, m = q + 1 := ⟨m - 1, by simp at hm; omega⟩
    obtain ⟨l1, g1, t1⟩ := drop_cons h1
    simp only [List.length_cons] at hm
    simp only [sumL, List.map_cons, List.sum_cons] at has
    have hp := sumL_mem (List.mem_of_getElem? g1)
    have hw0 : IntKind.wrap .i64 (a + 0) = a := by rw [Int.add_zero, wrap_in (by omega)]
    rw [F.dog_Parse.L8]
    unfold F.dog_Parse.L8.step
    dsimp only
    rw [bif_pos (by omega), idx_nat, g1, some_bind', bif_neg (by omega : ¬ (i : Int) < 2)]
    refine (more_eq n hn _ _ p (by omega) c0 c1 c2 c3 c4 c5 d0 d1 w.1 w.2.1 w.2.2.1 w.2.2.2.1 w.2.2.2.2.1 w.2.2.2.2.2.1 a last 0 0 q0 q1 q2 (by omega) ?_ ?_ n (by omega)).trans ?_
    · rw [hw0, Bool.false_and, Bool.not_false, cond_true]
      exact hk.bad _ _ _ _ _ _ _ _ _ _ _ _ _ _ _ _ _ _ _ _ _ (by decide)
    · intro l e he
      rw [beq_eq_false_iff_ne.2 he, Bool.false_and, Bool.not_false, cond_true]
      exact hk.bad _ _ _ _ _ _ _ _ _ _ _ _ _ _ _ _ _ _ _ _ _ he
    · have hww : (w.1, w.2.1, w.2.2.1, w.2.2.2.1, w.2.2.2.2.1, w.2.2.2.2.2.1, ()) = w := rfl
      rw [hww, restR]
      cases moreR w last p with
      | error e => rfl
      | ok x =>
        obtain ⟨w', l'⟩ := x
        dsimp only
        rw [at_step p (by omega), wrap_succ (by omega)]
        exact ih (a + p.length + 1) w' l' (i + 1) m t1 (by omega) (by omega) (by omega) (by omega) (by simp only [sumL]; omega)
theorem nameB (s : List UInt8) : (((textF 1 s 1 200).1 == 0) && ((textF 1 s 1 200).2.1 == 0)) = nameOK s := textF_both 1 s 1 200
theorem lines_eq (n : Nat) (hn : 200000 ≤ n) (k0 : K8) (s : List UInt8) (ps : List (List UInt8)) (hne : ps ≠ []) (hs : sumL ps ≤ 9000) (hsl : s.length ≤ 9000) (hk : K8OK s ps k0) (c0 : List UInt8) (c1 : Int) (c2 : List DecL) (c3 : Int) (c4 : List TagL) (c5 d0 d1 : Int) (q0 q1 : Nat) :
    F.dog_Parse.L8 n k0 n s ps ps (ps.length : Int) (0 : Int) c0 c1 c2 c3 c4 c5 d0 d1 [] 0 [] 1000000 [] 0 0 0 0 0 q0 q1 0 = some (outP (linesR s ps)) := by
  have hpl := sumL_len ps
  cases ps with
  | nil => exact absurd rfl hne
  | cons p r =>
    obtain ⟨m, hm⟩ : ∃ q, n = q + 2 := ⟨n - 2, by omega⟩
    have hp := sumL_mem (show p ∈ p :: r by simp)
    have hseg := seg_le 58 p
    have hrn := restN_le 58 p
    have hcut : F.strings_Cut n p [58] = some (seg 58 p, restN 58 p, decide (58 ∈ p), ()) := cut_eq n 58 (by omega)
    have hw0 : ∀ x : Int, 0 ≤ x ∧ x ≤ 100000 → IntKind.wrap .i64 (0 + x) = x := fun x hx => by rw [Int.zero_add, wrap_in (by omega)]
    have key : ∀ m, 20001 ≤ m + 1 → F.dog_Parse.L8 n k0 (m + 1) s (p :: r) (p :: r) ((p :: r).length : Int) (0 : Int) c0 c1 c2 c3 c4 c5 d0 d1 [] 0 [] 1000000 [] 0 0 0 0 0 q0 q1 0 = match firstR p with
        | .error e => some (badP e.1 e.2)
        | .ok x => F.dog_Parse.L8 n k0 m s (p :: r) (p :: r) ((p :: r).length : Int) ((1 : Nat) : Int) c0 c1 c2 c3 c4 c5 d0 d1 x.1 0 x.2 1000000 [] 0 ((p.length : Int) + 1) 0 0 0 q0 q1 x.2.length := by
      intro m hm
      rw [F.dog_Parse.L8]
      unfold F.dog_Parse.L8.step
      dsimp only
      rw [bif_pos (by simp only [List.length_cons]; omega), show idx (p :: r) 0 = some p from rfl, some_bind', bif_pos (by omega : (0 : Int) < 2), beq_self_eq_true, cond_true, hcut, some_bind']
      dsimp only
      rw [text_cls n 1 _ 1 200 (by omega) (by omega), some_bind', nameB]
      unfold firstR
      cases hnm : nameOK (seg 58 p)
      · rw [Bool.not_false, cond_true, if_pos rfl, hw0 0 (by omega), Bool.false_and, Bool.not_false, cond_true]
        exact hk.bad _ _ _ _ _ _ _ _ _ _ _ _ _ _ _ _ _ _ _ _ _ (by decide)
      · rw [Bool.not_true, cond_false, if_neg (by simp)]
        by_cases hin : (58 : UInt8) ∈ p
        · rw [decide_eq_true hin, Bool.not_true, cond_false, if_neg (by simp [hin]), split_eq n 58 (by omega), some_bind']
          have hsum := splitL_sum 58 (restN 58 p)
          have hsn := sumL_len (splitL 58 (restN 58 p))
          have hrl : (seg 58 p).length + 1 + (restN 58 p).length ≤ p.length := by
            unfold restN
            rw [if_pos hin, List.length_drop]
            have := seg_lt hin
            omega
          have hA : IntKind.wrap .i64 (((seg 58 p).length : Int) + 1) = ((seg 58 p).length : Int) + 1 := wrap_in (by omega)
          have hP : IntKind.wrap .i64 ((p.length : Int) + 1) = (p.length : Int) + 1 := wrap_in (by omega)
          rw [hA, hP]
          refine (first_loop n hn _ _ (splitL 58 (restN 58 p)) (by omega) c0 c1 c2 c3 c4 c5 d0 d1 (seg 58 p) 0 1000000 [] 0 0 0 0 q0 q1 ?_ (splitL 58 (restN 58 p)) [] _ 0 n rfl (by simp) (by omega) (by omega) (by omega) (by omega)).trans ?_
          · intro acc a l
            rw [show ((17 : Int) == 0) = false from rfl, Bool.false_and, Bool.not_false, cond_true]
            exact hk.bad _ _ _ _ _ _ _ _ _ _ _ _ _ _ _ _ _ _ _ _ _ (by decide)
          · cases readVals (splitL 58 (restN 58 p)) [] (((seg 58 p).length : Int) + 1) with
            | error b => rfl
            | ok vs =>
              dsimp only
              rw [Bool.and_self, Bool.not_true, cond_false, hw0 ((p.length : Int) + 1) (by omega)]
              rfl
        · rw [decide_eq_false hin, Bool.not_false, cond_true, if_pos hin, hw0 _ (by omega), Bool.false_and, Bool.not_false, cond_true]
          exact hk.bad _ _ _ _ _ _ _ _ _ _ _ _ _ _ _ _ _ _ _ _ _ (by decide)
    have key2 : ∀ m, 20001 ≤ m + 1 → ∀ nm (vs : List DecL) (a : Int) (l : Nat), a = (p.length : Int) + 1 → F.dog_Parse.L8 n k0 (m + 1) s (p :: r) (p :: r) ((p :: r).length : Int) ((1 : Nat) : Int) c0 c1 c2 c3 c4 c5 d0 d1 nm 0 vs 1000000 [] 0 a 0 0 0 q0 q1 l = some (outP (secondR s p nm vs r)) := by
      intro m hm nm vs a l hA
      rw [F.dog_Parse.L8]
      unfold F.dog_Parse.L8.step
      dsimp only
      cases r with
      | nil =>
        rw [bif_neg (by simp), secondR]
        exact hk.one (by simp) _ _ _ _ _ _ _ _ _ _ _ _ _ _ _ _ _ _ _
      | cons q r =>
        have hq := sumL_mem (show q ∈ p :: q :: r by simp)
        rw [bif_pos (by simp only [List.length_cons]; omega), show idx (p :: q :: r) ((1 : Nat) : Int) = some q from rfl, some_bind', bif_pos (by omega), show (((1 : Nat) : Int) == 0) = false from rfl, cond_false, show (((1 : Nat) : Int) == 1) = true from rfl, cond_true, kind_eq n (by omega), some_bind']
        have hwa : IntKind.wrap .i64 (a + 0) = a := by rw [Int.add_zero, wrap_in (by omega)]
        rw [secondR]
        by_cases h0 : kindR q = 0
        · rw [if_pos h0, if_pos h0]
          dsimp only
          rw [show ((16 : Int) == 0) = false from rfl, Bool.not_false, cond_true, Bool.false_and, Bool.not_false, cond_true, hwa, hA]
          exact hk.bad _ _ _ _ _ _ _ _ _ _ _ _ _ _ _ _ _ _ _ _ _ (by decide)
        · rw [if_neg h0, if_neg h0]
          dsimp only
          rw [beq_self_eq_true, Bool.not_true, cond_false, Bool.and_self, Bool.not_true, cond_false]
          simp only [sumL, List.map_cons, List.sum_cons, List.length_cons] at hs hpl
          rw [at_step q (by omega), show IntKind.wrap .i64 (((1 : Nat) : Int) + 1) = ((2 : Nat) : Int) from rfl, hA]
          have := drest_loop n hn k0 s (p :: q :: r) (by simp only [sumL, List.map_cons, List.sum_cons]; omega) hk (by simp) c0 c1 c2 c3 c4 c5 d0 d1 q0 q1 l r ((p.length : Int) + 1 + (q.length + 1)) (nm, kindR q, vs, 1000000, [], 0, ()) 0 2 m rfl (by omega) (by simp) (by omega) (by omega) (by simp only [sumL]; omega)
          rw [show (p.length : Int) + 1 + (q.length + 1) = (p.length : Int) + 1 + q.length + 1 by omega] at this ⊢
          exact this
    have k1 := key (m + 1) (by omega)
    have k2 := key2 m (by omega)
    have hmm : n = m + 1 + 1 := hm
    rw [linesR]
    have goal : ∀ j, j = m + 1 + 1 → F.dog_Parse.L8 n k0 j s (p :: r) (p :: r) ((p :: r).length : Int) (0 : Int) c0 c1 c2 c3 c4 c5 d0 d1 [] 0 [] 1000000 [] 0 0 0 0 0 q0 q1 0 = some (outP (match firstR p with
      | .error e => .error e
      | .ok x => secondR s p x.1 x.2 r)) := by
      intro j hj
      rw [hj, k1]
      cases firstR p with
      | error e => rfl
      | ok x => exact k2 x.1 x.2 _ _ rfl
    exact goal n hmm
theorem parse_eq (n : Nat) (hn : 200000 ≤ n) (s : List UInt8) (hs : s.length ≤ 1000000) : F.dog_Parse n s = some (parseD s) := by
  unfold F.dog_Parse parseD
  rw [bdec]
  by_cases h : 8192 < s.length
  · rw [if_pos (by omega), if_pos h]; rfl
  · rw [if_neg (by omega), if_neg h, split_eq n 124 hs, some_bind']
    have hsum := splitL_sum 124 s
    refine lines_eq n hn _ s (splitL 124 s) (splitL_ne 124 s) (by omega) (by omega) ⟨?_, ?_, ?_⟩ [] 0 [] 0 [] 0 0 0 0 0
    · intro c0 c1 c2 c3 c4 c5 d0 d1 e0 e1 e2 e3 e4 e5 e6 e7 e a q0 q1 q2 he
      rw [beq_eq_false_iff_ne.2 he, Bool.false_and, cond_false, Bool.not_false, cond_true]
      rfl
    · intro h2 c0 c1 c2 c3 c4 c5 d0 d1 e0 e1 e2 e3 e4 e5 e6 e7 q0 q1 q2
      rw [beq_self_eq_true, Bool.and_self, cond_true, bif_neg (by omega), Bool.not_true, cond_false]
    · intro h2 c0 c1 c2 c3 c4 c5 d0 d1 e0 e1 e2 e3 e4 e5 e6 e7 q0 q1 q2
      rw [beq_self_eq_true, Bool.and_self, cond_true, bif_pos (by omega), Bool.false_and, Bool.not_false, cond_true]
      rfl
end Go.AM
set_option linter.unusedVariables false
set_option linter.unusedSimpArgs false
namespace Go.AM
theorem right_id {m : MetD} (h : RightM m) (hs : StrictT m.2.2.2.2.1) : normM m = (m, 0, ()) := by
  have hv := (right_vals h).1
  have e1 : m.2.2.1.map normV = m.2.2.1 := by
    have : m.2.2.1.map normV = m.2.2.1.map id := List.map_congr_left (fun d hd => (normV_id (hv d hd).1 (hv d hd).2).2)
    rw [this, List.map_id]
  have e2 : valsM m = m := by unfold valsM; rw [e1]
  unfold normM
  rw [e2, if_pos h.chk]
  unfold formM
  rw [e1, normT_id hs]
theorem line_right (n : Nat) (hn : 200000 ≤ n) {m : MetD} (h : RightM m) (hs : StrictT m.2.2.2.2.1) : F.dog_Line n m = some (lineD m, 0, ()) := by
  rw [line_eq n hn m h.ok]
  unfold lineM
  rw [right_id h hs, if_pos rfl]
theorem refkind_eq (n : Nat) (hn : 100 ≤ n) (s : List UInt8) : F.ref11_Kind n s = some (kindR s) := by
  obtain ⟨m, hm⟩ : ∃ q, n = q + 6 := ⟨n - 6, by omega⟩
  unfold F.ref11_Kind
  rw [show F.ref11_Words n = some [[99], [103], [109, 115], [104], [100]] from rfl, some_bind']
  have L : ∀ (k0 : Unit → Option Int) (kr : Int → Option Int), F.ref11_Kind.L3 n k0 kr (m + 6) s [[99], [103], [109, 115], [104], [100]] (0 : Int) = if s = [99] then kr 1 else if s = [103] then kr 2 else if s = [109, 115] then kr 3 else if s = [104] then kr 4 else if s = [100] then kr 5 else k0 () := by
    intro k0 kr
    have e1 : ([99] == s) = decide (s = [99]) := by by_cases h : s = [99] <;> simp [h]; exact fun h' => h h'.symm
    have e2 : ([103] == s) = decide (s = [103]) := by by_cases h : s = [103] <;> simp [h]; exact fun h' => h h'.symm
    have e3 : ([109, 115] == s) = decide (s = [109, 115]) := by by_cases h : s = [109, 115] <;> simp [h]; exact fun h' => h h'.symm
    have e4 : ([104] == s) = decide (s = [104]) := by by_cases h : s = [104] <;> simp [h]; exact fun h' => h h'.symm
    have e5 : ([100] == s) = decide (s = [100]) := by by_cases h : s = [100] <;> simp [h]; exact fun h' => h h'.symm
    show (bif [99] == s then kr 1 else bif [103] == s then kr 2 else bif [109, 115] == s then kr 3 else bif [104] == s then kr 4 else bif [100] == s then kr 5 else k0 ()) = _
    rw [e1, e2, e3, e4, e5]
    simp only [bdec]
  rw [hm] at L ⊢
  refine (L _ _).trans ?_
  unfold kindR
  repeat' split
  all_goals rfl
def exM : MetD := ([97], 3, [(false, 1, 0), (false, 25, -1)], 500000, [([97], [120]), ([98], [])], 7, ())
theorem ex_right : RightM exM ∧ StrictT exM.2.2.2.2.1 ∧ lineD exM = [97, 58, 49, 58, 50, 46, 53, 124, 109, 115, 124, 64, 48, 46, 53, 124, 35, 97, 58, 120, 44, 98, 124, 84, 55] := by
  have d1 : Lib.decDigits 1 = [49] := dd_small (by omega)
  have d7 : Lib.decDigits 7 = [55] := dd_small (by omega)
  have d25 : Lib.decDigits 25 = [50, 53] := dd_inv (l := [50, 53]) rfl ⟨by simp, by simp⟩
  have d15 : Lib.decDigits 1500000 = [49, 53, 48, 48, 48, 48, 48] := dd_inv (l := [49, 53, 48, 48, 48, 48, 48]) rfl ⟨by simp, by simp⟩
  have c1 : decC (false, 1, 0) = 0 := by
    show checkR false 1 0 = 0
    unfold checkR; rw [d1]; rfl
  have c25 : decC (false, 25, -1) = 0 := by
    show checkR false 25 (-1) = 0
    unfold checkR; rw [d25]; rfl
  have t1 : textL (false, 1, 0) = [49] := by
    show textD false 1 0 = _
    unfold textD; rw [d1]; rfl
  have t25 : textL (false, 25, -1) = [50, 46, 53] := by
    show textD false 25 (-1) = _
    unfold textD wideW; rw [d25]; rfl
  have rt : (rateText 500000).1 = [48, 46, 53] := by
    unfold rateText pad6
    rw [if_neg (by decide), if_neg (by decide), show 1000000 + (500000 : Int).toNat = 1500000 from rfl, d15]; rfl
  refine ⟨⟨⟨by decide, ⟨by decide, fun d hd => ?_⟩, by decide, fun t ht => ?_⟩, ?_⟩, ?_, ?_⟩
  · have : d = (false, 1, 0) ∨ d = (false, 25, -1) := by simpa [exM] using hd
    rcases this with rfl | rfl
    · exact ⟨trivial, by decide, by decide⟩
    · exact ⟨trivial, by decide, by decide⟩
  · have : t = ([97], [120]) ∨ t = ([98], []) := by simpa [exM] using ht
    rcases this with rfl | rfl
    · exact ⟨by decide, by decide⟩
    · exact ⟨by decide, by decide⟩
  · have hv : valsB exM.2.2.1 = true := by
      show valsB [(false, 1, 0), (false, 25, -1)] = true
      unfold valsB
      simp [c1, c25]
    unfold chkM
    rw [hv]
    rfl
  · refine List.pairwise_cons.2 ⟨fun x hx => ?_, List.pairwise_singleton _ _⟩
    have : x = ([98], []) := by simpa using hx
    subst this
    rfl
  · show [97] ++ valsT [(false, 1, 0), (false, 25, -1)] ++ ([124] ++ wordT 3) ++ rateP 500000 ++ tagsP [([97], [120]), ([98], [])] ++ timeP 7 = _
    have v : valsT [(false, 1, 0), (false, 25, -1)] = [58, 49, 58, 50, 46, 53] := by
      unfold valsT
      simp [t1, t25]
    have r : rateP 500000 = [124, 64, 48, 46, 53] := by unfold rateP; rw [rt]; rfl
    have t : timeP 7 = [124, 84, 55] := by
      unfold timeP
      rw [show (7 : Int).toNat = 7 from rfl, d7]; rfl
    rw [v, r, t]
    rfl
theorem awake11 (n : Nat) (hn : 200000 ≤ n) : F.law11_awake n = some true := by
  unfold F.law11_awake
  obtain ⟨h1, h2, h3⟩ := ex_right
  have q1 : parseD [97, 58, 49, 58, 50, 46, 53, 48, 124, 109, 115, 124, 64, 48, 46, 53, 124, 35, 98, 44, 97, 58, 120, 124, 84, 55] = (exM, (0, 0, ()), ()) := by kernel_rfl
  have q2 : parseD [97, 58, 49, 124, 103, 124, 64, 48, 46, 53] = (zeroM, (18, 6, ()), ()) := by kernel_rfl
  have q3 : parseD [97, 58, 49, 124, 99, 124, 84, 55, 124, 64, 49] = (zeroM, (11, 9, ()), ()) := by kernel_rfl
  rw [parse_eq n hn _ (by simp), parse_eq n hn _ (by simp), parse_eq n hn _ (by simp), q1, q2, q3]
  have hl : F.dog_Line n (exM.1, exM.2.1, exM.2.2.1, exM.2.2.2.1, exM.2.2.2.2.1, exM.2.2.2.2.2.1, ()) = some (lineD exM, 0, ()) := line_right n hn h1 h2
  have he : F.ref07_Equal n (exM.1, exM.2.1, exM.2.2.1, exM.2.2.2.1, exM.2.2.2.2.1, exM.2.2.2.2.2.1, ()) ([97], (3 : Int), [(false, 1, 0), (false, 25, -1)], (500000 : Int), [([97], [120]), ([98], [])], (7 : Int), ()) = some true := refequal_refl n hn exM (by decide) (by decide)
  simp only [some_bind', hl, he, h3]
  rfl
theorem dog_words (n : Nat) (hn : 200000 ≤ n) (k : Int) (s : List UInt8) : F.law11_DogWords n k s = some true := by
  unfold F.law11_DogWords
  rw [awake11 n hn, word_eq, kind_eq n (by omega), refkind_eq n (by omega)]
  simp only [some_bind']
  by_cases h : 100 < s.length
  · rw [bif_pos (by omega)]
  rw [bif_neg (by omega)]
  have K : (bif kindR s == (0 : Int) then (bif (if kindR s = 0 then ((0 : Int), (16 : Int), ()) else (kindR s, 0, ())).1 == (0 : Int) then (bif (if kindR s = 0 then ((0 : Int), (16 : Int), ()) else (kindR s, 0, ())).2.1 == (16 : Int) then some true else some false) else some false) else (bif (if kindR s = 0 then ((0 : Int), (16 : Int), ()) else (kindR s, 0, ())).1 == kindR s then (bif (if kindR s = 0 then ((0 : Int), (16 : Int), ()) else (kindR s, 0, ())).2.1 == (0 : Int) then some true else some false) else some false)) = some true := by
    by_cases h0 : kindR s = 0
    · rw [if_pos h0, h0]; rfl
    · rw [if_neg h0, beq_eq_false_iff_ne.2 h0, cond_false]
      simp
  by_cases h1 : k < 1
  · have hk : kindB k = false := by unfold kindB; rw [decide_eq_false (by omega)]; rfl
    rw [bif_pos h1, hk]
    simp only [Bool.false_eq_true, if_false]
    exact K
  · rw [bif_neg h1]
    by_cases h2 : k > 5
    · have hk : kindB k = false := by unfold kindB; rw [decide_eq_false (by omega : ¬ k ≤ 5), Bool.and_false]
      rw [bif_pos h2, hk]
      simp only [Bool.false_eq_true, if_false]
      exact K
    · rw [bif_neg h2]
      have hk : k = 1 ∨ k = 2 ∨ k = 3 ∨ k = 4 ∨ k = 5 := by omega
      rcases hk with rfl | rfl | rfl | rfl | rfl <;> exact K
theorem few_loop (n : Nat) (X : Type) (k0 : List UInt8 → Int → List DecL → Int → List TagL → Int → Option X) (kr : Bool → List UInt8 → Int → List DecL → Int → List TagL → Int → Option X) (ts : List TagL) (hs : ts.length ≤ 1000) (b0 : List UInt8) (b1 : Int) (b2 : List DecL) (b3 : Int) (b5 : Int) : ∀ (r : List TagL) (k m : Nat), ts.drop k = r → r.length < m →
    F.law07_Few.L4 n k0 kr m (k : Int) b0 b1 b2 b3 ts b5 = bif r.all (fun t => decide (t.1.length ≤ 150) && decide (t.2.length ≤ 150)) then k0 b0 b1 b2 b3 ts b5 else kr false b0 b1 b2 b3 ts b5 := by
  intro r
  induction r with
  | nil =>
    intro k m h1 hm
    obtain ⟨m, rfl⟩ : ∃ q, m = q + 1 := ⟨m - 1, by omega⟩
    rw [F.law07_Few.L4]
    unfold F.law07_Few.L4.step
    dsimp only
    rw [bif_neg (by have := drop_nil' h1; omega)]
    rfl
  | cons t r ih =>
    intro k m h1 hm
    obtain ⟨m, rfl⟩ : ∃ q, m = q + 1 := ⟨m - 1, by simp at hm; omega⟩
    obtain ⟨l1, g1, t1⟩ := drop_cons h1
    rw [F.law07_Few.L4]
    unfold F.law07_Few.L4.step
    dsimp only
    rw [bif_pos (by omega), idx_nat, g1, some_bind', some_bind', wrap_succ (by omega), ih (k + 1) m t1 (by simp at hm; omega), List.all_cons]
    by_cases e1 : t.1.length ≤ 150
    · rw [bif_neg (by omega), decide_eq_true e1]
      by_cases e2 : t.2.length ≤ 150
      · rw [bif_neg (by omega), decide_eq_true e2]; rfl
      · rw [bif_pos (by omega), decide_eq_false e2]; rfl
    · rw [bif_pos (by omega), decide_eq_false e1]; rfl
def fewB (m : MetD) : Bool := decide (m.1.length ≤ 300) && (decide (m.2.2.1.length ≤ 80) && (decide (m.2.2.2.2.1.length ≤ 40) && m.2.2.2.2.1.all (fun t => decide (t.1.length ≤ 150) && decide (t.2.length ≤ 150))))
theorem few_eq (n : Nat) (hn : 200000 ≤ n) (m : MetD) : F.law07_Few n m = some (fewB m) := by
  obtain ⟨nm, k, vs, r, ts, t, _⟩ := m
  unfold F.law07_Few fewB
  dsimp only
  by_cases h1 : nm.length ≤ 300
  · rw [bif_neg (by omega), decide_eq_true h1, Bool.true_and]
    by_cases h2 : vs.length ≤ 80
    · rw [bif_neg (by omega), decide_eq_true h2, Bool.true_and]
      by_cases h3 : ts.length ≤ 40
      · rw [bif_neg (by omega), decide_eq_true h3, Bool.true_and]
        refine (few_loop n Bool _ _ ts (by omega) nm k vs r t ts 0 n rfl (by omega)).trans ?_
        exact bif_some _ _ _ |>.trans (by cases ts.all (fun t => decide (t.1.length ≤ 150) && decide (t.2.length ≤ 150)) <;> rfl)
      · rw [bif_pos (by omega), decide_eq_false h3]; rfl
    · rw [bif_pos (by omega), decide_eq_false h2]; rfl
  · rw [bif_pos (by omega), decide_eq_false h1]; rfl
theorem few_ok {m : MetD} (hw : MetWf m) (h : fewB m = true) : MetOK m := by
  unfold fewB at h
  simp only [Bool.and_eq_true, decide_eq_true_eq] at h
  obtain ⟨h1, h2, h3, h4⟩ := h
  refine ⟨by omega, ⟨by omega, hw⟩, by omega, fun t ht => ?_⟩
  have := List.all_eq_true.1 h4 t ht
  simp only [Bool.and_eq_true, decide_eq_true_eq] at this
  exact ⟨by omega, by omega⟩
end Go.AM
set_option linter.unusedVariables false
set_option linter.unusedSimpArgs false
namespace Go.AM
end Go.AM
set_option linter.unusedVariables false
set_option linter.unusedSimpArgs false
namespace Go.AM
theorem seg_miss {c : UInt8} {s : List UInt8} (h : c ∉ s) : seg c s = s ∧ restN c s = [] := ⟨seg_all h, by unfold restN; rw [if_neg h]⟩
end Go.AM
set_option linter.unusedVariables false
set_option linter.unusedSimpArgs false
namespace Go.AM
theorem tagS_ok {t : TagL} (h : TagS t) : TagLOK t := ⟨by have := h.1; omega, by have := h.2; omega⟩
end Go.AM
set_option linter.unusedVariables false
set_option linter.unusedSimpArgs false
namespace Go.AM
end Go.AM
set_option linter.unusedVariables false
set_option linter.unusedSimpArgs false
namespace Go.AM
structure InvM (m : MetD) : Prop where
  nm : nameOK m.1 = true
  kd : kindB m.2.1 = true
  vs : (∀ d ∈ m.2.2.1, DecLOK d ∧ decC d = 0) ∧ 1 ≤ m.2.2.1.length ∧ m.2.2.1.length ≤ 64
  rt : rateB m.2.1 m.2.2.2.1 = true
  tg : (∀ t ∈ m.2.2.2.2.1, tagGood t = true) ∧ m.2.2.2.2.1.length ≤ 32 ∧ StrictT m.2.2.2.2.1
  tm : timeB m.2.2.2.2.2.1 = true
theorem InvM.right {m : MetD} (h : InvM m) : RightM m := by
  have hn := nameOK_le h.nm
  refine ⟨⟨by omega, ⟨by have := h.vs.2.2; omega, fun d hd => (h.vs.1 d hd).1⟩, by have := h.tg.2.1; omega, fun t ht => tagS_ok (tagGood_le (h.tg.1 t ht))⟩, ?_⟩
  have hv : valsB m.2.2.1 = true := by
    unfold valsB
    simp only [Bool.and_eq_true, decide_eq_true_eq]
    exact ⟨h.vs.2.1, h.vs.2.2, List.all_eq_true.2 (fun d hd => by simp [(h.vs.1 d hd).2])⟩
  have ht : tagsB m.2.2.2.2.1 = true := by
    unfold tagsB
    simp only [Bool.and_eq_true, decide_eq_true_eq]
    exact ⟨h.tg.2.1, List.all_eq_true.2 h.tg.1⟩
  unfold chkM
  rw [h.nm, h.kd, hv, h.rt, ht, h.tm]
  rfl
theorem RightM.inv {m : MetD} (h : RightM m) (hs : StrictT m.2.2.2.2.1) : InvM m := by
  obtain ⟨c1, c2, c3, c4, c5, c6⟩ := chk_zero h.chk
  have ht := right_tags h
  exact ⟨c1, c2, right_vals h, c4, ⟨fun t htm => (ht.1 t htm).2, ht.2, hs⟩, c6⟩
end Go.AM
set_option linter.unusedVariables false
set_option linter.unusedSimpArgs false
namespace Go.AM
theorem splitL_app {c : UInt8} {a : List UInt8} (h : c ∉ a) (t : List UInt8) : splitL c (a ++ c :: t) = a :: splitL c t := by
  rw [splitL_seg, if_pos (by simp)]
  have e := seg_app h t
  have e2 : restN c (a ++ c :: t) = t := by
    unfold restN
    rw [if_pos (by simp), e]
    simp
  rw [e, e2]
theorem joinTail_cons (c : UInt8) (y : List UInt8) (r : List (List UInt8)) : Lib.joinTail [c] (y :: r) = c :: Lib.join (y :: r) [c] := by
  rw [Lib.join_cons]; simp [Lib.joinTail]
theorem splitL_join {c : UInt8} : ∀ (l : List (List UInt8)), l ≠ [] → (∀ x ∈ l, c ∉ x) → splitL c (Lib.join l [c]) = l
  | [], h, _ => absurd rfl h
  | [x], _, h => by rw [Lib.join_one, splitL_miss c x (h x (by simp))]
  | x :: y :: r, _, h => by
    rw [Lib.join_cons, joinTail_cons, splitL_app (h x (by simp)), splitL_join (y :: r) (by simp) (fun z hz => h z (List.mem_cons_of_mem _ hz))]
theorem cls_free_all : ∀ i : Fin 256, (cls 1 (UInt8.ofNat i.val) = true → UInt8.ofNat i.val ≠ 58 ∧ UInt8.ofNat i.val ≠ 124) ∧ (cls 2 (UInt8.ofNat i.val) = true → UInt8.ofNat i.val ≠ 58 ∧ UInt8.ofNat i.val ≠ 124 ∧ UInt8.ofNat i.val ≠ 44) ∧ (cls 3 (UInt8.ofNat i.val) = true → UInt8.ofNat i.val ≠ 124 ∧ UInt8.ofNat i.val ≠ 44) ∧ (isDig (UInt8.ofNat i.val) = true → UInt8.ofNat i.val ≠ 58 ∧ UInt8.ofNat i.val ≠ 124) := by decide +kernel
theorem cls_free (b : UInt8) : (cls 1 b = true → b ≠ 58 ∧ b ≠ 124) ∧ (cls 2 b = true → b ≠ 58 ∧ b ≠ 124 ∧ b ≠ 44) ∧ (cls 3 b = true → b ≠ 124 ∧ b ≠ 44) ∧ (isDig b = true → b ≠ 58 ∧ b ≠ 124) := by
  have h := cls_free_all ⟨b.toNat, by have := b.toNat_lt; omega⟩
  simpa using h
theorem name_bytes {s : List UInt8} (h : nameOK s = true) : (58 : UInt8) ∉ s ∧ (124 : UInt8) ∉ s := by
  rw [nameOK_eq] at h
  simp only [Bool.and_eq_true] at h
  exact ⟨fun hm => ((cls_free 58).1 (List.all_eq_true.1 h.1 _ hm)).1 rfl, fun hm => ((cls_free 124).1 (List.all_eq_true.1 h.1 _ hm)).2 rfl⟩
theorem key_bytes {t : TagL} (h : tagGood t = true) : (58 : UInt8) ∉ t.1 ∧ (124 : UInt8) ∉ t.1 ∧ (44 : UInt8) ∉ t.1 ∧ (124 : UInt8) ∉ t.2 ∧ (44 : UInt8) ∉ t.2 := by
  unfold tagGood at h
  simp only [Bool.and_eq_true, beq_iff_eq] at h
  have h1 := (textF_zero h.1).2.2
  have h2 := (textF_zero h.2).2.2
  exact ⟨fun hm => ((cls_free 58).2.1 (List.all_eq_true.1 h1 _ hm)).1 rfl, fun hm => ((cls_free 124).2.1 (List.all_eq_true.1 h1 _ hm)).2.1 rfl, fun hm => ((cls_free 44).2.1 (List.all_eq_true.1 h1 _ hm)).2.2 rfl,
    fun hm => ((cls_free 124).2.2.1 (List.all_eq_true.1 h2 _ hm)).1 rfl, fun hm => ((cls_free 44).2.2.1 (List.all_eq_true.1 h2 _ hm)).2 rfl⟩
theorem one_bytes {t : TagL} (h : tagGood t = true) : (124 : UInt8) ∉ oneT t ∧ (44 : UInt8) ∉ oneT t := by
  obtain ⟨h1, h2, h3, h4, h5⟩ := key_bytes h
  unfold oneT
  split
  · exact ⟨h2, h3⟩
  · exact ⟨by simp [h2, h4], by simp [h3, h5]⟩
theorem dig_bytes {l : List UInt8} (h : Digs l) : (58 : UInt8) ∉ l ∧ (124 : UInt8) ∉ l :=
  ⟨fun hm => ((cls_free 58).2.2.2 (List.all_eq_true.1 h _ hm)).1 rfl, fun hm => ((cls_free 124).2.2.2 (List.all_eq_true.1 h _ hm)).2 rfl⟩
theorem textL_bytes (d : DecL) : (58 : UInt8) ∉ textL d ∧ (124 : UInt8) ∉ textL d := by
  refine ⟨fun hm => ?_, textD_free _ _ _⟩
  rcases textD_bytes _ _ _ _ hm with ⟨h, _⟩ | h | h
  · cases h
  · exact absurd h (by decide)
  · cases h
theorem readVals_back : ∀ (vs : List DecL) (acc : List DecL) (a : Int), (∀ d ∈ vs, DecLOK d ∧ decC d = 0) → acc.length + vs.length ≤ 64 → readVals (vs.map textL) acc a = .ok (acc ++ vs)
  | [], acc, a, _, _ => by simp [readVals]
  | d :: vs, acc, a, h, hl => by
    obtain ⟨hd, h0⟩ := h d (by simp)
    obtain ⟨neg, c, e, rfl, hc, he⟩ := decL_nat hd
    have hp : parseR (textL (neg, (c : Int), e)) = ((neg, (c : Int), e, ()), (0, 0, ()), ()) := parse_text neg c hc e h0
    simp only [List.length_cons] at hl
    rw [List.map_cons, readVals, hp, if_pos ⟨rfl, by omega⟩, readVals_back vs _ _ (fun x hx => h x (List.mem_cons_of_mem _ hx)) (by simp; omega)]
    simp
theorem one_parts {t : TagL} (h : tagGood t = true) : seg 58 (oneT t) = t.1 ∧ restN 58 (oneT t) = t.2 ∧ ¬ (58 ∈ oneT t ∧ t.2 = []) := by
  obtain ⟨h1, h2, h3, h4, h5⟩ := key_bytes h
  unfold oneT
  by_cases h0 : t.2 = []
  · rw [if_pos h0]
    obtain ⟨e1, e2⟩ := seg_miss h1
    rw [e1, e2, h0]
    exact ⟨rfl, rfl, fun hh => h1 hh.1⟩
  · rw [if_neg h0]
    have e : t.1 ++ ([58] ++ t.2) = t.1 ++ 58 :: t.2 := by simp
    rw [e]
    have e1 := seg_app h1 t.2
    refine ⟨e1, ?_, fun hh => h0 hh.2⟩
    unfold restN
    rw [if_pos (by simp), e1]
    simp
theorem tagsR_back : ∀ (ts acc : List TagL) (a : Int), (∀ t ∈ ts, tagGood t = true) → tagsR (ts.map oneT) acc a = .ok (acc ++ ts)
  | [], acc, a, _ => by simp [tagsR]
  | t :: ts, acc, a, h => by
    obtain ⟨h1, h2, h3⟩ := one_parts (h t (by simp))
    have hg : tagGood (t.1, t.2) = true := h t (by simp)
    rw [List.map_cons, tagsR, h1, h2, if_pos ⟨hg, h3⟩, tagsR_back ts _ _ (fun x hx => h x (List.mem_cons_of_mem _ hx))]
    simp
theorem valsT_join {vs : List DecL} (h : vs ≠ []) : valsT vs = 58 :: Lib.join (vs.map textL) [58] := by
  cases vs with
  | nil => exact absurd rfl h
  | cons d vs =>
    rw [List.map_cons, ← joinTail_cons]
    simp [valsT, Lib.joinTail]
    rfl
theorem first_back {nm : List UInt8} {vs : List DecL} (hn : nameOK nm = true) (hv : (∀ d ∈ vs, DecLOK d ∧ decC d = 0) ∧ 1 ≤ vs.length ∧ vs.length ≤ 64) : firstR (nm ++ valsT vs) = .ok (nm, vs) := by
  have hne : vs ≠ [] := fun e => by have := hv.2.1; rw [e] at this; simp at this
  have hb := (name_bytes hn).1
  rw [valsT_join hne]
  have e1 := seg_app hb (Lib.join (vs.map textL) [58])
  have e2 : restN 58 (nm ++ 58 :: Lib.join (vs.map textL) [58]) = Lib.join (vs.map textL) [58] := by
    unfold restN
    rw [if_pos (by simp), e1]
    simp
  unfold firstR
  rw [e1, e2, if_neg (by simp [hn]), if_neg (by simp), splitL_join (vs.map textL) (by simpa using hne) (fun x hx => by
    obtain ⟨d, _, rfl⟩ := List.mem_map.1 hx
    exact (textL_bytes d).1), readVals_back vs [] _ hv.1 (by simpa using hv.2.2)]
  rfl
theorem word_back {k : Int} (h : kindB k = true) : kindR (wordT k) = k := by
  rcases kind_five h with rfl | rfl | rfl | rfl | rfl <;> rfl
def rateQ (r : Int) : List (List UInt8) := if r = 1000000 then [] else [64 :: (rateText r).1]
def tagsQ (ts : List TagL) : List (List UInt8) := if ts = [] then [] else [35 :: tagText ts]
def timeQ (t : Int) : List (List UInt8) := if t = 0 then [] else [84 :: Lib.decDigits t.toNat]
def piecesD (m : MetD) : List (List UInt8) := (m.1 ++ valsT m.2.2.1) :: wordT m.2.1 :: (rateQ m.2.2.2.1 ++ tagsQ m.2.2.2.2.1 ++ timeQ m.2.2.2.2.2.1)
theorem line_join (m : MetD) : lineD m = Lib.join (piecesD m) [124] := by
  unfold lineD piecesD
  rw [Lib.join_cons]
  have : ∀ a b : List (List UInt8), Lib.joinTail [124] (a ++ b) = Lib.joinTail [124] a ++ Lib.joinTail [124] b := fun a b => by simp [Lib.joinTail]
  rw [show wordT m.2.1 :: (rateQ m.2.2.2.1 ++ tagsQ m.2.2.2.2.1 ++ timeQ m.2.2.2.2.2.1) = [wordT m.2.1] ++ rateQ m.2.2.2.1 ++ tagsQ m.2.2.2.2.1 ++ timeQ m.2.2.2.2.2.1 by simp, this, this, this]
  have e1 : Lib.joinTail [124] [wordT m.2.1] = [124] ++ wordT m.2.1 := by simp [Lib.joinTail]
  have e2 : Lib.joinTail [124] (rateQ m.2.2.2.1) = rateP m.2.2.2.1 := by unfold rateQ rateP; split <;> simp [Lib.joinTail]
  have e3 : Lib.joinTail [124] (tagsQ m.2.2.2.2.1) = tagsP m.2.2.2.2.1 := by unfold tagsQ tagsP; split <;> simp [Lib.joinTail]
  have e4 : Lib.joinTail [124] (timeQ m.2.2.2.2.2.1) = timeP m.2.2.2.2.2.1 := by unfold timeQ timeP; split <;> simp [Lib.joinTail]
  rw [e1, e2, e3, e4]
  simp
theorem mem_flat {c : UInt8} {l : List (List UInt8)} (h : ∀ x ∈ l, c ∉ x) : c ∉ l.flatten := fun hm => by
  obtain ⟨x, hx, hc⟩ := List.mem_flatten.1 hm
  exact h x hx hc
theorem join_free {c d : UInt8} (hcd : c ≠ d) {l : List (List UInt8)} (h : ∀ x ∈ l, c ∉ x) : c ∉ Lib.join l [d] := by
  cases l with
  | nil => simp [Lib.join]
  | cons x l =>
    rw [Lib.join_cons]
    intro hm
    rcases List.mem_append.1 hm with hm | hm
    · exact h x (by simp) hm
    · unfold Lib.joinTail at hm
      refine mem_flat (l := l.map ([d] ++ ·)) (fun y hy => ?_) hm
      obtain ⟨z, hz, rfl⟩ := List.mem_map.1 hy
      intro hc
      rcases List.mem_append.1 hc with hc | hc
      · exact hcd (List.mem_singleton.1 hc)
      · exact h z (List.mem_cons_of_mem _ hz) hc
theorem rate_free {k r : Int} (h : rateB k r = true) : (124 : UInt8) ∉ (rateText r).1 ∧ (r ≠ 1000000 → rateR (rateText r).1 = numR r 0 0) := by
  obtain ⟨_, _, r1, r2⟩ := rateP_le h
  by_cases e : r = 1000000
  · subst e; exact ⟨by decide, fun h => absurd rfl h⟩
  · have hf := rateText_form (k := r) ⟨r1, by omega⟩
    have hp := pad6_all (k := r.toNat) (by omega)
    have ht := trz_le (pad6 r.toNat)
    have hr := rate_read r ⟨r1, by omega⟩ 0
    rw [hf]
    refine ⟨?_, fun _ => ?_⟩
    · have hd : Digs (trz (pad6 r.toNat)) := trz_digs hp.2.2.1
      have := (dig_bytes hd).2
      simp [this]
    · rw [List.replicate_zero, List.append_nil, if_pos (by omega)] at hr
      exact hr
theorem pieces_free {m : MetD} (h : InvM m) : ∀ x ∈ piecesD m, (124 : UInt8) ∉ x := by
  unfold piecesD
  intro x hx
  rcases List.mem_cons.1 hx with rfl | hx
  · have h1 := (name_bytes h.nm).2
    have h2 : (124 : UInt8) ∉ valsT m.2.2.1 := by
      unfold valsT
      refine mem_flat (fun y hy => ?_)
      obtain ⟨d, _, rfl⟩ := List.mem_map.1 hy
      have := (textL_bytes d).2
      simp [this]
    simp [h1, h2]
  rcases List.mem_cons.1 hx with rfl | hx
  · rcases kind_five h.kd with e | e | e | e | e <;> rw [e] <;> decide
  rcases List.mem_append.1 hx with hx | hx
  · rcases List.mem_append.1 hx with hx | hx
    · unfold rateQ at hx
      split at hx
      · cases hx
      · rw [List.mem_singleton.1 hx]
        have := (rate_free h.rt).1
        simp [this]
    · unfold tagsQ at hx
      split at hx
      · cases hx
      · rw [List.mem_singleton.1 hx]
        have : (124 : UInt8) ∉ tagText m.2.2.2.2.1 := join_free (by decide) (fun y hy => by
          obtain ⟨t, ht, rfl⟩ := List.mem_map.1 hy
          exact (one_bytes (h.tg.1 t ht)).1)
        simp [this]
  · unfold timeQ at hx
    split at hx
    · cases hx
    · rw [List.mem_singleton.1 hx]
      have := (dig_bytes (dd_digs m.2.2.2.2.2.1.toNat)).2
      simp [this]
theorem more_rate {w : MetD} {r : Int} (h : rateB w.2.1 r = true) (hr : r ≠ 1000000) : moreR w 0 (64 :: (rateText r).1) = .ok ((w.1, w.2.1, w.2.2.1, r, w.2.2.2.2.1, w.2.2.2.2.2.1, ()), 1) := by
  have e := (rate_free h).2 hr
  have hk : ¬ w.2.1 = 2 := fun h2 => by
    unfold rateB at h
    simp [h2, hr] at h
  rw [moreR, if_pos rfl, if_neg (by omega), e, if_neg (by rintro (hh | hh); exact hh rfl; exact hk hh.1)]
  rfl
theorem more_tags {w : MetD} {ts : List TagL} {last : Int} (hl : last ≤ 1) (hne : ts ≠ []) (h : (∀ t ∈ ts, tagGood t = true) ∧ ts.length ≤ 32 ∧ StrictT ts) : moreR w last (35 :: tagText ts) = .ok ((w.1, w.2.1, w.2.2.1, w.2.2.2.1, ts, w.2.2.2.2.2.1, ()), 2) := by
  have e : splitL 44 (tagText ts) = ts.map oneT := splitL_join _ (by simpa using hne) (fun x hx => by
    obtain ⟨t, ht, rfl⟩ := List.mem_map.1 hx
    exact (one_bytes (h.1 t ht)).2)
  rw [moreR, if_neg (by decide), if_pos rfl, if_neg (by omega), e, tagsR_back ts [] 0 h.1]
  dsimp only
  rw [List.nil_append, if_neg (by have := h.2.1; omega), normT_id h.2.2]
theorem more_time {w : MetD} {t : Int} {last : Int} (hl : last ≤ 2) (h : timeB t = true) (h0 : t ≠ 0) : moreR w last (84 :: Lib.decDigits t.toNat) = .ok ((w.1, w.2.1, w.2.2.1, w.2.2.2.1, w.2.2.2.2.1, t, ()), 3) := by
  obtain ⟨_, t1, t2⟩ := timeP_le h
  have e := parse_dd t.toNat (by omega) 1 1099511627776
  rw [if_neg (by omega)] at e
  rw [moreR, if_neg (by decide), if_neg (by decide), if_pos rfl, if_neg (by omega), e]
  have : ((t.toNat : Nat) : Int) = t := by omega
  rw [this]
  rfl
theorem restR_step {p : List UInt8} {r : List (List UInt8)} {a : Int} {m m' : MetD} {last l' : Int} (h : moreR m last p = .ok (m', l')) : restR (p :: r) a m last = restR r (a + p.length + 1) m' l' := by
  rw [restR, h]
theorem rest_back {m : MetD} (h : InvM m) (a : Int) : restR (rateQ m.2.2.2.1 ++ tagsQ m.2.2.2.2.1 ++ timeQ m.2.2.2.2.2.1) a (m.1, m.2.1, m.2.2.1, 1000000, [], 0, ()) 0 = .ok m := by
  have time_back : ∀ (a : Int) (w : MetD) (last : Int), last ≤ 2 → w.2.2.2.2.2.1 = 0 → restR (timeQ m.2.2.2.2.2.1) a w last = .ok (w.1, w.2.1, w.2.2.1, w.2.2.2.1, w.2.2.2.2.1, m.2.2.2.2.2.1, ()) := by
    intro a w last hl hw
    unfold timeQ
    by_cases e : m.2.2.2.2.2.1 = 0
    · rw [if_pos e, e, ← hw]; rfl
    · rw [if_neg e, restR_step (more_time hl h.tm e)]; rfl
  have tags_back : ∀ (a : Int) (w : MetD) (last : Int), last ≤ 1 → w.2.2.2.2.2.1 = 0 → w.2.2.2.2.1 = [] → restR (tagsQ m.2.2.2.2.1 ++ timeQ m.2.2.2.2.2.1) a w last = .ok (w.1, w.2.1, w.2.2.1, w.2.2.2.1, m.2.2.2.2.1, m.2.2.2.2.2.1, ()) := by
    intro a w last hl hw ht
    unfold tagsQ
    by_cases e : m.2.2.2.2.1 = []
    · rw [if_pos e, List.nil_append, time_back _ _ _ (by omega) hw, e, ht]
    · rw [if_neg e, List.singleton_append, restR_step (more_tags hl e h.tg)]
      exact time_back _ (w.1, w.2.1, w.2.2.1, w.2.2.2.1, m.2.2.2.2.1, w.2.2.2.2.2.1, ()) 2 (by omega) hw
  rw [List.append_assoc]
  unfold rateQ
  by_cases e : m.2.2.2.1 = 1000000
  · rw [if_pos e, List.nil_append, tags_back _ _ _ (by omega) rfl rfl, ← e]
  · rw [if_neg e, List.singleton_append, restR_step (more_rate (w := (m.1, m.2.1, m.2.2.1, 1000000, [], 0, ())) h.rt e), tags_back _ _ _ (by omega) rfl rfl]
theorem oneT_le' {t : TagL} (h : tagGood t = true) : (oneT t).length ≤ 165 := by
  unfold tagGood at h
  simp only [Bool.and_eq_true, beq_iff_eq] at h
  have h1 := textF_zero h.1
  have h2 := textF_zero h.2
  unfold oneT
  split <;> simp <;> omega
theorem tagText_le' {ts : List TagL} (h : ∀ t ∈ ts, tagGood t = true) (hl : ts.length ≤ 32) : (tagText ts).length ≤ 5312 := by
  unfold tagText
  have := join_le [44] 165 (ts.map oneT) (fun x hx => by
    obtain ⟨t, ht, rfl⟩ := List.mem_map.1 hx
    exact oneT_le' (h t ht))
  rw [List.length_map] at this
  have h2 : ts.length * (165 + [(44 : UInt8)].length) ≤ 32 * 166 := Nat.mul_le_mul_right _ hl
  omega
theorem line_len {m : MetD} (h : InvM m) : (lineD m).length ≤ 8192 := by
  have h1 := nameOK_le h.nm
  have h2 := valsT_le h.vs.1
  have h3 := word_short m.2.1
  have h4 := (rateP_le h.rt).1
  have h6 := (timeP_le h.tm).1
  have h5 : (tagsP m.2.2.2.2.1).length ≤ 5314 := by
    have := tagText_le' h.tg.1 h.tg.2.1
    unfold tagsP
    split
    · simp
    · simp only [List.length_append, List.length_cons, List.length_nil]; omega
  have := h.vs.2.2
  unfold lineD
  simp only [List.length_append, List.length_cons, List.length_nil]
  omega
theorem parse_line {m : MetD} (h : InvM m) : parseD (lineD m) = (m, (0, 0, ()), ()) := by
  have hl := line_len h
  unfold parseD
  rw [if_neg (by omega), line_join, splitL_join _ (by simp [piecesD]) (pieces_free h)]
  unfold piecesD
  rw [linesR, first_back h.nm h.vs]
  dsimp only
  rw [secondR, word_back h.kd, if_neg (by rcases kind_five h.kd with e | e | e | e | e <;> rw [e] <;> decide), rest_back h]
  rfl
theorem inv_form {m : MetD} (hm : MetOK m) (h : normM m = (formM m, 0, ())) (hR : RightM (formM m)) : InvM (formM m) := hR.inv (normT_strict _)
theorem inv_line (n : Nat) (hn : 200000 ≤ n) {m : MetD} (h : InvM m) : F.dog_Line n m = some (lineD m, 0, ()) := line_right n hn h.right h.tg.2.2
theorem equal_refl (n : Nat) (hn : 200000 ≤ n) (m : MetD) (h1 : m.2.2.1.length ≤ 1000) (h2 : m.2.2.2.2.1.length ≤ 1000) : F.metric_Equal n m m = some true := by
  rw [equal_eq n hn m m (by omega) (by omega), eqM_pos rfl]
end Go.AM
set_option linter.unusedVariables false
set_option linter.unusedSimpArgs false
namespace Go.AM
def bareM' (m : MetD) : MetD := (m.1, m.2.1, m.2.2.1, 1000000, [], 0, ())
theorem bare_inv {m : MetD} (h : InvM m) : InvM (bareM' m) := ⟨h.nm, h.kd, h.vs, by show rateB m.2.1 1000000 = true; unfold rateB; simp, ⟨fun t ht => (by cases ht), (show (0 : Nat) ≤ 32 by omega), List.Pairwise.nil⟩, (show timeB 0 = true by decide)⟩
theorem bare_line (m : MetD) : lineD (bareM' m) = (m.1 ++ valsT m.2.2.1) ++ 124 :: wordT m.2.1 := by
  show m.1 ++ valsT m.2.2.1 ++ ([124] ++ wordT m.2.1) ++ rateP 1000000 ++ tagsP [] ++ timeP 0 = _
  have e1 : rateP 1000000 = [] := rfl
  have e2 : tagsP [] = [] := rfl
  have e3 : timeP 0 = [] := rfl
  rw [e1, e2, e3]; simp
theorem bare_len {m : MetD} (h : InvM m) : (lineD (bareM' m)).length ≤ 2800 := by
  have h1 := nameOK_le h.nm
  have h2 := valsT_le h.vs.1
  have h3 := word_short m.2.1
  have h4 := h.vs.2.2
  rw [bare_line]
  simp only [List.length_append, List.length_cons]
  omega
theorem parse_more {m : MetD} (h : InvM m) (t : List UInt8) (hl : t.length ≤ 5330) : parseD (lineD (bareM' m) ++ 124 :: t) = outP (restR (splitL 124 t) ((lineD (bareM' m)).length + 1) (bareM' m) 0) := by
  have hb := bare_len h
  have hf := pieces_free (bare_inv h)
  have f1 : (124 : UInt8) ∉ m.1 ++ valsT m.2.2.1 := hf _ (by show m.1 ++ valsT m.2.2.1 ∈ (m.1 ++ valsT m.2.2.1) :: _; simp)
  have f2 : (124 : UInt8) ∉ wordT m.2.1 := hf _ (by show wordT m.2.1 ∈ (m.1 ++ valsT m.2.2.1) :: wordT m.2.1 :: _; simp)
  unfold parseD
  rw [if_neg (by simp only [List.length_append, List.length_cons]; omega)]
  have e : lineD (bareM' m) ++ 124 :: t = (m.1 ++ valsT m.2.2.1) ++ 124 :: (wordT m.2.1 ++ 124 :: t) := by rw [bare_line]; simp
  have hs : splitL 124 (lineD (bareM' m) ++ 124 :: t) = (m.1 ++ valsT m.2.2.1) :: wordT m.2.1 :: splitL 124 t := by rw [e, splitL_app f1, splitL_app f2]
  rw [hs, linesR, first_back h.nm h.vs]
  dsimp only
  rw [secondR, word_back h.kd, if_neg (by rcases kind_five h.kd with e | e | e | e | e <;> rw [e] <;> decide)]
  have hlen : ((lineD (bareM' m)).length : Int) + 1 = ((m.1 ++ valsT m.2.2.1).length : Int) + 1 + ((wordT m.2.1).length + 1) := by
    rw [bare_line]; simp only [List.length_append, List.length_cons]; omega
  rw [hlen]
  rfl
theorem restR_bad {p : List UInt8} {r : List (List UInt8)} {a : Int} {m : MetD} {last e : Int} (h : moreR m last p = .error e) : restR (p :: r) a m last = .error (e, a) := by
  rw [restR, h]
theorem m_at1 (w : MetD) : moreR w 0 [64, 49] = .ok ((w.1, w.2.1, w.2.2.1, 1000000, w.2.2.2.2.1, w.2.2.2.2.2.1, ()), 1) := by
  have e : rateR [49] = numR 1000000 0 0 := by kernel_rfl
  rw [moreR, if_pos rfl, if_neg (by omega), e, if_neg (by rintro (hh | hh); exact hh rfl; exact hh.2 rfl)]
  rfl
theorem m_at1' (w : MetD) {last : Int} (h : 0 < last) (s : List UInt8) : moreR w last (64 :: s) = .error 11 := by rw [moreR, if_pos rfl, if_pos h]
theorem m_t5 (w : MetD) : moreR w 0 [84, 53] = .ok ((w.1, w.2.1, w.2.2.1, w.2.2.2.1, w.2.2.2.2.1, 5, ()), 3) := by
  have e : parseNum [53] 1 1099511627776 = numR 5 0 0 := by kernel_rfl
  rw [moreR, if_neg (by decide), if_neg (by decide), if_pos rfl, if_neg (by omega), e, if_neg (fun hh => hh rfl)]
  rfl
theorem m_tag' (w : MetD) {last : Int} (h : 1 < last) (s : List UInt8) : moreR w last (35 :: s) = .error 11 := by rw [moreR, if_neg (by decide), if_pos rfl, if_pos h]
theorem m_tag (w : MetD) : moreR w 0 [35, 97] = .ok ((w.1, w.2.1, w.2.2.1, w.2.2.2.1, normT [([97], [])], w.2.2.2.2.2.1, ()), 2) := by
  have e : tagsR (splitL 44 [97]) [] 0 = .ok [([97], [])] := by kernel_rfl
  rw [moreR, if_neg (by decide), if_pos rfl, if_neg (by omega), e]
  dsimp only
  rw [if_neg (by decide)]
def oneM (m : MetD) (t : TagL) : MetD := (m.1, m.2.1, m.2.2.1, 1000000, [t], 0, ())
theorem one_inv {m : MetD} (h : InvM m) {t : TagL} (ht : tagGood t = true) : InvM (oneM m t) := ⟨h.nm, h.kd, h.vs, by show rateB m.2.1 1000000 = true; unfold rateB; simp, ⟨fun x hx => by rw [List.mem_singleton.1 hx]; exact ht, (show (1 : Nat) ≤ 32 by omega), List.pairwise_singleton _ _⟩, (show timeB 0 = true by decide)⟩
theorem one_line (m : MetD) (t : TagL) : lineD (oneM m t) = lineD (bareM' m) ++ ([124, 35] ++ oneT t) := by
  rw [bare_line]
  show m.1 ++ valsT m.2.2.1 ++ ([124] ++ wordT m.2.1) ++ rateP 1000000 ++ tagsP [t] ++ timeP 0 = _
  have e1 : rateP 1000000 = [] := rfl
  have e2 : tagsP [t] = [124, 35] ++ oneT t := by
    show [124, 35] ++ Lib.join [oneT t] [44] = _
    rw [Lib.join_one]
  have e3 : timeP 0 = [] := rfl
  rw [e1, e2, e3]; simp
def dupB (ts : List TagL) (which : Int) (j : Nat) : Bool := decide (ts.length < 32) && ((j : Int) == ((IntKind.wrap .i64 ((which.tmod (ts.length : Int)) + (ts.length : Int))).tmod (ts.length : Int)))
def listR (ts : List TagL) (which : Int) : Nat → List TagL
  | 0 => []
  | j + 1 => match ts[j]? with
    | none => []
    | some t => (if dupB ts which j then [t, t] else [t]) ++ listR ts which j
def textR (ts : List TagL) (which : Int) : Nat → List UInt8
  | 0 => []
  | j + 1 => match ts[j]? with
    | none => []
    | some t => (oneT t ++ (if dupB ts which j then 44 :: oneT t else [])) ++ (if 0 < j then 44 :: textR ts which j else [])
theorem listR_mem (ts : List TagL) (which : Int) : ∀ j, j ≤ ts.length → ∀ x, x ∈ listR ts which j ↔ x ∈ ts.take j
  | 0, _, x => by simp [listR]
  | j + 1, h, x => by
    have hj : j < ts.length := by omega
    have ih := listR_mem ts which j (by omega) x
    have e : ts[j]? = some ts[j] := by simp [hj]
    rw [listR, e]
    dsimp only
    rw [List.take_add_one, e, List.mem_append, List.mem_append, ih]
    cases dupB ts which j
    · simp; constructor <;> (rintro (h | h) <;> simp [h])
    · simp; constructor <;> (rintro (h | h) <;> simp [h])
theorem listR_len (ts : List TagL) (which : Int) : ∀ j, j ≤ ts.length → (listR ts which j).length ≤ j + (if ts.length < 32 ∧ ((IntKind.wrap .i64 ((which.tmod (ts.length : Int)) + (ts.length : Int))).tmod (ts.length : Int)) < j then 1 else 0)
  | 0, _ => by simp [listR]
  | j + 1, h => by
    have hj : j < ts.length := by omega
    have ih := listR_len ts which j (by omega)
    have e : ts[j]? = some ts[j] := by simp [hj]
    rw [listR, e]
    dsimp only
    generalize hd : (IntKind.wrap .i64 ((which.tmod (ts.length : Int)) + (ts.length : Int))).tmod (ts.length : Int) = d at ih ⊢
    have hdup : dupB ts which j = (decide (ts.length < 32) && ((j : Int) == d)) := by unfold dupB; rw [hd]
    rw [hdup, List.length_append]
    by_cases h32 : ts.length < 32
    · by_cases hjd : (j : Int) = d
      · rw [if_neg (by omega)] at ih
        rw [if_pos (by simp [h32, hjd]), if_pos ⟨h32, by omega⟩]
        simp only [List.length_cons, List.length_nil]; omega
      · rw [if_neg (by simp [hjd])]
        simp only [List.length_cons, List.length_nil]
        by_cases hlt : d < (j : Int)
        · rw [if_pos ⟨h32, hlt⟩] at ih
          rw [if_pos ⟨h32, by omega⟩]; omega
        · rw [if_neg (fun hh => hlt hh.2)] at ih
          rw [if_neg (fun hh => by have := hh.2; omega)]; omega
    · rw [if_neg (fun hh => h32 hh.1)] at ih
      rw [if_neg (by simp [h32]), if_neg (fun hh => h32 hh.1)]
      simp only [List.length_cons, List.length_nil]; omega
theorem textR_join (ts : List TagL) (which : Int) : ∀ j, j ≤ ts.length → textR ts which j = Lib.join ((listR ts which j).map oneT) [44]
  | 0, _ => rfl
  | j + 1, h => by
    have hj : j < ts.length := by omega
    have ih := textR_join ts which j (by omega)
    have e : ts[j]? = some ts[j] := by simp [hj]
    have tail : (if 0 < j then 44 :: textR ts which j else []) = Lib.joinTail [44] ((listR ts which j).map oneT) := by
      cases j with
      | zero => rfl
      | succ k =>
        rw [if_pos (by omega), ih]
        have e2 : ts[k]? = some ts[k] := by simp [show k < ts.length by omega]
        rw [listR, e2]
        dsimp only
        cases dupB ts which k
        · simp only [Bool.false_eq_true, if_false, List.singleton_append, List.map_cons]; rw [joinTail_cons]
        · simp only [if_true, List.cons_append, List.nil_append, List.map_cons]; rw [joinTail_cons]
    rw [textR, listR, e]
    dsimp only
    rw [tail]
    cases dupB ts which j
    · simp only [Bool.false_eq_true, if_false, List.singleton_append, List.map_cons, List.append_nil]; rw [Lib.join_cons]
    · simp only [if_true, List.cons_append, List.nil_append, List.map_cons]
      rw [Lib.join_cons, show Lib.joinTail [44] (oneT ts[j] :: (listR ts which j).map oneT) = (44 :: oneT ts[j]) ++ Lib.joinTail [44] ((listR ts which j).map oneT) by simp [Lib.joinTail]]
      simp
theorem listR_text_le {ts : List TagL} (hg : ∀ t ∈ ts, tagGood t = true) (hl : ts.length ≤ 32) (which : Int) (j : Nat) (hj : j ≤ ts.length) : (listR ts which j).length ≤ 32 ∧ (textR ts which j).length ≤ 5312 := by
  have h1 := listR_len ts which j hj
  have h2 : (listR ts which j).length ≤ 32 := by
    split at h1
    · rename_i hh; omega
    · omega
  refine ⟨h2, ?_⟩
  rw [textR_join ts which j hj]
  exact tagText_le' (fun t ht => hg t (List.mem_of_mem_take ((listR_mem ts which j hj t).1 ht))) h2
theorem piece_loop (n : Nat) (hn : 200000 ≤ n) (k0 : List UInt8 → List UInt8 → Int → List DecL → Int → List TagL → Int → List UInt8 → Int → List DecL → Int → List TagL → Int → List UInt8 → Int → List DecL → Int → List TagL → Int → List UInt8 → Int → List DecL → Int → List TagL → Int → Int → Int → List UInt8 → Int → List DecL → Int → List TagL → Int → Int → Int → List UInt8 → Int → List DecL → Int → List TagL → Int → Int → Int → List UInt8 → Int → List DecL → Int → List TagL → Int → Int → Int → List UInt8 → Int → List DecL → Int → List TagL → Int → Int → Int → List UInt8 → Int → List DecL → Int → List TagL → Int → Int → Int → Nat → Option Bool) (kr : Bool → List UInt8 → Int → List DecL → Int → List TagL → Int → List UInt8 → Int → List DecL → Int → List TagL → Int → List UInt8 → Int → List DecL → Int → List TagL → Int → List UInt8 → Int → List DecL → Int → List TagL → Int → Int → Int → List UInt8 → Int → List DecL → Int → List TagL → Int → Int → Int → List UInt8 → Int → List DecL → Int → List TagL → Int → Int → Int → List UInt8 → Int → List DecL → Int → List TagL → Int → Int → Int → List UInt8 → Int → List DecL → Int → List TagL → Int → Int → Int → List UInt8 → Int → List DecL → Int → List TagL → Int → Int → Int → Nat → Option Bool) (which : Int) (bm : MetD) (hI : InvM bm) (ts : List TagL) (hg : ∀ t ∈ ts, tagGood t = true) (hl : ts.length ≤ 32) (x0y0 : List UInt8) (x0y1 : Int) (x0y2 : List DecL) (x0y3 : Int) (x0y4 : List TagL) (x0y5 : Int) (x1y0 : List UInt8) (x1y1 : Int) (x1y2 : List DecL) (x1y3 : Int) (x1y5 : Int) (x3y0 : List UInt8) (x3y1 : Int) (x3y2 : List DecL) (x3y3 : Int) (x3y4 : List TagL) (x3y5 : Int) (x4y0 : Int) (x4y1 : Int) (x5y0 : List UInt8) (x5y1 : Int) (x5y2 : List DecL) (x5y3 : Int) (x5y4 : List TagL) (x5y5 : Int) (x6y0 : Int) (x6y1 : Int) (x7y0 : List UInt8) (x7y1 : Int) (x7y2 : List DecL) (x7y3 : Int) (x7y4 : List TagL) (x7y5 : Int) (x8y0 : Int) (x8y1 : Int) (x9y0 : List UInt8) (x9y1 : Int) (x9y2 : List DecL) (x9y3 : Int) (x9y4 : List TagL) (x9y5 : Int) (x10y0 : Int) (x10y1 : Int) (x11y0 : List UInt8) (x11y1 : Int) (x11y2 : List DecL) (x11y3 : Int) (x11y4 : List TagL) (x11y5 : Int) (x12y0 : Int) (x12y1 : Int) (x13y0 : List UInt8) (x13y1 : Int) (x13y2 : List DecL) (x13y3 : Int) (x13y4 : List TagL) (x13y5 : Int) (x14y0 : Int) (x14y1 : Int) (vk0 : Nat) :
    ∀ (j m : Nat) (acc : List UInt8), j ≤ ts.length → j < m → acc.length + (textR ts which j).length ≤ 100000 →
    F.law11_DogPieces.L23 n k0 kr m which (lineD (bareM' bm)) acc ((j : Int) - 1) x0y0 x0y1 x0y2 x0y3 x0y4 x0y5 x1y0 x1y1 x1y2 x1y3 ts x1y5 bm.1 bm.2.1 bm.2.2.1 1000000 [] 0 x3y0 x3y1 x3y2 x3y3 x3y4 x3y5 x4y0 x4y1 x5y0 x5y1 x5y2 x5y3 x5y4 x5y5 x6y0 x6y1 x7y0 x7y1 x7y2 x7y3 x7y4 x7y5 x8y0 x8y1 x9y0 x9y1 x9y2 x9y3 x9y4 x9y5 x10y0 x10y1 x11y0 x11y1 x11y2 x11y3 x11y4 x11y5 x12y0 x12y1 x13y0 x13y1 x13y2 x13y3 x13y4 x13y5 x14y0 x14y1 vk0 = k0 (acc ++ textR ts which j) x0y0 x0y1 x0y2 x0y3 x0y4 x0y5 x1y0 x1y1 x1y2 x1y3 ts x1y5 bm.1 bm.2.1 bm.2.2.1 1000000 [] 0 x3y0 x3y1 x3y2 x3y3 x3y4 x3y5 x4y0 x4y1 x5y0 x5y1 x5y2 x5y3 x5y4 x5y5 x6y0 x6y1 x7y0 x7y1 x7y2 x7y3 x7y4 x7y5 x8y0 x8y1 x9y0 x9y1 x9y2 x9y3 x9y4 x9y5 x10y0 x10y1 x11y0 x11y1 x11y2 x11y3 x11y4 x11y5 x12y0 x12y1 x13y0 x13y1 x13y2 x13y3 x13y4 x13y5 x14y0 x14y1 vk0 := by
  intro j
  induction j with
  | zero =>
    intro m acc hj hm ha
    obtain ⟨m, rfl⟩ : ∃ q, m = q + 1 := ⟨m - 1, by omega⟩
    rw [F.law11_DogPieces.L23]
    unfold F.law11_DogPieces.L23.step
    dsimp only
    rw [bif_neg (by omega), textR, List.append_nil]
  | succ j ih =>
    intro m acc hj hm ha
    obtain ⟨m, rfl⟩ : ∃ q, m = q + 1 := ⟨m - 1, by omega⟩
    have hjl : j < ts.length := by omega
    have e : ts[j]? = some ts[j] := by simp [hjl]
    have ht := hg ts[j] (List.getElem_mem hjl)
    have hone := oneT_le' ht
    have hb := bare_len hI
    have hkp : (((j + 1 : Nat) : Int) - 1) = (j : Int) := by omega
    have hsub : sub ts (j : Int) ((j + 1 : Nat) : Int) = some [ts[j]] := by
      rw [sub_nat ts j (j + 1) (by omega) (by omega), List.drop_take, show j + 1 - j = 1 by omega, List.drop_eq_getElem_cons hjl]
      rfl
    have hline : F.dog_Line n (bm.1, bm.2.1, bm.2.2.1, 1000000, [ts[j]], 0, ()) = some (lineD (bareM' bm) ++ ([124, 35] ++ oneT ts[j]), 0, ()) := by
      have := inv_line n hn (one_inv hI ht)
      rw [one_line] at this
      exact this
    have hw2 : IntKind.wrap .i64 (((lineD (bareM' bm)).length : Int) + 2) = (((lineD (bareM' bm)).length + 2 : Nat) : Int) := by rw [wrap_in (by omega)]; omega
    have hlt : decide (((lineD (bareM' bm) ++ ([124, 35] ++ oneT ts[j])).length : Int) < (((lineD (bareM' bm)).length + 2 : Nat) : Int)) = false := decide_eq_false (by simp only [List.length_append, List.length_cons, List.length_nil]; omega)
    have hcut : sub (lineD (bareM' bm) ++ ([124, 35] ++ oneT ts[j])) (((lineD (bareM' bm)).length + 2 : Nat) : Int) ((lineD (bareM' bm) ++ ([124, 35] ++ oneT ts[j])).length : Int) = some (oneT ts[j]) := by
      rw [sub_nat _ _ _ (by simp) (by omega), List.take_length]
      have : lineD (bareM' bm) ++ ([124, 35] ++ oneT ts[j]) = (lineD (bareM' bm) ++ [124, 35]) ++ oneT ts[j] := by simp
      rw [this, show (lineD (bareM' bm)).length + 2 = (lineD (bareM' bm) ++ [124, 35]).length by simp, List.drop_left]
    have hwm : IntKind.wrap .i64 ((j : Int) - 1) = (j : Int) - 1 := wrap_in (by omega)
    have hlen0 : (((ts.length : Nat) : Int) == 0) = false := by rw [beq_eq_false_iff_ne]; omega
    have htx : textR ts which (j + 1) = (oneT ts[j] ++ (if dupB ts which j then 44 :: oneT ts[j] else [])) ++ (if 0 < j then 44 :: textR ts which j else []) := by rw [textR, e]
    have hih : ∀ acc', acc' ++ (if 0 < j then textR ts which j else []) = acc ++ textR ts which (j + 1) → F.law11_DogPieces.L23 n k0 kr m which (lineD (bareM' bm)) acc' ((j : Int) - 1) x0y0 x0y1 x0y2 x0y3 x0y4 x0y5 x1y0 x1y1 x1y2 x1y3 ts x1y5 bm.1 bm.2.1 bm.2.2.1 1000000 [] 0 x3y0 x3y1 x3y2 x3y3 x3y4 x3y5 x4y0 x4y1 x5y0 x5y1 x5y2 x5y3 x5y4 x5y5 x6y0 x6y1 x7y0 x7y1 x7y2 x7y3 x7y4 x7y5 x8y0 x8y1 x9y0 x9y1 x9y2 x9y3 x9y4 x9y5 x10y0 x10y1 x11y0 x11y1 x11y2 x11y3 x11y4 x11y5 x12y0 x12y1 x13y0 x13y1 x13y2 x13y3 x13y4 x13y5 x14y0 x14y1 vk0 = k0 (acc ++ textR ts which (j + 1)) x0y0 x0y1 x0y2 x0y3 x0y4 x0y5 x1y0 x1y1 x1y2 x1y3 ts x1y5 bm.1 bm.2.1 bm.2.2.1 1000000 [] 0 x3y0 x3y1 x3y2 x3y3 x3y4 x3y5 x4y0 x4y1 x5y0 x5y1 x5y2 x5y3 x5y4 x5y5 x6y0 x6y1 x7y0 x7y1 x7y2 x7y3 x7y4 x7y5 x8y0 x8y1 x9y0 x9y1 x9y2 x9y3 x9y4 x9y5 x10y0 x10y1 x11y0 x11y1 x11y2 x11y3 x11y4 x11y5 x12y0 x12y1 x13y0 x13y1 x13y2 x13y3 x13y4 x13y5 x14y0 x14y1 vk0 := by
      intro acc' h1
      have hz : j = 0 → textR ts which j = [] := fun hz => by rw [hz]; rfl
      have h2 : acc'.length + (textR ts which j).length ≤ 100000 := by
        have h3 := congrArg List.length h1
        simp only [List.length_append] at h3
        by_cases hj0 : 0 < j
        · rw [if_pos hj0] at h3; omega
        · rw [if_neg hj0] at h3
          rw [hz (by omega)]
          simp only [List.length_nil] at h3 ⊢
          omega
      rw [ih m acc' (by omega) (by omega) h2]
      have : acc' ++ textR ts which j = acc ++ textR ts which (j + 1) := by
        rw [← h1]
        by_cases hj0 : 0 < j
        · rw [if_pos hj0]
        · rw [if_neg hj0, hz (by omega)]
      rw [this]
    have hlx := congrArg List.length htx
    simp only [List.length_append] at hlx
    have hsmall := (listR_text_le hg hl which j (by omega)).2
    rw [F.law11_DogPieces.L23]
    unfold F.law11_DogPieces.L23.step
    dsimp only
    rw [hkp, bif_pos (by omega), wrap_succ (by omega), hsub, some_bind', hline, some_bind']
    dsimp only
    rw [beq_self_eq_true, Bool.not_true, cond_false, hw2, hlt, cond_false, hcut, some_bind', growS (by omega), hlen0, cond_false, cond_false, hwm]
    have hdup : (decide (((ts.length : Nat) : Int) < 32) && ((j : Int) == ((IntKind.wrap .i64 ((which.tmod (ts.length : Int)) + (ts.length : Int))).tmod (ts.length : Int)))) = dupB ts which j := by
      unfold dupB
      congr 1
      apply decide_eq_decide.2; omega
    have fin0 : (bif decide ((j : Int) > 0) then (bif decide ((acc ++ oneT ts[j]).length + 1 ≤ strMax) then F.law11_DogPieces.L23 n k0 kr m which (lineD (bareM' bm)) ((acc ++ oneT ts[j]) ++ [44]) ((j : Int) - 1) x0y0 x0y1 x0y2 x0y3 x0y4 x0y5 x1y0 x1y1 x1y2 x1y3 ts x1y5 bm.1 bm.2.1 bm.2.2.1 1000000 [] 0 x3y0 x3y1 x3y2 x3y3 x3y4 x3y5 x4y0 x4y1 x5y0 x5y1 x5y2 x5y3 x5y4 x5y5 x6y0 x6y1 x7y0 x7y1 x7y2 x7y3 x7y4 x7y5 x8y0 x8y1 x9y0 x9y1 x9y2 x9y3 x9y4 x9y5 x10y0 x10y1 x11y0 x11y1 x11y2 x11y3 x11y4 x11y5 x12y0 x12y1 x13y0 x13y1 x13y2 x13y3 x13y4 x13y5 x14y0 x14y1 vk0 else none) else F.law11_DogPieces.L23 n k0 kr m which (lineD (bareM' bm)) (acc ++ oneT ts[j]) ((j : Int) - 1) x0y0 x0y1 x0y2 x0y3 x0y4 x0y5 x1y0 x1y1 x1y2 x1y3 ts x1y5 bm.1 bm.2.1 bm.2.2.1 1000000 [] 0 x3y0 x3y1 x3y2 x3y3 x3y4 x3y5 x4y0 x4y1 x5y0 x5y1 x5y2 x5y3 x5y4 x5y5 x6y0 x6y1 x7y0 x7y1 x7y2 x7y3 x7y4 x7y5 x8y0 x8y1 x9y0 x9y1 x9y2 x9y3 x9y4 x9y5 x10y0 x10y1 x11y0 x11y1 x11y2 x11y3 x11y4 x11y5 x12y0 x12y1 x13y0 x13y1 x13y2 x13y3 x13y4 x13y5 x14y0 x14y1 vk0) = (if dupB ts which j = true then none else k0 (acc ++ textR ts which (j + 1)) x0y0 x0y1 x0y2 x0y3 x0y4 x0y5 x1y0 x1y1 x1y2 x1y3 ts x1y5 bm.1 bm.2.1 bm.2.2.1 1000000 [] 0 x3y0 x3y1 x3y2 x3y3 x3y4 x3y5 x4y0 x4y1 x5y0 x5y1 x5y2 x5y3 x5y4 x5y5 x6y0 x6y1 x7y0 x7y1 x7y2 x7y3 x7y4 x7y5 x8y0 x8y1 x9y0 x9y1 x9y2 x9y3 x9y4 x9y5 x10y0 x10y1 x11y0 x11y1 x11y2 x11y3 x11y4 x11y5 x12y0 x12y1 x13y0 x13y1 x13y2 x13y3 x13y4 x13y5 x14y0 x14y1 vk0) ∨ dupB ts which j = true := by
      cases hd : dupB ts which j
      · left
        rw [if_neg (by simp)]
        rw [hd] at htx
        by_cases hj0 : 0 < j
        · rw [bif_pos (by omega), growS (by simp only [List.length_append]; omega)]
          exact hih _ (by rw [htx, if_pos hj0, if_pos hj0]; simp)
        · rw [bif_neg (by omega)]
          exact hih _ (by rw [htx, if_neg hj0, if_neg hj0]; simp)
      · right; rfl
    cases hd : dupB ts which j
    · rw [hd] at hdup fin0
      have fin1 := fin0.resolve_right (by simp)
      rw [if_neg (by simp)] at fin1
      cases h32 : decide (((ts.length : Nat) : Int) < 32)
      · rw [cond_false]; exact fin1
      · rw [h32, Bool.true_and] at hdup
        rw [cond_true, hdup, cond_false]; exact fin1
    · rw [hd] at hdup htx
      simp only [Bool.and_eq_true] at hdup
      rw [hdup.1, cond_true, hdup.2, cond_true, growS (by simp only [List.length_append]; omega), some_bind', growS (by simp only [List.length_append, List.length_cons, List.length_nil]; omega)]
      by_cases hj0 : 0 < j
      · rw [bif_pos (by omega), growS (by simp only [List.length_append, List.length_cons, List.length_nil]; omega)]
        exact hih _ (by rw [htx, if_pos hj0, if_pos hj0]; simp)
      · rw [bif_neg (by omega)]
        exact hih _ (by rw [htx, if_neg hj0, if_neg hj0]; simp)
theorem tags_all {m : MetD} (h : InvM m) (which : Int) (hne : m.2.2.2.2.1 ≠ []) : parseD (lineD (bareM' m) ++ [124, 35] ++ textR m.2.2.2.2.1 which m.2.2.2.2.1.length) = ((m.1, m.2.1, m.2.2.1, 1000000, m.2.2.2.2.1, 0, ()), (0, 0, ()), ()) := by
  generalize hts : m.2.2.2.2.1 = ts at hne
  have hg : ∀ t ∈ ts, tagGood t = true := by rw [← hts]; exact h.tg.1
  have hl : ts.length ≤ 32 := by rw [← hts]; exact h.tg.2.1
  have hst : StrictT ts := by rw [← hts]; exact h.tg.2.2
  obtain ⟨h1, h2⟩ := listR_text_le hg hl which ts.length (by omega)
  have hmem : ∀ x, x ∈ listR ts which ts.length ↔ x ∈ ts := fun x => by rw [listR_mem ts which ts.length (by omega) x, List.take_length]
  have hgl : ∀ t ∈ listR ts which ts.length, tagGood t = true := fun t ht => hg t ((hmem t).1 ht)
  have hnl : listR ts which ts.length ≠ [] := fun he => by
    cases hc : ts with
    | nil => exact hne hc
    | cons t r =>
      have := (hmem t).2 (by rw [hc]; simp)
      rw [he] at this; cases this
  have hj := textR_join ts which ts.length (by omega)
  have e : lineD (bareM' m) ++ [124, 35] ++ textR ts which ts.length = lineD (bareM' m) ++ 124 :: (35 :: textR ts which ts.length) := by simp
  have hfree : (124 : UInt8) ∉ (35 :: textR ts which ts.length) := by
    have : (124 : UInt8) ∉ textR ts which ts.length := by
      rw [hj]
      exact join_free (by decide) (fun y hy => by
        obtain ⟨t, ht, rfl⟩ := List.mem_map.1 hy
        exact (one_bytes (hgl t ht)).1)
    simp [this]
  have hsp : splitL 44 (textR ts which ts.length) = (listR ts which ts.length).map oneT := by
    rw [hj]
    exact splitL_join _ (by simpa using hnl) (fun x hx => by
      obtain ⟨t, ht, rfl⟩ := List.mem_map.1 hx
      exact (one_bytes (hgl t ht)).2)
  have hnorm : normT (listR ts which ts.length) = ts := by rw [normT_same hmem, normT_id hst]
  have hmore : moreR (bareM' m) 0 (35 :: textR ts which ts.length) = .ok ((m.1, m.2.1, m.2.2.1, 1000000, ts, 0, ()), 2) := by
    rw [moreR, if_neg (by decide), if_pos rfl, if_neg (by omega), hsp, tagsR_back _ [] 0 hgl]
    dsimp only
    rw [List.nil_append, if_neg (by omega), hnorm]
    rfl
  rw [e, parse_more h _ (by simp only [List.length_cons]; omega), splitL_miss 124 _ hfree, restR_step hmore]
  rfl
theorem dog_pieces (n : Nat) (hn : 200000 ≤ n) (m : MetD) (which : Int) (hw : MetWf m) : F.law11_DogPieces n m which = some true := by
  unfold F.law11_DogPieces
  have hf : F.law07_Few n (m.1, m.2.1, m.2.2.1, m.2.2.2.1, m.2.2.2.2.1, m.2.2.2.2.2.1, ()) = some (fewB m) := few_eq n hn m
  rw [hf, awake11 n hn, some_bind']
  cases h : fewB m
  · rfl
  have hm := few_ok hw h
  have hN : F.metric_Normal n (m.1, m.2.1, m.2.2.1, m.2.2.2.1, m.2.2.2.2.1, m.2.2.2.2.2.1, ()) = some (normM m) := metNormal_eq n hn m hm
  rw [hN, some_bind', Bool.not_true, cond_false]
  rcases normM_cases hm with ⟨g1, hR⟩ | ⟨e, he, g1⟩
  · rw [g1]
    have hI := inv_form hm g1 hR
    generalize formM m = f at hI
    rw [some_bind']
    dsimp only
    have hb := bare_inv hI
    have hbl := bare_len hI
    have hL : F.dog_Line n (f.1, f.2.1, f.2.2.1, 1000000, [], 0, ()) = some (lineD (bareM' f), 0, ()) := inv_line n hn hb
    rw [beq_self_eq_true, Bool.not_true, cond_false, hL, some_bind']
    dsimp only
    have p0 : F.dog_Parse n (lineD (bareM' f)) = some (bareM' f, (0, 0, ()), ()) := by rw [parse_eq n hn _ (by omega), parse_line hb]
    have sp1 : splitL 124 [64, 49] = [[64, 49]] := rfl
    have sp2 : splitL 124 [64, 49, 124, 64, 49] = [[64, 49], [64, 49]] := rfl
    have sp3 : splitL 124 [84, 53, 124, 35, 97] = [[84, 53], [35, 97]] := rfl
    have sp4 : splitL 124 [35, 97, 124, 64, 49] = [[35, 97], [64, 49]] := rfl
    have p1 : F.dog_Parse n (lineD (bareM' f) ++ [124, 64, 49]) = some (bareM' f, (0, 0, ()), ()) := by
      rw [parse_eq n hn _ (by simp only [List.length_append, List.length_cons, List.length_nil]; omega), parse_more hI [64, 49] (by simp), sp1, restR_step (m_at1 _)]
      rfl
    have p2 : F.dog_Parse n (lineD (bareM' f) ++ [124, 64, 49, 124, 64, 49]) = some (badP 11 ((lineD (bareM' f)).length + 4)) := by
      rw [parse_eq n hn _ (by simp only [List.length_append, List.length_cons, List.length_nil]; omega), parse_more hI [64, 49, 124, 64, 49] (by simp), sp2, restR_step (m_at1 _), restR_bad (m_at1' _ (by omega) _)]
      show some (badP 11 _) = _
      congr 2
    have p3 : F.dog_Parse n (lineD (bareM' f) ++ [124, 84, 53, 124, 35, 97]) = some (badP 11 ((lineD (bareM' f)).length + 4)) := by
      rw [parse_eq n hn _ (by simp only [List.length_append, List.length_cons, List.length_nil]; omega), parse_more hI [84, 53, 124, 35, 97] (by simp), sp3, restR_step (m_t5 _), restR_bad (m_tag' _ (by omega) _)]
      show some (badP 11 _) = _
      congr 2
    have p4 : F.dog_Parse n (lineD (bareM' f) ++ [124, 35, 97, 124, 64, 49]) = some (badP 11 ((lineD (bareM' f)).length + 4)) := by
      rw [parse_eq n hn _ (by simp only [List.length_append, List.length_cons, List.length_nil]; omega), parse_more hI [35, 97, 124, 64, 49] (by simp), sp4, restR_step (m_tag _), restR_bad (m_at1' _ (by omega) _)]
      show some (badP 11 _) = _
      congr 2
    have p5 : F.dog_Parse n (lineD (bareM' f) ++ [124]) = some (badP 11 ((lineD (bareM' f)).length + 1)) := by
      rw [parse_eq n hn _ (by simp only [List.length_append, List.length_cons, List.length_nil]; omega), parse_more hI [] (by simp)]
      rfl
    have hq : F.metric_Equal n ((bareM' f).1, (bareM' f).2.1, (bareM' f).2.2.1, (bareM' f).2.2.2.1, (bareM' f).2.2.2.2.1, (bareM' f).2.2.2.2.2.1, ()) (f.1, f.2.1, f.2.2.1, 1000000, [], 0, ()) = some true := equal_refl n hn (bareM' f) (by have := hI.vs.2.2; show f.2.2.1.length ≤ 1000; omega) (show (0 : Nat) ≤ 1000 by omega)
    have w4 : IntKind.wrap .i64 (((lineD (bareM' f)).length : Int) + 4) = ((lineD (bareM' f)).length : Int) + 4 := wrap_in (by omega)
    have w1 : IntKind.wrap .i64 (((lineD (bareM' f)).length : Int) + 1) = ((lineD (bareM' f)).length : Int) + 1 := wrap_in (by omega)
    have wl : IntKind.wrap .i64 ((f.2.2.2.2.1.length : Int) - 1) = (f.2.2.2.2.1.length : Int) - 1 := wrap_in (by have := hI.tg.2.1; omega)
    rw [beq_self_eq_true, Bool.not_true, cond_false, p0, p1, p2, p3, p4, p5]
    simp only [some_bind']
    rw [growS (by omega), growS (by omega), growS (by omega), growS (by omega), growS (by omega), hq]
    simp only [some_bind']
    rw [w4, w1, wl]
    have b1 : ∀ a : Int, (((badP 11 a).2.1.1 == 11) && ((badP 11 a).2.1.2.1 == a)) = true := fun a => by
      show (((11 : Int) == 11) && (a == a)) = true
      simp
    rw [b1, b1]
    simp only [beq_self_eq_true, Bool.and_self, Bool.not_true, cond_false]
    rw [growS (by omega)]
    have htl := (listR_text_le hI.tg.1 hI.tg.2.1 which f.2.2.2.2.1.length (by omega)).2
    refine (piece_loop n hn _ _ which f hI f.2.2.2.2.1 hI.tg.1 hI.tg.2.1 _ _ _ _ _ _ _ _ _ _ _ _ _ _ _ _ _ _ _ _ _ _ _ _ _ _ _ _ _ _ _ _ _ _ _ _ _ _ _ _ _ _ _ _ _ _ _ _ _ _ _ _ _ _ _ _ _ _ _ _ f.2.2.2.2.1.length n _ (by omega) (by have := hI.tg.2.1; omega) (by simp only [List.length_append, List.length_cons, List.length_nil]; omega)).trans ?_
    by_cases hne : f.2.2.2.2.1 = []
    · rw [hne]; rfl
    · have hlen0 : ((f.2.2.2.2.1.length : Int) == 0) = false := by
        have := List.length_pos_iff.2 hne
        rw [beq_eq_false_iff_ne]; omega
      have hq2 : F.metric_Equal n (f.1, f.2.1, f.2.2.1, 1000000, f.2.2.2.2.1, 0, ()) (f.1, f.2.1, f.2.2.1, 1000000, f.2.2.2.2.1, 0, ()) = some true := equal_refl n hn (f.1, f.2.1, f.2.2.1, 1000000, f.2.2.2.2.1, 0, ()) (by have := hI.vs.2.2; show f.2.2.1.length ≤ 1000; omega) (by have := hI.tg.2.1; show f.2.2.2.2.1.length ≤ 1000; omega)
      rw [hlen0, cond_false, parse_eq n hn _ (by simp only [List.length_append, List.length_cons, List.length_nil]; omega), tags_all hI which hne, some_bind']
      dsimp only
      rw [beq_self_eq_true, Bool.and_self, cond_true, hq2]
      rfl
  · rw [g1]
    have hz : F.metric_Equal n (zeroM.1, zeroM.2.1, zeroM.2.2.1, zeroM.2.2.2.1, zeroM.2.2.2.2.1, zeroM.2.2.2.2.2.1, ()) ([], (0 : Int), [], (0 : Int), [], (0 : Int), ()) = some true := equal_refl n hn zeroM (by decide) (by decide)
    rw [some_bind']
    dsimp only
    rw [beq_eq_false_iff_ne.2 he, Bool.not_false, cond_true]
    rw [hz]
    rfl
end Go.AM
namespace Go.Proofs.YtgkhaoohkeblfaaGreatDoor.dogPieces
open Go.ChangeShapes Go.WideShapes Go.ChangeAt Go.RowKit Go.AM
theorem own : ownKnob Tryz.prog.godebug = none := by kernel_rfl
theorem goes : LawGoes Tryz.prog SI 6 [(.agg [.str, (.int .i64), (.sl (.agg [.bool, (.int .u64), (.int .i64)])), (.int .i64), (.sl (.agg [.str, .str])), (.int .i64)]), (.int .i64)] := fun x hx w vals hI hr =>
  ok6 _ ((x.1.1, x.1.2.1, x.1.2.2.1, x.1.2.2.2.1, x.1.2.2.2.2.1, x.1.2.2.2.2.2, ()), x.2.1, ()) true (dog_pieces 200000 (by omega) (x.1.1, x.1.2.1, x.1.2.2.1, x.1.2.2.2.1, x.1.2.2.2.2.1, x.1.2.2.2.2.2, ()) x.2.1 hx.1.2.2.1.2) w (AllD w) vals (WOf.of hI) hr (fun b o h => h)
noncomputable def laidWorld (os : Os) : World := laidOf Tryz.prog os [layTab 4 Rows.laid_math_bits_deBruijn32tab, layTab 5 Rows.laid_math_bits_deBruijn64tab, layTab 0 Rows.laid_internal_strconv_uint64pow10, layTab 3 Rows.laid_unicode_utf8_acceptRanges, layErr 7 232 234 Rows.laid_strconv_ErrRange, layErr 6 232 234 Rows.laid_strconv_ErrSyntax, layTab 2 Rows.laid_unicode_utf8_first]
theorem laid_met (os : Os) (args : Array Value) : laidMet Tryz.prog Rows.dogPiecesRow.laid ((laidWorld os).forCall (fun _ _ => 0) ⟨#[], args, []⟩).memory :=
  (LaidIn.of_run [4, 5, 0, 3, 7, 6, 2, (World.holding Tryz.prog os ⟨#[], #[], []⟩).heap.size, (World.holding Tryz.prog os ⟨#[], #[], []⟩).heap.size + 1] 8 (by kernel_rfl) (by kernel_rfl) (by kernel_rfl) (by kernel_rfl)).met
theorem witness_row (os : Os) {H : Type} (enc : TypeId × Value → H) :
    (OpenSpec.ofChange Rows.dogPiecesSpec).preRow enc Tryz.prog Tryz.f6 Rows.dogPiecesRow.domain false Rows.dogPiecesRow.laid ((laidWorld os).forCall (fun _ _ => 0) ⟨#[], #[.agg #[.string .empty, .int .i64 0, .slice none 0 0, .int .i64 0, .slice none 0 0, .int .i64 0], .int .i64 0], []⟩).memory #[.agg #[.string .empty, .int .i64 0, .slice none 0 0, .int .i64 0, .slice none 0 0, .int .i64 0], .int .i64 0] := by
  have hw : (DataW.whole enc Tryz.prog ((laidWorld os).forCall (fun _ _ => 0) ⟨#[], #[.agg #[.string .empty, .int .i64 0, .slice none 0 0, .int .i64 0, .slice none 0 0, .int .i64 0], .int .i64 0], []⟩).memory Tryz.f6.params.toList Rows.dogPiecesSpec.vars false (#[.agg #[.string .empty, .int .i64 0, .slice none 0 0, .int .i64 0, .slice none 0 0, .int .i64 0], .int .i64 0] : Array Value).toList 8).map (fun x => (x.1, x.2.1)) =
      some ([.agg [.lit (.string []), .lit (.int .i64 0), .nil, .lit (.int .i64 0), .nil, .lit (.int .i64 0)], .lit (.int .i64 0)], []) := by kernel_rfl
  obtain ⟨⟨x1, x2, x3⟩, hx, hx1⟩ := Option.map_eq_some_iff.1 hw
  simp only [Prod.mk.injEq] at hx1
  obtain ⟨rfl, rfl⟩ := hx1
  exact OpenSpec.preRow_of_cond 8 hx (by kernel_rfl) (fun k hk => by cases hk) (by kernel_rfl) (laid_met os _)
set_option maxRecDepth 100000 in
theorem lifted (os : Os) (started : os.Started) (H : Type) (enc : TypeId × Value → H) (F : Stop.Interp) :
    ReturnsInHanded {} Tryz.checked os 6 .any ((OpenSpec.ofChange Rows.dogPiecesSpec).preRow enc Tryz.prog Tryz.f6 Rows.dogPiecesRow.domain false Rows.dogPiecesRow.laid) (((OpenSpec.ofChange Rows.dogPiecesSpec).at F).post enc Tryz.prog Tryz.f6 false true false false) := by
  refine returnsInHanded_of_row (C := Tryz.checked) (s := OpenSpec.ofChange Rows.dogPiecesSpec) own started (by kernel_rfl) Tryz.func6
    (witness_row_atRef (enc := enc) (C := Tryz.checked) false (laidWorld os) #[.agg #[.string .empty, .int .i64 0, .slice none 0 0, .int .i64 0, .slice none 0 0, .int .i64 0], .int .i64 0] rfl (by kernel_rfl) (by kernel_rfl) (by kernel_rfl) (witness_row os enc)) ?_
  intro W base args ds gs before hval hW _ _ hw hL hO _
  exact law_calls (s := Rows.dogPiecesSpec) (n := 8) (by kernel_rfl) Tryz.func6 (by kernel_rfl) (by decide) (by kernel_rfl) rfl Tryz.underlying4 rfl (fun ds h => by match ds, h with | [_, _], _ => rfl) goes hval hW hw ⟨hL, hO⟩
theorem said : Rows.DogPiecesSaid :=
  OpenClaim.holds_of_cond 6 Tryz.f6 rfl rfl rfl rfl rfl rfl rfl ⟨rfl, rfl, rfl, rfl, rfl⟩ rfl rfl rfl rfl rfl (by kernel_rfl) Tryz.func6 (by kernel_rfl)
    (of_decide_eq_true (by kernel_rfl)) (by unfold Func.isWrapper; first | (rw [if_pos (by decide +kernel)]; kernel_rfl) | (rw [if_neg (by decide +kernel)]; exact ⟨rfl, rfl⟩))
    (fun os started H enc _ F => by rw [OpenClaim.pre_eq_preRow]; exact lifted os started H enc F)
theorem plain (f : FuncId) (fn : Func) (hf : Tryz.pinned.checked.prog.funcNamed "forebay/forebaylaw11.DogPieces" = some f) (hfn : Tryz.pinned.checked.prog.funcs[f]? = some fn) :
    true = Tryz.pinned.checked.prog.looks [] ∧ ∀ (j : Nat) t, fn.params[j]? = some t → Tryz.pinned.checked.prog.wantsStandIn t = false := by
  obtain rfl : f = 6 := Option.some.inj ((show Tryz.prog.funcNamed "forebay/forebaylaw11.DogPieces" = some 6 by kernel_rfl).symm.trans hf) |>.symm
  obtain rfl : fn = Tryz.f6 := (Option.some.inj (Tryz.func6.symm.trans hfn)).symm
  refine ⟨by kernel_rfl, fun j t ht => ?_⟩
  have hm : t ∈ ([35, 3] : List TypeId) := by
    rw [Tryz.params6] at ht
    have := Array.mem_of_getElem? ht
    simpa using this
  have all : ∀ x ∈ ([35, 3] : List TypeId), Tryz.prog.wantsStandIn x = false := fun x hx => by
    have h : ([35, 3] : List TypeId).all (fun x => Tryz.prog.wantsStandIn x == false) = true := by kernel_rfl
    simpa using List.all_eq_true.1 h x hx
  exact all t hm
theorem proved : Rows.DogPiecesCardSaid :=
  Claim7.holds_tied_plain_at .later [] _ _ _ _ said (fun _ h => by cases h) (by kernel_rfl) (fun _ h => by cases h) dogPieces_row_tie rfl ⟨rfl, rfl⟩ (by kernel_rfl) rfl plain (by kernel_rfl)
end Go.Proofs.YtgkhaoohkeblfaaGreatDoor.dogPieces
