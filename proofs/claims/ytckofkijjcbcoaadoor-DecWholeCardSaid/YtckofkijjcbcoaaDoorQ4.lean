/- DecWhole: for every input true, and the input reads as it did. -/
import Derived.Test.YtckofkijjcbcoaaDoorQ3
import Derived.Test.YtckofkijjcbcoaaDoorCards
import Derived.Test.YtckofkijjcbcoaaDoorTie
import Derived.OpenShut
import Derived.KernelRfl
set_option linter.unusedVariables false
set_option linter.unusedSimpArgs false
namespace Go.AM
def DecOK (d : DecD) : Prop := (0 ≤ d.2.1 ∧ d.2.1 ≤ 18446744073709551615) ∧ -9223372036854775808 ≤ d.2.2.1 ∧ d.2.2.1 ≤ 9223372036854775807
theorem dec_nat {d : DecD} (h : DecOK d) : ∃ (neg : Bool) (c : Nat) (e : Int), d = (neg, (c : Int), e, ()) ∧ c < two64 ∧ -9223372036854775808 ≤ e ∧ e ≤ 9223372036854775807 := by
  obtain ⟨neg, c, e, _⟩ := d
  obtain ⟨⟨h1, h2⟩, h3, h4⟩ := h
  simp only at h1 h2 h3 h4
  refine ⟨neg, c.toNat, e, ?_, ?_, h3, h4⟩
  · rw [show ((c.toNat : Nat) : Int) = c from by omega]
  · rw [two64_eq]; omega
theorem dec_normals (n : Nat) (hn : 5000 ≤ n) (d : DecD) (hd : DecOK d) : F.law03_DecNormals n d = some true := by
  obtain ⟨neg, c, e, rfl, hc, he⟩ := dec_nat hd
  unfold F.law03_DecNormals
  have hl := dd_len64 hc
  have hR : F.ref03_Normal n (neg, (c : Int), e, ()) = some (valR neg (Lib.decDigits c) e) := by
    unfold F.ref03_Normal
    simp only [digits03 n (by omega) c hc, make_eq n hn neg _ (dd_digs c) (by omega) e, some_bind']
    rcases valR_code neg (Lib.decDigits c) e with h | ⟨h1, h2⟩
    · rw [h]
      generalize valR neg (Lib.decDigits c) e = r at h ⊢
      obtain ⟨r1, r2, _⟩ := r
      simp only at h
      subst h
      rfl
    · rw [h1]
      generalize valR neg (Lib.decDigits c) e = r at h1 h2 ⊢
      obtain ⟨r1, r2, _⟩ := r
      simp only at h1 h2
      subst h1 h2
      rfl
  simp only [normal_eq n (by omega) neg c hc e he, hR, check_eq n (by omega) neg c hc e he, check_ref n hn neg c hc e, awake03 n hn, some_bind', beq_self_eq_true, Bool.and_self, cond_true]
theorem dec_parses (n : Nat) (hn : 5000 ≤ n) (s : List UInt8) : F.law03_DecParses n s = some true := by
  unfold F.law03_DecParses
  rw [awake03 n hn]
  by_cases h : 200 < s.length
  · rw [bif_pos (by omega)]; rfl
  · rw [bif_neg (by omega)]
    simp only [decparse_eq n hn s (by omega), refparse_eq n hn s (by omega), some_bind', beq_self_eq_true, Bool.and_self, cond_true]
theorem parse_cases (s : List UInt8) : ((parseR s).2.1.1 ≠ 0 ∧ (parseR s).1 = (false, 0, 0, ()) ∧ 0 ≤ (parseR s).2.1.2.1 ∧ (parseR s).2.1.2.1 ≤ s.length) ∨
    (∃ (neg : Bool) (c : Nat) (e : Int), parseR s = ((neg, (c : Int), e, ()), (0, 0, ()), ()) ∧ c < two64 ∧ (-9223372036854775808 ≤ e ∧ e ≤ 9223372036854775807) ∧ checkR neg c e = 0) := by
  unfold parseR
  by_cases h : (lookR s).1 = 0
  · rw [if_pos h]
    have hD : Digs (aheadD s ++ behindD s) := digs_append.2 ⟨tw_digs _, behind_digs s⟩
    generalize aheadD s ++ behindD s = d at hD
    generalize (-((behindD s).length : Int)) = E
    generalize negD s = neg
    by_cases hv : val d = 0
    · refine Or.inr ⟨false, 0, 0, ?_, by decide, by omega, ?_⟩
      · have : valR neg d E = zeroD := by unfold valR; rw [if_pos hv]
        rw [this]; rfl
      · have d0 : Lib.decDigits 0 = [48] := dd_small (by omega)
        unfold checkR
        rw [d0]; rfl
    · obtain ⟨c0, z, h1, h2⟩ := ten_split (val d) (by omega)
      rw [valR_core hD h2 h1]
      generalize E + (z : Int) = Y
      by_cases hY : Y < -18
      · refine Or.inl ?_
        have : normR neg c0 Y = ((false, 0, 0, ()), 10, ()) := by unfold normR; rw [if_pos hY]
        rw [this]
        exact ⟨by decide, rfl, by decide, by show (0 : Int) ≤ s.length; omega⟩
      · by_cases hf : c0 * 10 ^ (Y - 18).toNat < two64
        · have e1 : normR neg c0 Y = ((neg, ((c0 * 10 ^ (Y - 18).toNat : Nat) : Int), (if Y ≤ 18 then Y else 18), ()), 0, ()) := by unfold normR; rw [if_neg hY, if_pos hf]
          rw [e1]
          have hE : -18 ≤ (if Y ≤ 18 then Y else 18) ∧ (if Y ≤ 18 then Y else 18) ≤ 18 := by split <;> omega
          refine Or.inr ⟨neg, c0 * 10 ^ (Y - 18).toNat, (if Y ≤ 18 then Y else 18), rfl, hf, by omega, ?_⟩
          unfold checkR
          rw [if_neg (by omega), valR_core (dd_digs _) h2 (dd_val _)]
          have e2 : (if Y ≤ 18 then Y else 18) + (((Y - 18).toNat : Nat) : Int) = Y := by split <;> omega
          rw [e2, e1, if_pos ⟨rfl, rfl⟩]
        · refine Or.inl ?_
          have : normR neg c0 Y = ((false, 0, 0, ()), 10, ()) := by unfold normR; rw [if_neg hY, if_neg hf]
          rw [this]
          exact ⟨by decide, rfl, by decide, by show (0 : Int) ≤ s.length; omega⟩
  · rw [if_neg h]
    refine Or.inl ⟨h, rfl, ?_⟩
    show 0 ≤ (lookR s).2.1 ∧ (lookR s).2.1 ≤ s.length
    have endle : ∀ (r : Prop) [Decidable r] (a l : Nat), a ≤ l → 0 ≤ (endR r a l).2.1 ∧ (endR r a l).2.1 ≤ (l : Int) := by
      intro r _ a l hl
      unfold endR
      split
      · show (0 : Int) ≤ 0 ∧ (0 : Int) ≤ l; omega
      · split
        · show (0 : Int) ≤ a ∧ (a : Int) ≤ l; omega
        · show (0 : Int) ≤ a ∧ (a : Int) ≤ l; omega
    unfold lookR lookQ
    split
    · rename_i hp
      exact endle _ _ _ (p3_le hp.2)
    · exact endle _ _ _ (p1_le (p0_le s))
theorem back_tail (n : Nat) (hn : 5000 ≤ n) (s : List UInt8) (hs : s.length ≤ 200) :
    ((F.dec_Parse n s).bind fun y5 =>
                  bif !((y5.2.1.1 == (0 : Int)) && (y5.2.1.2.1 == (0 : Int))) then
                    bif (y5.1.1 == false) && ((y5.1.2.1 == (0 : Int)) && (y5.1.2.2.1 == (0 : Int))) then
                      bif !(y5.2.1.1 == (0 : Int)) then
                        bif decide (y5.2.1.2.1 ≥ (0 : Int)) then
                          bif decide (y5.2.1.2.1 ≤ (s.length : Int)) then
                            (F.law03_awake n ).bind fun y6 =>
                              some (y6)
                          else
                            some (false)
                        else
                          some (false)
                      else
                        some (false)
                    else
                      some (false)
                  else
                    (F.dec_Text n (y5.1.1, y5.1.2.1, y5.1.2.2.1, ())).bind fun y7 =>
                      (F.dec_Parse n y7.1).bind fun y8 =>
                        (F.dec_Check n (y5.1.1, y5.1.2.1, y5.1.2.2.1, ())).bind fun y9 =>
                          bif y9 == (0 : Int) then
                            bif y7.2.1 == (0 : Int) then
                              bif (y8.2.1.1 == (0 : Int)) && (y8.2.1.2.1 == (0 : Int)) then
                                bif (y8.1.1 == y5.1.1) && ((y8.1.2.1 == y5.1.2.1) && (y8.1.2.2.1 == y5.1.2.2.1)) then
                                  (F.law03_awake n ).bind fun y10 =>
                                    some (y10)
                                else
                                  some (false)
                              else
                                some (false)
                            else
                              some (false)
                          else
                            some (false)) = some true := by
  rw [decparse_eq n hn s (by omega), some_bind', awake03 n hn]
  rcases parse_cases s with ⟨h1, h2, h3, h4⟩ | ⟨neg, c, e, h1, hc, he, hk⟩
  · have e1 : ((parseR s).2.1.1 == 0) = false := by simpa using h1
    rw [e1, h2]
    have a1 : decide ((parseR s).2.1.2.1 ≥ 0) = true := by simpa using h3
    have a2 : decide ((parseR s).2.1.2.1 ≤ (s.length : Int)) = true := by simpa using h4
    simp only [Bool.false_and, Bool.not_false, cond_true, a1, a2, some_bind']
    rfl
  · rw [h1]
    have hl := text_len neg c hc e (check_zero hk).2
    simp only [text_dec n hn neg c hc e he, check_eq n (by omega) neg c hc e he, hk, if_true, some_bind', decparse_eq n hn (textD neg c e) (by omega), parse_text neg c hc e hk, beq_self_eq_true, Bool.and_self, Bool.not_true, cond_false, cond_true]
theorem dec_back (n : Nat) (hn : 5000 ≤ n) (d : DecD) (hd : DecOK d) (s : List UInt8) : F.law03_DecBack n d s = some true := by
  obtain ⟨neg, c, e, rfl, hc, he⟩ := dec_nat hd
  have T : ∀ h : s.length ≤ 200, _ := fun h => back_tail n hn s h
  unfold F.law03_DecBack
  by_cases h : 200 < s.length
  · rw [bif_pos (by omega), awake03 n hn]; rfl
  have T := T (by omega)
  rw [bif_neg (by omega)]
  simp only [text_dec n hn neg c hc e he, some_bind']
  by_cases hk : checkR neg c e = 0
  · have hl := text_len neg c hc e (check_zero hk).2
    have h39 : decide (((textD neg c e).length : Int) > 39) = false := by
      have := hl.1
      simp; omega
    simp only [hk, if_true, beq_self_eq_true, cond_true, decparse_eq n hn (textD neg c e) (by omega), parse_text neg c hc e hk, check_eq n (by omega) neg c hc e he, some_bind', Bool.and_self, Bool.not_true, cond_false, h39]
    exact T
  · have e1 : (checkR neg c e == 0) = false := by simpa using hk
    rw [if_neg hk]
    simp only [e1, cond_false, beq_self_eq_true, Bool.not_true, check_eq n (by omega) neg c hc e he, some_bind']
    exact T
end Go.AM
set_option linter.unusedVariables false
set_option linter.unusedSimpArgs false
namespace Go.AM
def cmpN (x y : Nat) : Int := if x < y then -1 else if y < x then 1 else 0
theorem cmpN_scale {a b k : Nat} (hk : 0 < k) : cmpN (a * k) (b * k) = cmpN a b := by
  unfold cmpN
  rcases Nat.lt_trichotomy a b with h | h | h
  · rw [if_pos h, if_pos (Nat.mul_lt_mul_of_pos_right h hk)]
  · subst h; simp
  · have h' := Nat.mul_lt_mul_of_pos_right h hk
    rw [if_neg (show ¬ a * k < b * k by omega), if_pos h', if_neg (show ¬ a < b by omega), if_pos h]
theorem bl_irr (l : List UInt8) : Op.bytesLess l l = false := by
  induction l with
  | nil => rfl
  | cons b l ih => rw [bl_cons, ih]; simp
theorem compareBytes_eq (l m : List UInt8) : Lib.compareBytes l m = if Op.bytesLess l m then -1 else if Op.bytesLess m l then 1 else 0 := by
  induction l generalizing m with
  | nil => cases m <;> simp [Lib.compareBytes, Op.bytesLess]
  | cons b l ih => cases m with
    | nil => simp [Lib.compareBytes, Op.bytesLess]
    | cons c m =>
      rw [bl_cons, bl_cons]
      unfold Lib.compareBytes
      by_cases h : b.toNat < c.toNat
      · rw [if_pos (UInt8.lt_iff_toNat_lt.2 h)]; simp [h]
      · rw [if_neg (fun hh => h (UInt8.lt_iff_toNat_lt.1 hh))]
        by_cases h2 : c.toNat < b.toNat
        · rw [if_pos (UInt8.lt_iff_toNat_lt.2 h2)]
          have : ¬ b.toNat = c.toNat := by omega
          simp [h, h2, this]
        · rw [if_neg (fun hh => h2 (UInt8.lt_iff_toNat_lt.1 hh)), ih]
          have : b.toNat = c.toNat := by omega
          simp [this]
theorem compare_val {l m : List UInt8} (hl : Digs l) (hm : Digs m) (hlen : l.length = m.length) : Lib.compareBytes l m = cmpN (val l) (val m) := by
  rw [compareBytes_eq, less_val hl hm hlen, less_val hm hl hlen.symm]
  unfold cmpN
  simp
def mag (c : Nat) (e : Int) : Nat := c * 10 ^ (18 + e).toNat
theorem mag_pos {c : Nat} (h : 0 < c) (e : Int) : 0 < mag c e := Nat.mul_pos h (Nat.pow_pos (by omega))
theorem dd_ge {c : Nat} (h : 0 < c) : 10 ^ ((Lib.decDigits c).length - 1) ≤ c := by
  have := val_ge (dd_digs c) (dd_ne c) (fun x hx h48 => by
    subst h48
    have h1 := (dd_head c).2 hx
    cases e : Lib.decDigits c with
    | nil => exact dd_ne c e
    | cons b r =>
      rw [e] at hx h1
      have hr : r = [] := by simpa using h1
      have hb : b = 48 := by simpa using hx
      have hv := dd_val c
      rw [e, hr, hb] at hv
      rw [← hv] at h
      exact absurd h (by decide))
  rwa [dd_val] at this
theorem dd_lt (c : Nat) : c < 10 ^ (Lib.decDigits c).length := by have := val_lt (dd_digs c); rwa [dd_val] at this
theorem futoa_eq (n : Nat) {c : Nat} (hc : c < two64) : O.futoa n (c : Int) 10 = some (Lib.decDigits c) := by
  unfold O.futoa
  have : (decide ((0 : Int) ≤ (c : Int)) && decide ((c : Int) < 18446744073709551616) && decide ((10 : Int) = 10)) = true := by
    rw [two64_eq] at hc
    simp; omega
  rw [this]; rfl
theorem mag_lt {a b : Nat} {x y : Int} (hx : -18 ≤ x) (hy : -18 ≤ y) (hb : 0 < b) (h : ((Lib.decDigits a).length : Int) + x < ((Lib.decDigits b).length : Int) + y) : mag a x < mag b y := by
  have h1 := dd_lt a
  have h2 := dd_ge hb
  have hp : 0 < (Lib.decDigits b).length := List.length_pos_iff.2 (dd_ne b)
  unfold mag
  have a1 : a * 10 ^ (18 + x).toNat < 10 ^ (Lib.decDigits a).length * 10 ^ (18 + x).toNat := Nat.mul_lt_mul_of_pos_right h1 (Nat.pow_pos (by omega))
  rw [← Nat.pow_add] at a1
  have a2 : 10 ^ ((Lib.decDigits b).length - 1) * 10 ^ (18 + y).toNat ≤ b * 10 ^ (18 + y).toNat := Nat.mul_le_mul_right _ h2
  rw [← Nat.pow_add] at a2
  have a3 : 10 ^ ((Lib.decDigits a).length + (18 + x).toNat) ≤ 10 ^ ((Lib.decDigits b).length - 1 + (18 + y).toNat) := Nat.pow_le_pow_right (by omega) (by omega)
  omega
theorem size_eq (n : Nat) (na nb : Bool) {a b : Nat} (ha : a < two64) (hb : b < two64) {x y : Int} (hx : -18 ≤ x ∧ x ≤ 18) (hy : -18 ≤ y ∧ y ≤ 18) : F.dec_size n (na, (a : Int), x, ()) (nb, (b : Int), y, ()) = some (cmpN (mag a x) (mag b y)) := by
  unfold F.dec_size
  simp only [futoa_eq n ha, futoa_eq n hb, some_bind']
  have one : ∀ c : Nat, c < two64 → (if (IntKind.wrap .i64 (if (1 : Int) < (c : Int) then (1 : Int) else (c : Int))) < (1 : Int) then (IntKind.wrap .i64 (if (1 : Int) < (c : Int) then (1 : Int) else (c : Int))) else (1 : Int)) = if c = 0 then 0 else 1 := by
    intro c hc
    by_cases h0 : c = 0
    · subst h0; rfl
    · rw [if_neg h0]
      by_cases h1 : (1 : Int) < (c : Int)
      · rw [if_pos h1]; rfl
      · rw [if_neg h1, show c = 1 from by omega]; rfl
  rw [one a ha, one b hb]
  have la := dd_len64 ha
  have lb := dd_len64 hb
  by_cases ha0 : a = 0
  · have e : ((a : Int) == 0) = true := by simp [ha0]
    rw [e, cond_true, if_pos ha0]
    have hm : mag a x = 0 := by unfold mag; rw [ha0, Nat.zero_mul]
    rw [hm]
    by_cases hb0 : b = 0
    · rw [if_pos hb0]
      have : mag b y = 0 := by unfold mag; rw [hb0, Nat.zero_mul]
      rw [this]; rfl
    · rw [if_neg hb0]
      have := mag_pos (show 0 < b by omega) y
      unfold cmpN
      rw [if_pos this]; rfl
  have ea : ((a : Int) == 0) = false := by simpa using ha0
  rw [ea, cond_false, if_neg ha0]
  have pa := mag_pos (show 0 < a by omega) x
  by_cases hb0 : b = 0
  · have e : ((b : Int) == 0) = true := by simp [hb0]
    rw [e, cond_true, if_pos hb0]
    have hm : mag b y = 0 := by unfold mag; rw [hb0, Nat.zero_mul]
    rw [hm]
    unfold cmpN
    rw [if_neg (by omega), if_pos pa]; rfl
  have eb : ((b : Int) == 0) = false := by simpa using hb0
  rw [eb, cond_false, wrap_in (x := ((Lib.decDigits a).length : Int) + x) (by omega), wrap_in (x := ((Lib.decDigits b).length : Int) + y) (by omega)]
  by_cases hn : ((Lib.decDigits a).length : Int) + x = ((Lib.decDigits b).length : Int) + y
  · have e : (((Lib.decDigits a).length : Int) + x == ((Lib.decDigits b).length : Int) + y) = true := by simp [hn]
    rw [e, Bool.not_true, cond_false]
    generalize hL : max (Lib.decDigits a).length (Lib.decDigits b).length = L
    have hmx : (if ((Lib.decDigits b).length : Int) > ((Lib.decDigits a).length : Int) then ((Lib.decDigits b).length : Int) else ((Lib.decDigits a).length : Int)) = (L : Int) := by
      split <;> omega
    rw [hmx]
    have w1 : IntKind.wrap .i64 ((L : Int) - ((Lib.decDigits a).length : Int)) = ((L - (Lib.decDigits a).length : Nat) : Int) := by rw [wrap_in (by omega)]; omega
    have w2 : IntKind.wrap .i64 ((L : Int) - ((Lib.decDigits b).length : Int)) = ((L - (Lib.decDigits b).length : Nat) : Int) := by rw [wrap_in (by omega)]; omega
    rw [w1, w2, repeat_eq n (by omega), some_bind', repeat_eq n (by omega), bif_pos (by rw [strMax_eq]; simp; omega), some_bind', bif_pos (by rw [strMax_eq]; simp; omega)]
    unfold O.compare
    rw [some_bind', Int.toNat_natCast, Int.toNat_natCast, compare_val (digs_append.2 ⟨dd_digs a, digs_rep _⟩) (digs_append.2 ⟨dd_digs b, digs_rep _⟩) (by simp; omega), val_zeros_right, val_zeros_right, dd_val, dd_val]
    congr 1
    have hk : 0 < 10 ^ (18 + ((Lib.decDigits a).length : Int) + x - L).toNat := Nat.pow_pos (by omega)
    rw [← cmpN_scale hk]
    unfold mag
    rw [Nat.mul_assoc, Nat.mul_assoc, ← Nat.pow_add, ← Nat.pow_add]
    congr 3
    · congr 1; omega
    · congr 1; omega
  · have e : (((Lib.decDigits a).length : Int) + x == ((Lib.decDigits b).length : Int) + y) = false := by simpa using hn
    rw [e, Bool.not_false, cond_true]
    by_cases hlt : ((Lib.decDigits a).length : Int) + x < ((Lib.decDigits b).length : Int) + y
    · rw [bif_pos hlt]
      have := mag_lt hx.1 hy.1 (show 0 < b by omega) hlt
      unfold cmpN
      rw [if_pos this]
    · rw [bif_neg hlt]
      have := mag_lt hy.1 hx.1 (show 0 < a by omega) (show ((Lib.decDigits b).length : Int) + y < ((Lib.decDigits a).length : Int) + x by omega)
      unfold cmpN
      rw [if_neg (by omega), if_pos this]
def cmpD (na : Bool) (a : Nat) (x : Int) (nb : Bool) (b : Nat) (y : Int) : Int :=
  if na then (if nb then cmpN (mag b y) (mag a x) else -1) else if nb then 1 else cmpN (mag a x) (mag b y)
theorem cmp_step {X : Type} (n m : Nat) (k0 : Bool → Int → Int → Bool → Int → Int → Option X) (kr : Int → Int → Bool → Int → Int → Bool → Int → Int → Option X) (v : (Bool) × (Int) × (Int) × (Bool) × (Int) × (Int) × Unit) (i : Int) (b0 : Bool) (b1 b2 : Int) (b3 : Bool) (b4 b5 : Int) :
    F.dec_Compare.L2 n k0 kr (m + 1) v i b0 b1 b2 b3 b4 b5 = F.dec_Compare.L2.step n (F.dec_Compare.L2 n k0 kr m) k0 kr v i b0 b1 b2 b3 b4 b5 := rfl
theorem compare_core (n : Nat) (hn : 100 ≤ n) (na nb : Bool) {a b : Nat} (ha : a < two64) (hb : b < two64) {x y : Int} (hx : -9223372036854775808 ≤ x ∧ x ≤ 9223372036854775807) (hy : -9223372036854775808 ≤ y ∧ y ≤ 9223372036854775807)
    (X : Type) (k0 : Bool → Int → Int → Bool → Int → Int → Option X) (kr : Int → Int → Bool → Int → Int → Bool → Int → Int → Option X) (m : Nat) :
    F.dec_Compare.L2 n k0 kr (m + 3) (na, (a : Int), x, nb, (b : Int), y, ()) 0 na (a : Int) x nb (b : Int) y = if checkR na a x ≠ 0 then kr 0 (checkR na a x) na (a : Int) x nb (b : Int) y else if checkR nb b y ≠ 0 then kr 0 (checkR nb b y) na (a : Int) x nb (b : Int) y else k0 na (a : Int) x nb (b : Int) y := by
  rw [cmp_step n (m + 2)]
  unfold F.dec_Compare.L2.step
  have c0 : decide ((0 : Int) < 2) = true := rfl
  have c1 : ((0 : Int) == 0) = true := rfl
  rw [c0, c1, cond_true, cond_true, check_eq n hn na a ha x hx, some_bind']
  by_cases h1 : checkR na a x = 0
  · have e1 : (!(checkR na a x == 0)) = false := by simp [h1]
    rw [e1, cond_false, if_neg (fun h => h h1)]
    rw [cmp_step n (m + 1), show IntKind.wrap .i64 ((0 : Int) + 1) = 1 from rfl]
    unfold F.dec_Compare.L2.step
    have d0 : decide ((1 : Int) < 2) = true := rfl
    have d1 : ((1 : Int) == 0) = false := rfl
    have d2 : ((1 : Int) == 1) = true := rfl
    rw [d0, d1, d2, cond_true, cond_false, cond_true, check_eq n hn nb b hb y hy, some_bind']
    by_cases h2 : checkR nb b y = 0
    · have e2 : (!(checkR nb b y == 0)) = false := by simp [h2]
      rw [e2, cond_false, if_neg (fun h => h h2)]
      rw [cmp_step n m, show IntKind.wrap .i64 ((1 : Int) + 1) = 2 from rfl]
      unfold F.dec_Compare.L2.step
      have f0 : decide ((2 : Int) < 2) = false := rfl
      rw [f0, cond_false]
    · have e2 : (!(checkR nb b y == 0)) = true := by simpa using h2
      rw [e2, cond_true, if_pos h2]
  · have e1 : (!(checkR na a x == 0)) = true := by simpa using h1
    rw [e1, cond_true, if_pos h1]
theorem compare_eq (n : Nat) (hn : 100 ≤ n) (na nb : Bool) {a b : Nat} (ha : a < two64) (hb : b < two64) {x y : Int} (hx : -9223372036854775808 ≤ x ∧ x ≤ 9223372036854775807) (hy : -9223372036854775808 ≤ y ∧ y ≤ 9223372036854775807) :
    F.dec_Compare n (na, (a : Int), x, ()) (nb, (b : Int), y, ()) = some (if checkR na a x ≠ 0 then (0, checkR na a x, ()) else if checkR nb b y ≠ 0 then (0, checkR nb b y, ()) else (cmpD na a x nb b y, 0, ())) := by
  unfold F.dec_Compare
  obtain ⟨m, hm⟩ : ∃ q, n = q + 3 := ⟨n - 3, by omega⟩
  have core := fun X k0 kr => compare_core n hn na nb ha hb hx hy X k0 kr m
  rw [← hm] at core
  refine (core _ _ _).trans ?_
  by_cases h1 : checkR na a x = 0
  · by_cases h2 : checkR nb b y = 0
    · have hA := (check_zero h1).2
      have hB := (check_zero h2).2
      simp only [ne_eq, h1, h2, not_true_eq_false, if_false, size_eq n na nb ha hb hA hB, size_eq n nb na hb ha hB hA]
      unfold cmpD
      cases na <;> cases nb <;> rfl
    · simp only [ne_eq, h1, h2, not_true_eq_false, not_false_eq_true, if_false, if_true]
  · simp only [ne_eq, h1, not_false_eq_true, if_true]
theorem text_zeros (n : Nat) (X : Type) (k0 : (List UInt8) → Bool → Int → Int → Option X) (neg : Bool) (c e : Int) : ∀ (j i m : Nat) (v : List UInt8), ((i : Int) + j = e ∨ j = 0 ∧ e ≤ i) → j < m → i + j ≤ 1000 → v.length + j ≤ 100000 → F.ref03_Text.L3 n k0 m v (i : Int) neg c e = k0 (v ++ List.replicate j 48) neg c e := by
  intro j
  induction j with
  | zero =>
    intro i m v h hm hi hv
    obtain ⟨m, rfl⟩ : ∃ q, m = q + 1 := ⟨m - 1, by omega⟩
    show F.ref03_Text.L3.step n _ k0 _ _ _ _ _ = _
    unfold F.ref03_Text.L3.step
    rw [bif_neg (by omega), List.replicate_zero, List.append_nil]
  | succ j ih =>
    intro i m v h hm hi hv
    obtain ⟨m, rfl⟩ : ∃ q, m = q + 1 := ⟨m - 1, by omega⟩
    show F.ref03_Text.L3.step n (F.ref03_Text.L3 n k0 m) k0 _ _ _ _ _ = _
    unfold F.ref03_Text.L3.step
    rw [bif_pos (by omega), bif_pos (by rw [strMax_eq]; omega), wrap_succ (by omega), ih (i + 1) m _ (by omega) (by omega) (by omega) (by simp; omega), List.append_assoc, List.replicate_succ]
    rfl
theorem text_pad (n : Nat) (X : Type) (k2 : (List UInt8) → Bool → Int → Int → Option X) (neg : Bool) (c e : Int) (he : -100 ≤ e ∧ e < 0) : ∀ (j m : Nat) (v : List UInt8), ((v.length : Int) + j = 1 - e ∨ j = 0 ∧ 1 - e ≤ v.length) → j < m → v.length + j ≤ 100000 → F.ref03_Text.L7 n k2 m v neg c e = k2 (List.replicate j 48 ++ v) neg c e := by
  intro j
  induction j with
  | zero =>
    intro m v h hm hv
    obtain ⟨m, rfl⟩ : ∃ q, m = q + 1 := ⟨m - 1, by omega⟩
    show F.ref03_Text.L7.step n _ k2 _ _ _ _ = _
    unfold F.ref03_Text.L7.step
    rw [wrap_in (by omega), bif_neg (by omega)]
    rfl
  | succ j ih =>
    intro m v h hm hv
    obtain ⟨m, rfl⟩ : ∃ q, m = q + 1 := ⟨m - 1, by omega⟩
    show F.ref03_Text.L7.step n (F.ref03_Text.L7 n k2 m) k2 _ _ _ _ = _
    unfold F.ref03_Text.L7.step
    rw [wrap_in (by omega), bif_pos (by omega), bif_pos (by rw [strMax_eq]; omega), ih m _ (by simp; omega) (by omega) (by simp; omega), List.replicate_succ', List.append_assoc]
theorem text_ref (n : Nat) (hn : 5000 ≤ n) (neg : Bool) (c : Nat) (hc : c < two64) (e : Int) (he : -18 ≤ e ∧ e ≤ 18) : F.ref03_Text n (neg, (c : Int), e, ()) = some (textD neg c e) := by
  unfold F.ref03_Text
  have hl := dd_len64 hc
  simp only [digits03 n (by omega) c hc, some_bind']
  have hz := text_zeros n (List UInt8) (fun e2_3 e2_b0_0 e2_b0_1 e2_b0_2 =>
        bif decide (e2_b0_2 < (0 : Int)) then
          F.ref03_Text.L7 n
            (fun e3_3 e3_b0_0 e3_b0_1 e3_b0_2 =>
              (sub e3_3 (0 : Int) (IntKind.wrap .i64 ((e3_3.length : Int) + e3_b0_2))).bind fun x4 =>
                bif decide (x4.length + 1 ≤ strMax) then
                  (sub e3_3 (IntKind.wrap .i64 ((e3_3.length : Int) + e3_b0_2)) (e3_3.length : Int)).bind fun x5 =>
                    bif decide (((x4 ++ ([46])).length) + x5.length ≤ strMax) then
                      bif e3_b0_0 then
                        bif decide (1 + (((x4 ++ ([46])) ++ x5).length) ≤ strMax) then
                          some (([45]) ++ ((x4 ++ ([46])) ++ x5))
                        else
                          none
                      else
                        some ((x4 ++ ([46])) ++ x5)
                    else
                      none
                else
                  none) n e2_3 e2_b0_0 e2_b0_1 e2_b0_2
        else
        bif e2_b0_0 then
          bif decide (1 + e2_3.length ≤ strMax) then
            some (([45]) ++ e2_3)
          else
            none
        else
          some (e2_3)) neg (c : Int) e e.toNat 0 n (Lib.decDigits c) (by omega) (by omega) (by omega) (by omega)
  refine hz.trans ?_
  unfold textD
  by_cases hE : 0 ≤ e
  · rw [bif_neg (by omega), if_pos hE]
    cases neg
    · rfl
    · rw [cond_true, bif_pos (by rw [strMax_eq]; simp; omega)]
      rfl
  · obtain ⟨w1, w2, w3⟩ := wideW_len c hc e (by omega)
    have hwl : (List.replicate (1 - e - (Lib.decDigits c).length).toNat (48 : UInt8)).length + (Lib.decDigits c).length = (wideW c e).length := by unfold wideW; simp
    have hww : List.replicate (1 - e - (Lib.decDigits c).length).toNat (48 : UInt8) ++ Lib.decDigits c = wideW c e := rfl
    rw [bif_pos (by omega), if_neg hE, show e.toNat = 0 from by omega, List.replicate_zero, List.append_nil, text_pad n _ _ neg (c : Int) e (by omega) (1 - e - (Lib.decDigits c).length).toNat n _ (by omega) (by omega) (by omega), hww]
    generalize wideW c e = w at w1 w2 w3
    have hat : IntKind.wrap .i64 ((w.length : Int) + e) = ((w.length - e.natAbs : Nat) : Int) := by rw [wrap_in (by omega)]; omega
    rw [hat]
    have s1 : sub w 0 ((w.length - e.natAbs : Nat) : Int) = some (w.take (w.length - e.natAbs)) := by
      have := sub_nat w 0 (w.length - e.natAbs) (by omega) (by omega)
      rw [List.drop_zero] at this
      exact this
    have s2 : sub w ((w.length - e.natAbs : Nat) : Int) (w.length : Int) = some (w.drop (w.length - e.natAbs)) := by
      have := sub_nat w (w.length - e.natAbs) w.length (by omega) (Nat.le_refl _)
      rw [List.take_length] at this
      exact this
    rw [s1, some_bind', bif_pos (by rw [strMax_eq]; simp; omega), s2, some_bind', bif_pos (by rw [strMax_eq]; simp; omega)]
    cases neg
    · rfl
    · rw [cond_true, bif_pos (by rw [strMax_eq]; simp; omega)]
      rfl
theorem wide_zeros (n : Nat) (X : Type) (k0 : (List UInt8) → Bool → Int → Int → Option X) (neg : Bool) (c e : Int) (he : -18 ≤ e ∧ e ≤ 18) : ∀ (j i m : Nat) (v : List UInt8), (i : Int) + j = 60 + e → j < m → v.length + j ≤ 100000 → F.ref03_wide.L3 n k0 m v (i : Int) neg c e = k0 (v ++ List.replicate j 48) neg c e := by
  intro j
  induction j with
  | zero =>
    intro i m v h hm hv
    obtain ⟨m, rfl⟩ : ∃ q, m = q + 1 := ⟨m - 1, by omega⟩
    show F.ref03_wide.L3.step n _ k0 _ _ _ _ _ = _
    unfold F.ref03_wide.L3.step
    rw [wrap_in (x := 60 + e) (by omega), bif_neg (by omega), List.replicate_zero, List.append_nil]
  | succ j ih =>
    intro i m v h hm hv
    obtain ⟨m, rfl⟩ : ∃ q, m = q + 1 := ⟨m - 1, by omega⟩
    show F.ref03_wide.L3.step n (F.ref03_wide.L3 n k0 m) k0 _ _ _ _ _ = _
    unfold F.ref03_wide.L3.step
    rw [wrap_in (x := 60 + e) (by omega), bif_pos (by omega), bif_pos (by rw [strMax_eq]; omega), wrap_succ (by omega), ih (i + 1) m _ (by omega) (by omega) (by simp; omega), List.append_assoc, List.replicate_succ]
    rfl
theorem wide_pad (n : Nat) (X : Type) (k2 : (List UInt8) → Bool → Int → Int → Option X) (neg : Bool) (c e : Int) : ∀ (j m : Nat) (v : List UInt8), v.length + j = 120 → j < m → F.ref03_wide.L6 n k2 m v neg c e = k2 (List.replicate j 48 ++ v) neg c e := by
  intro j
  induction j with
  | zero =>
    intro m v h hm
    obtain ⟨m, rfl⟩ : ∃ q, m = q + 1 := ⟨m - 1, by omega⟩
    show F.ref03_wide.L6.step n _ k2 _ _ _ _ = _
    unfold F.ref03_wide.L6.step
    rw [bif_neg (by omega)]
    rfl
  | succ j ih =>
    intro m v h hm
    obtain ⟨m, rfl⟩ : ∃ q, m = q + 1 := ⟨m - 1, by omega⟩
    show F.ref03_wide.L6.step n (F.ref03_wide.L6 n k2 m) k2 _ _ _ _ = _
    unfold F.ref03_wide.L6.step
    rw [bif_pos (by omega), bif_pos (by rw [strMax_eq]; omega), ih m _ (by simp; omega) (by omega), List.replicate_succ', List.append_assoc]
theorem wide_eq (n : Nat) (hn : 5000 ≤ n) (neg : Bool) (c : Nat) (hc : c < two64) (e : Int) (he : -18 ≤ e ∧ e ≤ 18) : ∃ w, F.ref03_wide n (neg, (c : Int), e, ()) = some w ∧ Digs w ∧ w.length = 120 ∧ val w = mag c e * 10 ^ 42 := by
  unfold F.ref03_wide
  have hl := dd_len64 hc
  simp only [digits03 n (by omega) c hc, some_bind']
  have hz := wide_zeros n (List UInt8) (fun e2_3 e2_b0_0 e2_b0_1 e2_b0_2 =>
        F.ref03_wide.L6 n
          (fun e3_3 e3_b0_0 e3_b0_1 e3_b0_2 =>
            some (e3_3)) n e2_3 e2_b0_0 e2_b0_1 e2_b0_2) neg (c : Int) e he (60 + e).toNat 0 n (Lib.decDigits c) (by omega) (by omega) (by omega)
  refine ⟨_, hz.trans (wide_pad n _ _ neg (c : Int) e (120 - ((Lib.decDigits c).length + (60 + e).toNat)) n _ (by simp; omega) (by omega)), ?_, ?_, ?_⟩
  · exact digs_append.2 ⟨digs_rep _, digs_append.2 ⟨dd_digs c, digs_rep _⟩⟩
  · simp; omega
  · rw [val_zeros_left, val_zeros_right, dd_val]
    unfold mag
    rw [Nat.mul_assoc, ← Nat.pow_add, show (18 + e).toNat + 42 = (60 + e).toNat from by omega]
theorem compare_ref (n : Nat) (hn : 5000 ≤ n) (na nb : Bool) {a b : Nat} (ha : a < two64) (hb : b < two64) {x y : Int} (hx : -18 ≤ x ∧ x ≤ 18) (hy : -18 ≤ y ∧ y ≤ 18) : F.ref03_Compare n (na, (a : Int), x, ()) (nb, (b : Int), y, ()) = some (cmpD na a x nb b y) := by
  unfold F.ref03_Compare
  obtain ⟨w1, e1, d1, l1, v1⟩ := wide_eq n hn na a ha x hx
  obtain ⟨w2, e2, d2, l2, v2⟩ := wide_eq n hn nb b hb y hy
  simp only [e1, e2, some_bind']
  have hk : 0 < 10 ^ 42 := Nat.pow_pos (by omega)
  have cmp : ∀ (u v : List UInt8), Digs u → Digs v → u.length = v.length → (bif Op.bytesLess u v then some (-1 : Int) else bif !(Op.bytesLess u v || u == v) then some (1 : Int) else some (0 : Int)) = some (cmpN (val u) (val v)) := by
    intro u v hu hv hlen
    rw [less_val hu hv hlen]
    unfold cmpN
    rcases Nat.lt_trichotomy (val u) (val v) with h | h | h
    · rw [decide_eq_true h, if_pos h]; rfl
    · have : u = v := val_inj hu hv hlen h
      subst this
      simp
    · have h1 : ¬ val u < val v := by omega
      have h2 : ¬ u = v := fun hh => by subst hh; omega
      rw [decide_eq_false h1, if_neg h1, if_pos h, beq_eq_false_iff_ne.2 h2]; rfl
  have c12 := cmp w1 w2 d1 d2 (by omega)
  have c21 := cmp w2 w1 d2 d1 (by omega)
  rw [v1, v2, cmpN_scale hk] at c12
  rw [v1, v2, cmpN_scale hk] at c21
  unfold cmpD
  cases na <;> cases nb
  · exact c12
  · rfl
  · rfl
  · exact c21
theorem dec_texts (n : Nat) (hn : 5000 ≤ n) (d f : DecD) (hd : DecOK d) (hf : DecOK f) : F.law03_DecTexts n d f = some true := by
  obtain ⟨na, a, x, rfl, ha, hx⟩ := dec_nat hd
  obtain ⟨nb, b, y, rfl, hb, hy⟩ := dec_nat hf
  unfold F.law03_DecTexts
  simp only [text_dec n hn na a ha x hx, compare_eq n (by omega) na nb ha hb hx hy, check_ref n hn na a ha x, check_ref n hn nb b hb y, awake03 n hn, some_bind']
  by_cases h1 : checkR na a x = 0
  · have hA := (check_zero h1).2
    simp only [h1, if_true, beq_self_eq_true, Bool.not_true, cond_false, text_ref n hn na a ha x hA, some_bind', ne_eq, not_true_eq_false, if_false]
    by_cases h2 : checkR nb b y = 0
    · have hB := (check_zero h2).2
      simp only [h2, beq_self_eq_true, Bool.not_true, cond_false, not_true_eq_false, if_false, compare_ref n hn na nb ha hb hA hB, some_bind', cond_true]
    · have e2 : (checkR nb b y == 0) = false := by simpa using h2
      simp only [e2, Bool.not_false, cond_true, h2, not_false_eq_true, if_true, beq_self_eq_true]
  · have e1 : (checkR na a x == 0) = false := by simpa using h1
    simp only [e1, Bool.not_false, cond_true, h1, if_false, ne_eq, not_false_eq_true, if_true, beq_self_eq_true]
theorem whole_form (neg : Bool) (u : Nat) (hu : u ≤ 9223372036854775808) (h0 : u = 0 → neg = false) : ∃ (c : Nat) (e : Int), valR neg (Lib.decDigits u) 0 = ((neg, (c : Int), e, ()), 0, ()) ∧ c < two64 ∧ checkR neg c e = 0 ∧ textD neg c e = sgn neg ++ Lib.decDigits u ∧ mag c e = u * 10 ^ 18 := by
  by_cases hz : u = 0
  · subst hz
    have d0 : Lib.decDigits 0 = [48] := dd_small (by omega)
    rw [h0 rfl, d0]
    refine ⟨0, 0, rfl, by decide, ?_, ?_, rfl⟩
    · unfold checkR; rw [d0]; rfl
    · unfold textD; rw [d0]; rfl
  · obtain ⟨c0, z, h1, h2⟩ := ten_split u (by omega)
    have hc0 : 0 < c0 := by omega
    have hz18 : z ≤ 18 := by
      refine Classical.byContradiction fun hh => ?_
      have a1 : 10 ^ 19 ≤ 10 ^ z := Nat.pow_le_pow_right (by omega) (by omega)
      have a2 := Nat.le_mul_of_pos_left (10 ^ z) hc0
      omega
    have hle : c0 ≤ u := by
      rw [h1]
      exact Nat.le_mul_of_pos_right c0 (Nat.pow_pos (by omega))
    have hc : c0 < two64 := by rw [two64_eq]; omega
    have hnorm : ∀ e : Int, 0 ≤ e ∧ e ≤ 18 → normR neg c0 e = ((neg, (c0 : Int), e, ()), 0, ()) := by
      intro e he
      unfold normR
      rw [if_neg (by omega), show (e - 18).toNat = 0 from by omega, Nat.pow_zero, Nat.mul_one, if_pos hc, if_pos (by omega)]
    have hv : valR neg (Lib.decDigits u) 0 = normR neg c0 (0 + (z : Int)) := valR_core (dd_digs u) h2 (by rw [dd_val]; exact h1) neg 0
    have hch : checkR neg c0 (z : Int) = 0 := by
      unfold checkR
      rw [if_neg (by omega), valR_core (dd_digs c0) h2 (z := 0) (by rw [dd_val]; simp)]
      rw [show (z : Int) + ((0 : Nat) : Int) = z from by omega, hnorm z (by omega), if_pos ⟨rfl, rfl⟩]
    refine ⟨c0, (z : Int), ?_, hc, hch, ?_, ?_⟩
    · rw [hv, show (0 : Int) + (z : Int) = z from by omega]
      exact hnorm z (by omega)
    · unfold textD
      rw [if_pos (by omega), Int.toNat_natCast]
      congr 1
      have hn : Norm (Lib.decDigits c0 ++ List.replicate z 48) := by
        refine ⟨by simp [dd_ne], fun hh => ?_⟩
        have hne := dd_ne c0
        have hh1 : (Lib.decDigits c0).head? = some 48 := by
          cases e : Lib.decDigits c0 with
          | nil => exact absurd e hne
          | cons b r => rw [e] at hh; simpa using hh
        have hl1 := (dd_head c0).2 hh1
        cases e : Lib.decDigits c0 with
        | nil => exact absurd e hne
        | cons b r =>
          rw [e] at hh1 hl1
          have hr : r = [] := by simpa using hl1
          have hb : b = 48 := by simpa using hh1
          have hvv := dd_val c0
          rw [e, hr, hb] at hvv
          have : (0 : Nat) = c0 := hvv
          omega
      have := dd_inv (digs_append.2 ⟨dd_digs c0, digs_rep z⟩) hn
      rw [val_zeros_right, dd_val, ← h1] at this
      exact this.symm
    · unfold mag
      rw [show (18 + (z : Int)).toNat = z + 18 from by omega, Nat.pow_add, ← Nat.mul_assoc, ← h1]
def negI (k : Int) : Bool := decide (k < 0)
theorem of_eq (n : Nat) (hn : 5000 ≤ n) (k : Int) (hk : -9223372036854775808 ≤ k ∧ k ≤ 9223372036854775807) : F.dec_Of n k = some (valR (negI k) (Lib.decDigits k.natAbs) 0).1 := by
  unfold F.dec_Of negI
  by_cases h : k < 0
  · have hw : IntKind.wrap .u64 (0 - IntKind.wrap .u64 k) = (k.natAbs : Int) := by rw [IntKind.wrap_u64, IntKind.wrap_u64]; omega
    rw [bif_pos h, hw, normal_eq n (by omega) true k.natAbs (by rw [two64_eq]; omega) 0 (by omega), some_bind', decide_eq_true h]
  · have hw : IntKind.wrap .u64 k = (k.natAbs : Int) := by rw [IntKind.wrap_u64]; omega
    rw [bif_neg h, hw, normal_eq n (by omega) false k.natAbs (by rw [two64_eq]; omega) 0 (by omega), some_bind', decide_eq_false h]
theorem dec_whole (n : Nat) (hn : 5000 ≤ n) (p q : Int) (hp : -9223372036854775808 ≤ p ∧ p ≤ 9223372036854775807) (hq : -9223372036854775808 ≤ q ∧ q ≤ 9223372036854775807) : F.law03_DecWhole n p q = some true := by
  unfold F.law03_DecWhole
  obtain ⟨a, x, v1, c1, k1, t1, m1⟩ := whole_form (negI p) p.natAbs (by omega) (fun h => by unfold negI; rw [decide_eq_false (by omega)])
  obtain ⟨b, y, v2, c2, k2, t2, m2⟩ := whole_form (negI q) q.natAbs (by omega) (fun h => by unfold negI; rw [decide_eq_false (by omega)])
  have hx := (check_zero k1).2
  have hy := (check_zero k2).2
  have hcmp : cmpD (negI p) a x (negI q) b y = if p < q then -1 else if p > q then 1 else 0 := by
    unfold cmpD
    rw [m1, m2, cmpN_scale (Nat.pow_pos (by omega)), cmpN_scale (Nat.pow_pos (by omega))]
    unfold negI cmpN
    by_cases g1 : p < 0 <;> by_cases g2 : q < 0 <;> simp only [g1, g2, decide_true, decide_false, if_true, Bool.false_eq_true, if_false]
    · by_cases h1 : p < q
      · rw [if_pos h1, if_pos (by omega)]
      · rw [if_neg h1, if_neg (by omega)]
        by_cases h2 : p > q
        · rw [if_pos h2, if_pos (by omega)]
        · rw [if_neg h2, if_neg (by omega)]
    · rw [if_pos (by omega)]
    · rw [if_neg (by omega), if_pos (by omega)]
    · by_cases h1 : p < q
      · rw [if_pos h1, if_pos (by omega)]
      · rw [if_neg h1, if_neg (by omega)]
        by_cases h2 : p > q
        · rw [if_pos h2, if_pos (by omega)]
        · rw [if_neg h2, if_neg (by omega)]
  simp only [of_eq n hn p hp, of_eq n hn q hq, v1, v2, some_bind', text_dec n hn (negI p) a c1 x (by omega), compare_eq n (by omega) (negI p) (negI q) c1 c2 (show -9223372036854775808 ≤ x ∧ x ≤ 9223372036854775807 by omega) (show -9223372036854775808 ≤ y ∧ y ≤ 9223372036854775807 by omega),
    check_eq n (by omega) (negI p) a c1 x (by omega), check_eq n (by omega) (negI q) b c2 y (by omega), k1, k2, if_true, ne_eq, not_true_eq_false, if_false, beq_self_eq_true, Bool.not_true, cond_false, awake03 n hn, cond_true]
  rw [t1, hcmp]
  have hdig : ¬ p < 0 → F.ref03_Digits n (IntKind.wrap .u64 p) = some (Lib.decDigits p.natAbs) ∧ sgn (negI p) = [] := by
    intro h
    have hw : IntKind.wrap .u64 p = (p.natAbs : Int) := by rw [IntKind.wrap_u64]; omega
    rw [hw, digits03 n (by omega) _ (by rw [two64_eq]; omega)]
    exact ⟨rfl, by unfold negI; rw [decide_eq_false h]; rfl⟩
  have hdig' : p < 0 → F.ref03_Digits n (IntKind.wrap .u64 (0 - IntKind.wrap .u64 p)) = some (Lib.decDigits p.natAbs) ∧ sgn (negI p) = [45] := by
    intro h
    have hw : IntKind.wrap .u64 (0 - IntKind.wrap .u64 p) = (p.natAbs : Int) := by rw [IntKind.wrap_u64, IntKind.wrap_u64]; omega
    rw [hw, digits03 n (by omega) _ (by rw [two64_eq]; omega)]
    exact ⟨rfl, by unfold negI; rw [decide_eq_true h]; rfl⟩
  have hl : (Lib.decDigits p.natAbs).length ≤ 20 := dd_len64 (by rw [two64_eq]; omega)
  by_cases g1 : p < 0
  · obtain ⟨e1, e2⟩ := hdig' g1
    rw [bif_pos g1, e2]
    simp only [e1, some_bind', bif_pos g1]
    have hs : decide (1 + (Lib.decDigits p.natAbs).length ≤ strMax) = true := by rw [strMax_eq]; simp; omega
    simp only [hs, cond_true, beq_self_eq_true]
    by_cases h1 : p < q
    · rw [bif_pos h1, if_pos h1, bif_neg (by omega)]; rfl
    · rw [bif_neg h1, if_neg h1]
      by_cases h2 : p > q
      · rw [bif_pos h2, if_pos h2]; rfl
      · rw [bif_neg h2, if_neg h2]; rfl
  · obtain ⟨e1, e2⟩ := hdig g1
    rw [e2]
    simp only [e1, some_bind', bif_neg g1, List.nil_append, beq_self_eq_true, cond_true]
    by_cases h1 : p < q
    · rw [bif_pos h1, if_pos h1, bif_neg (by omega)]; rfl
    · rw [bif_neg h1, if_neg h1]
      by_cases h2 : p > q
      · rw [bif_pos h2, if_pos h2]; rfl
      · rw [bif_neg h2, if_neg h2]; rfl
end Go.AM
namespace Go.Proofs.YtckofkijjcbcoaaDoor.decWhole
open Go.ChangeShapes Go.WideShapes Go.ChangeAt Go.RowKit Go.AM
theorem own : ownKnob Tryd.prog.godebug = none := by kernel_rfl
theorem goes : LawGoes Tryd.prog SI 9 [(.int .i64), (.int .i64)] := fun x hx w vals hI hr =>
  ok9 _ (x.1, x.2.1, ()) true (dec_whole 5000 (by omega) x.1 x.2.1 hx.1 hx.2.1) w (AllD w) vals (WOf.of hI) hr (fun b o h => h)
noncomputable def laidWorld (os : Os) : World := laidOf Tryd.prog os [layTab 4 Rows.laid_math_bits_deBruijn32tab, layTab 5 Rows.laid_math_bits_deBruijn64tab, layTab 1 Rows.laid_internal_strconv_uint64pow10, layTab 3 Rows.laid_unicode_utf8_acceptRanges, layTab 2 Rows.laid_unicode_utf8_first]
theorem laid_met (os : Os) (args : Array Value) : laidMet Tryd.prog Rows.decWholeRow.laid ((laidWorld os).forCall (fun _ _ => 0) ⟨#[], args, []⟩).memory :=
  (LaidIn.of_run [4, 5, 1, 3, 2] 8 (by kernel_rfl) (by kernel_rfl) (by kernel_rfl) (by kernel_rfl)).met
theorem witness_row (os : Os) {H : Type} (enc : TypeId × Value → H) :
    (OpenSpec.ofChange Rows.decWholeSpec).preRow enc Tryd.prog Tryd.f9 Rows.decWholeRow.domain false Rows.decWholeRow.laid ((laidWorld os).forCall (fun _ _ => 0) ⟨#[], #[.int .i64 0, .int .i64 0], []⟩).memory #[.int .i64 0, .int .i64 0] := by
  have hw : (DataW.whole enc Tryd.prog ((laidWorld os).forCall (fun _ _ => 0) ⟨#[], #[.int .i64 0, .int .i64 0], []⟩).memory Tryd.f9.params.toList Rows.decWholeSpec.vars false (#[.int .i64 0, .int .i64 0] : Array Value).toList 8).map (fun x => (x.1, x.2.1)) =
      some ([.lit (.int .i64 0), .lit (.int .i64 0)], []) := by kernel_rfl
  obtain ⟨⟨x1, x2, x3⟩, hx, hx1⟩ := Option.map_eq_some_iff.1 hw
  simp only [Prod.mk.injEq] at hx1
  obtain ⟨rfl, rfl⟩ := hx1
  exact OpenSpec.preRow_of_cond 8 hx (by kernel_rfl) (fun k hk => by cases hk) (by kernel_rfl) (laid_met os _)
set_option maxRecDepth 100000 in
theorem lifted (os : Os) (started : os.Started) (H : Type) (enc : TypeId × Value → H) (F : Stop.Interp) :
    ReturnsInHanded {} Tryd.checked os 9 .any ((OpenSpec.ofChange Rows.decWholeSpec).preRow enc Tryd.prog Tryd.f9 Rows.decWholeRow.domain false Rows.decWholeRow.laid) (((OpenSpec.ofChange Rows.decWholeSpec).at F).post enc Tryd.prog Tryd.f9 false true false false) := by
  refine returnsInHanded_of_row (C := Tryd.checked) (s := OpenSpec.ofChange Rows.decWholeSpec) own started (by kernel_rfl) Tryd.func9
    (witness_row_atRef (enc := enc) (C := Tryd.checked) false (laidWorld os) #[.int .i64 0, .int .i64 0] rfl (by kernel_rfl) (by kernel_rfl) (by kernel_rfl) (witness_row os enc)) ?_
  intro W base args ds gs before hval hW _ _ hw hL hO _
  exact law_calls (s := Rows.decWholeSpec) (n := 8) (by kernel_rfl) Tryd.func9 (by kernel_rfl) (by decide) (by kernel_rfl) rfl Tryd.underlying4 rfl (fun ds h => by match ds, h with | [_, _], _ => rfl) goes hval hW hw ⟨hL, hO⟩
theorem said : Rows.DecWholeSaid :=
  OpenClaim.holds_of_cond 9 Tryd.f9 rfl rfl rfl rfl rfl rfl rfl ⟨rfl, rfl, rfl, rfl, rfl⟩ rfl rfl rfl rfl rfl (by kernel_rfl) Tryd.func9 (by kernel_rfl)
    (of_decide_eq_true (by kernel_rfl)) (by unfold Func.isWrapper; first | (rw [if_pos (by decide +kernel)]; kernel_rfl) | (rw [if_neg (by decide +kernel)]; exact ⟨rfl, rfl⟩))
    (fun os started H enc _ F => by rw [OpenClaim.pre_eq_preRow]; exact lifted os started H enc F)
theorem plain (f : FuncId) (fn : Func) (hf : Tryd.pinned.checked.prog.funcNamed "forebay/forebaylaw03.DecWhole" = some f) (hfn : Tryd.pinned.checked.prog.funcs[f]? = some fn) :
    false = Tryd.pinned.checked.prog.looks [] ∧ ∀ (j : Nat) t, fn.params[j]? = some t → Tryd.pinned.checked.prog.wantsStandIn t = false := by
  obtain rfl : f = 9 := Option.some.inj ((show Tryd.prog.funcNamed "forebay/forebaylaw03.DecWhole" = some 9 by kernel_rfl).symm.trans hf) |>.symm
  obtain rfl : fn = Tryd.f9 := (Option.some.inj (Tryd.func9.symm.trans hfn)).symm
  refine ⟨by kernel_rfl, fun j t ht => ?_⟩
  have hm : t ∈ ([3, 3] : List TypeId) := by
    rw [Tryd.params9] at ht
    have := Array.mem_of_getElem? ht
    simpa using this
  have all : ∀ x ∈ ([3, 3] : List TypeId), Tryd.prog.wantsStandIn x = false := fun x hx => by
    have h : ([3, 3] : List TypeId).all (fun x => Tryd.prog.wantsStandIn x == false) = true := by kernel_rfl
    simpa using List.all_eq_true.1 h x hx
  exact all t hm
theorem proved : Rows.DecWholeCardSaid :=
  Claim7.holds_tied_plain_at .later [] _ _ _ _ said (fun _ h => by cases h) (by kernel_rfl) (fun _ h => by cases h) decWhole_row_tie rfl ⟨rfl, rfl⟩ (by kernel_rfl) rfl plain (by kernel_rfl)
end Go.Proofs.YtckofkijjcbcoaaDoor.decWhole
