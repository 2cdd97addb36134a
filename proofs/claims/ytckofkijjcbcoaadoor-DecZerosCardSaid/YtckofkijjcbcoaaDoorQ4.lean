/- DecZeros: for every input true, and the input reads as it did. -/
import Derived.Test.YtckofkijjcbcoaaDoorQ3
import Derived.Test.YtckofkijjcbcoaaDoorCards
import Derived.Test.YtckofkijjcbcoaaDoorTie
import Derived.OpenShut
import Derived.KernelRfl
set_option linter.unusedVariables false
set_option linter.unusedSimpArgs false
namespace Go.AM
def DecOK (d : DecD) : Prop := (0 ≤ d.2.1 ∧ d.2.1 ≤ 18446744073709551615) ∧ -9223372036854775808 ≤ d.2.2.1 ∧ d.2.2.1 ≤ 9223372036854775807
theorem dec_nat {d : DecD} (h : DecOK d) : ∃ (neg : Bool) (c : Nat) (e : Int), d = (neg, (c : Int), e, ()) ∧ c < two64 ∧ -9223372036854775808 ≤ e ∧ e ≤ 9223372036854775807 := by
  obtain ⟨neg, c, e, _⟩ := d
  obtain ⟨⟨h1, h2⟩, h3, h4⟩ := h
  simp only at h1 h2 h3 h4
  refine ⟨neg, c.toNat, e, ?_, ?_, h3, h4⟩
  · rw [show ((c.toNat : Nat) : Int) = c from by omega]
  · rw [two64_eq]; omega
theorem dec_normals (n : Nat) (hn : 5000 ≤ n) (d : DecD) (hd : DecOK d) : F.law03_DecNormals n d = some true := by
  obtain ⟨neg, c, e, rfl, hc, he⟩ := dec_nat hd
  unfold F.law03_DecNormals
  have hl := dd_len64 hc
  have hR : F.ref03_Normal n (neg, (c : Int), e, ()) = some (valR neg (Lib.decDigits c) e) := by
    unfold F.ref03_Normal
    simp only [digits03 n (by omega) c hc, make_eq n hn neg _ (dd_digs c) (by omega) e, some_bind']
    rcases valR_code neg (Lib.decDigits c) e with h | ⟨h1, h2⟩
    · rw [h]
      generalize valR neg (Lib.decDigits c) e = r at h ⊢
      obtain ⟨r1, r2, _⟩ := r
      simp only at h
      subst h
      rfl
    · rw [h1]
      generalize valR neg (Lib.decDigits c) e = r at h1 h2 ⊢
      obtain ⟨r1, r2, _⟩ := r
      simp only at h1 h2
      subst h1 h2
      rfl
  simp only [normal_eq n (by omega) neg c hc e he, hR, check_eq n (by omega) neg c hc e he, check_ref n hn neg c hc e, awake03 n hn, some_bind', beq_self_eq_true, Bool.and_self, cond_true]
theorem dec_parses (n : Nat) (hn : 5000 ≤ n) (s : List UInt8) : F.law03_DecParses n s = some true := by
  unfold F.law03_DecParses
  rw [awake03 n hn]
  by_cases h : 200 < s.length
  · rw [bif_pos (by omega)]; rfl
  · rw [bif_neg (by omega)]
    simp only [decparse_eq n hn s (by omega), refparse_eq n hn s (by omega), some_bind', beq_self_eq_true, Bool.and_self, cond_true]
theorem parse_cases (s : List UInt8) : ((parseR s).2.1.1 ≠ 0 ∧ (parseR s).1 = (false, 0, 0, ()) ∧ 0 ≤ (parseR s).2.1.2.1 ∧ (parseR s).2.1.2.1 ≤ s.length) ∨
    (∃ (neg : Bool) (c : Nat) (e : Int), parseR s = ((neg, (c : Int), e, ()), (0, 0, ()), ()) ∧ c < two64 ∧ (-9223372036854775808 ≤ e ∧ e ≤ 9223372036854775807) ∧ checkR neg c e = 0) := by
  unfold parseR
  by_cases h : (lookR s).1 = 0
  · rw [if_pos h]
    have hD : Digs (aheadD s ++ behindD s) := digs_append.2 ⟨tw_digs _, behind_digs s⟩
    generalize aheadD s ++ behindD s = d at hD
    generalize (-((behindD s).length : Int)) = E
    generalize negD s = neg
    by_cases hv : val d = 0
    · refine Or.inr ⟨false, 0, 0, ?_, by decide, by omega, ?_⟩
      · have : valR neg d E = zeroD := by unfold valR; rw [if_pos hv]
        rw [this]; rfl
      · have d0 : Lib.decDigits 0 = [48] := dd_small (by omega)
        unfold checkR
        rw [d0]; rfl
    · obtain ⟨c0, z, h1, h2⟩ := ten_split (val d) (by omega)
      rw [valR_core hD h2 h1]
      generalize E + (z : Int) = Y
      by_cases hY : Y < -18
      · refine Or.inl ?_
        have : normR neg c0 Y = ((false, 0, 0, ()), 10, ()) := by unfold normR; rw [if_pos hY]
        rw [this]
        exact ⟨by decide, rfl, by decide, by show (0 : Int) ≤ s.length; omega⟩
      · by_cases hf : c0 * 10 ^ (Y - 18).toNat < two64
        · have e1 : normR neg c0 Y = ((neg, ((c0 * 10 ^ (Y - 18).toNat : Nat) : Int), (if Y ≤ 18 then Y else 18), ()), 0, ()) := by unfold normR; rw [if_neg hY, if_pos hf]
          rw [e1]
          have hE : -18 ≤ (if Y ≤ 18 then Y else 18) ∧ (if Y ≤ 18 then Y else 18) ≤ 18 := by split <;> omega
          refine Or.inr ⟨neg, c0 * 10 ^ (Y - 18).toNat, (if Y ≤ 18 then Y else 18), rfl, hf, by omega, ?_⟩
          unfold checkR
          rw [if_neg (by omega), valR_core (dd_digs _) h2 (dd_val _)]
          have e2 : (if Y ≤ 18 then Y else 18) + (((Y - 18).toNat : Nat) : Int) = Y := by split <;> omega
          rw [e2, e1, if_pos ⟨rfl, rfl⟩]
        · refine Or.inl ?_
          have : normR neg c0 Y = ((false, 0, 0, ()), 10, ()) := by unfold normR; rw [if_neg hY, if_neg hf]
          rw [this]
          exact ⟨by decide, rfl, by decide, by show (0 : Int) ≤ s.length; omega⟩
  · rw [if_neg h]
    refine Or.inl ⟨h, rfl, ?_⟩
    show 0 ≤ (lookR s).2.1 ∧ (lookR s).2.1 ≤ s.length
    have endle : ∀ (r : Prop) [Decidable r] (a l : Nat), a ≤ l → 0 ≤ (endR r a l).2.1 ∧ (endR r a l).2.1 ≤ (l : Int) := by
      intro r _ a l hl
      unfold endR
      split
      · show (0 : Int) ≤ 0 ∧ (0 : Int) ≤ l; omega
      · split
        · show (0 : Int) ≤ a ∧ (a : Int) ≤ l; omega
        · show (0 : Int) ≤ a ∧ (a : Int) ≤ l; omega
    unfold lookR lookQ
    split
    · rename_i hp
      exact endle _ _ _ (p3_le hp.2)
    · exact endle _ _ _ (p1_le (p0_le s))
theorem back_tail (n : Nat) (hn : 5000 ≤ n) (s : List UInt8) (hs : s.length ≤ 200) :
    ((F.dec_Parse n s).bind fun y5 =>
                  bif !((y5.2.1.1 == (0 : Int)) && (y5.2.1.2.1 == (0 : Int))) then
                    bif (y5.1.1 == false) && ((y5.1.2.1 == (0 : Int)) && (y5.1.2.2.1 == (0 : Int))) then
                      bif !(y5.2.1.1 == (0 : Int)) then
                        bif decide (y5.2.1.2.1 ≥ (0 : Int)) then
                          bif decide (y5.2.1.2.1 ≤ (s.length : Int)) then
                            (F.law03_awake n ).bind fun y6 =>
                              some (y6)
                          else
                            some (false)
                        else
                          some (false)
                      else
                        some (false)
                    else
                      some (false)
                  else
                    (F.dec_Text n (y5.1.1, y5.1.2.1, y5.1.2.2.1, ())).bind fun y7 =>
                      (F.dec_Parse n y7.1).bind fun y8 =>
                        (F.dec_Check n (y5.1.1, y5.1.2.1, y5.1.2.2.1, ())).bind fun y9 =>
                          bif y9 == (0 : Int) then
                            bif y7.2.1 == (0 : Int) then
                              bif (y8.2.1.1 == (0 : Int)) && (y8.2.1.2.1 == (0 : Int)) then
                                bif (y8.1.1 == y5.1.1) && ((y8.1.2.1 == y5.1.2.1) && (y8.1.2.2.1 == y5.1.2.2.1)) then
                                  (F.law03_awake n ).bind fun y10 =>
                                    some (y10)
                                else
                                  some (false)
                              else
                                some (false)
                            else
                              some (false)
                          else
                            some (false)) = some true := by
  rw [decparse_eq n hn s (by omega), some_bind', awake03 n hn]
  rcases parse_cases s with ⟨h1, h2, h3, h4⟩ | ⟨neg, c, e, h1, hc, he, hk⟩
  · have e1 : ((parseR s).2.1.1 == 0) = false := by simpa using h1
    rw [e1, h2]
    have a1 : decide ((parseR s).2.1.2.1 ≥ 0) = true := by simpa using h3
    have a2 : decide ((parseR s).2.1.2.1 ≤ (s.length : Int)) = true := by simpa using h4
    simp only [Bool.false_and, Bool.not_false, cond_true, a1, a2, some_bind']
    rfl
  · rw [h1]
    have hl := text_len neg c hc e (check_zero hk).2
    simp only [text_dec n hn neg c hc e he, check_eq n (by omega) neg c hc e he, hk, if_true, some_bind', decparse_eq n hn (textD neg c e) (by omega), parse_text neg c hc e hk, beq_self_eq_true, Bool.and_self, Bool.not_true, cond_false, cond_true]
theorem dec_back (n : Nat) (hn : 5000 ≤ n) (d : DecD) (hd : DecOK d) (s : List UInt8) : F.law03_DecBack n d s = some true := by
  obtain ⟨neg, c, e, rfl, hc, he⟩ := dec_nat hd
  have T : ∀ h : s.length ≤ 200, _ := fun h => back_tail n hn s h
  unfold F.law03_DecBack
  by_cases h : 200 < s.length
  · rw [bif_pos (by omega), awake03 n hn]; rfl
  have T := T (by omega)
  rw [bif_neg (by omega)]
  simp only [text_dec n hn neg c hc e he, some_bind']
  by_cases hk : checkR neg c e = 0
  · have hl := text_len neg c hc e (check_zero hk).2
    have h39 : decide (((textD neg c e).length : Int) > 39) = false := by
      have := hl.1
      simp; omega
    simp only [hk, if_true, beq_self_eq_true, cond_true, decparse_eq n hn (textD neg c e) (by omega), parse_text neg c hc e hk, check_eq n (by omega) neg c hc e he, some_bind', Bool.and_self, Bool.not_true, cond_false, h39]
    exact T
  · have e1 : (checkR neg c e == 0) = false := by simpa using hk
    rw [if_neg hk]
    simp only [e1, cond_false, beq_self_eq_true, Bool.not_true, check_eq n (by omega) neg c hc e he, some_bind']
    exact T
end Go.AM
set_option linter.unusedVariables false
set_option linter.unusedSimpArgs false
namespace Go.AM
theorem ahead_zeros (n : Nat) (X : Type) (k0 : Int → (List UInt8) → (List UInt8) → Bool → Int → Int → Option X) (z w : Int) (t : List UInt8) (neg : Bool) (c e : Int) (hz : z ≤ 1000) : ∀ (j i m : Nat) (v : List UInt8), (i : Int) + j = z → j < m → v.length + j ≤ 100000 →
    F.law03_DecZeros.L13 n k0 m z w t v (i : Int) neg c e = k0 w t (v ++ List.replicate j 48) neg c e := by
  intro j
  induction j with
  | zero =>
    intro i m v h hm hv
    obtain ⟨m, rfl⟩ : ∃ q, m = q + 1 := ⟨m - 1, by omega⟩
    show F.law03_DecZeros.L13.step n _ k0 _ _ _ _ _ _ _ _ = _
    unfold F.law03_DecZeros.L13.step
    rw [bif_neg (by omega), List.replicate_zero, List.append_nil]
  | succ j ih =>
    intro i m v h hm hv
    obtain ⟨m, rfl⟩ : ∃ q, m = q + 1 := ⟨m - 1, by omega⟩
    show F.law03_DecZeros.L13.step n (F.law03_DecZeros.L13 n k0 m) k0 _ _ _ _ _ _ _ _ = _
    unfold F.law03_DecZeros.L13.step
    rw [bif_pos (by omega), bif_pos (by rw [strMax_eq]; omega), wrap_succ (by omega), ih (i + 1) m _ (by omega) (by omega) (by simp; omega), List.append_assoc, List.replicate_succ]
    rfl
theorem behind_zeros (n : Nat) (X : Type) (k2 : Int → (List UInt8) → (List UInt8) → (List UInt8) → Bool → Int → Int → Option X) (w : Int) (t s : List UInt8) (neg : Bool) (c e : Int) (hz : w ≤ 1000) : ∀ (j i m : Nat) (v : List UInt8), (i : Int) + j = w → j < m → v.length + j ≤ 100000 →
    F.law03_DecZeros.L21 n k2 m w t s v (i : Int) neg c e = k2 w t s (v ++ List.replicate j 48) neg c e := by
  intro j
  induction j with
  | zero =>
    intro i m v h hm hv
    obtain ⟨m, rfl⟩ : ∃ q, m = q + 1 := ⟨m - 1, by omega⟩
    show F.law03_DecZeros.L21.step n _ k2 _ _ _ _ _ _ _ _ = _
    unfold F.law03_DecZeros.L21.step
    rw [bif_neg (by omega), List.replicate_zero, List.append_nil]
  | succ j ih =>
    intro i m v h hm hv
    obtain ⟨m, rfl⟩ : ∃ q, m = q + 1 := ⟨m - 1, by omega⟩
    show F.law03_DecZeros.L21.step n (F.law03_DecZeros.L21 n k2 m) k2 _ _ _ _ _ _ _ _ = _
    unfold F.law03_DecZeros.L21.step
    rw [bif_pos (by omega), bif_pos (by rw [strMax_eq]; omega), wrap_succ (by omega), ih (i + 1) m _ (by omega) (by omega) (by simp; omega), List.append_assoc, List.replicate_succ]
    rfl
theorem more_zeros {neg : Bool} {c : Nat} {e : Int} (h : checkR neg c e = 0) (hc0 : c ≠ 0) (w : Nat) (hw : e + w ≤ 18) : valR neg (Lib.decDigits c) (e + w) = ((neg, (c : Int), e + w, ()), 0, ()) := by
  obtain ⟨h1, h2, h3⟩ := check_zero h
  obtain ⟨c0, z, g1, g2⟩ := ten_split c (by omega)
  rw [valR_core (dd_digs c) g2 (by rw [dd_val]; exact g1)] at h1 ⊢
  by_cases hw0 : w = 0
  · subst hw0
    rw [show e + ((0 : Nat) : Int) = e from by omega]
    exact h1
  · have hz : z = 0 := by
      unfold normR at h1
      rw [if_neg (by omega)] at h1
      split at h1
      · have he : (if e + (z : Int) ≤ 18 then e + (z : Int) else 18) = e := congrArg (fun r : DecR => r.1.2.2.1) h1
        split at he <;> omega
      · have : (10 : Int) = 0 := congrArg (fun r : DecR => r.2.1) h1
        omega
    subst hz
    have hc : c0 = c := by rw [g1]; simp
    subst hc
    unfold normR at h1 ⊢
    rw [if_neg (by omega)] at h1 ⊢
    rw [show (e + ((0 : Nat) : Int) - 18).toNat = 0 from by omega] at h1
    rw [show (e + (w : Int) + ((0 : Nat) : Int) - 18).toNat = 0 from by omega]
    rw [Nat.pow_zero, Nat.mul_one] at h1 ⊢
    by_cases hf : c0 < two64
    · rw [if_pos hf, if_pos (by omega), show e + (w : Int) + ((0 : Nat) : Int) = e + w from by omega]
    · rw [if_neg hf] at h1
      have : (10 : Int) = 0 := congrArg (fun r : DecR => r.2.1) h1
      omega
theorem zeros_tail (n : Nat) (hn : 5000 ≤ n) (neg : Bool) (c : Nat) (e : Int) (w : Nat) (hw : w ≤ 40) (t s : List UInt8) (ht : t.length ≤ 200) (hs : s.length ≤ 300) (he : -18 ≤ e ∧ e ≤ 18)
    (h1 : parseR (s ++ List.replicate w 48) = ((neg, (c : Int), e, ()), (0, 0, ()), ()))
    (h2 : 0 ≤ e → c ≠ 0 → e + w ≤ 18 → parseR (sgn neg ++ t ++ List.replicate w 48) = ((neg, (c : Int), e + w, ()), (0, 0, ()), ())) :
    F.law03_DecZeros.L21 n
      (fun e9_2 e9_7 e9_9 e9_11 e9_b0_0 e9_b0_1 e9_b0_2 =>
                          bif decide (e9_9.length + e9_11.length ≤ strMax) then
                            (F.dec_Parse n (e9_9 ++ e9_11)).bind fun y10 =>
                              bif !((y10.2.1.1 == (0 : Int)) && (y10.2.1.2.1 == (0 : Int))) then
                                some (false)
                              else
                              bif !((y10.1.1 == e9_b0_0) && ((y10.1.2.1 == e9_b0_1) && (y10.1.2.2.1 == e9_b0_2))) then
                                some (false)
                              else
                              bif decide (e9_b0_2 < (0 : Int)) then
                                (F.law03_awake n).bind fun y11 =>
                                  some (y11)
                              else
                              bif e9_b0_1 == (0 : Int) then
                                (F.law03_awake n).bind fun y12 =>
                                  some (y12)
                              else
                              bif decide ((IntKind.wrap .i64 (e9_b0_2 + e9_2)) > (18 : Int)) then
                                (F.law03_awake n).bind fun y13 =>
                                  some (y13)
                              else
                              bif e9_b0_0 then
                                bif decide (1 + e9_7.length ≤ strMax) then
                                  bif decide (((([45]) ++ e9_7).length) + e9_11.length ≤ strMax) then
                                    (F.dec_Parse n ((([45]) ++ e9_7) ++ e9_11)).bind fun y14 =>
                                      bif (y14.2.1.1 == (0 : Int)) && (y14.2.1.2.1 == (0 : Int)) then
                                        bif (y14.1.1 == e9_b0_0) && ((y14.1.2.1 == e9_b0_1) && (y14.1.2.2.1 == (IntKind.wrap .i64 (e9_b0_2 + e9_2)))) then
                                          (F.law03_awake n).bind fun y15 =>
                                            some (y15)
                                        else
                                          some (false)
                                      else
                                        some (false)
                                  else
                                    none
                                else
                                  none
                              else
                              bif decide (0 + e9_7.length ≤ strMax) then
                                bif decide ((([] ++ e9_7).length) + e9_11.length ≤ strMax) then
                                  (F.dec_Parse n (([] ++ e9_7) ++ e9_11)).bind fun y16 =>
                                    bif (y16.2.1.1 == (0 : Int)) && (y16.2.1.2.1 == (0 : Int)) then
                                      bif (y16.1.1 == e9_b0_0) && ((y16.1.2.1 == e9_b0_1) && (y16.1.2.2.1 == (IntKind.wrap .i64 (e9_b0_2 + e9_2)))) then
                                        (F.law03_awake n).bind fun y17 =>
                                          some (y17)
                                      else
                                        some (false)
                                    else
                                      some (false)
                                else
                                  none
                              else
                                none
                          else
                            none) n (w : Int) t s [] (0 : Int) neg (c : Int) e = some true := by
  have hb := behind_zeros n Bool
  refine (behind_zeros n _ _ (w : Int) t s neg (c : Int) e (by omega) w 0 n [] (by omega) (by omega) (by simp; omega)).trans ?_
  rw [List.nil_append, List.length_replicate, bif_pos (by rw [strMax_eq]; omega), decparse_eq n hn _ (by simp; omega), some_bind', h1, awake03 n hn]
  simp only [beq_self_eq_true, Bool.and_self, Bool.not_true, cond_false, some_bind']
  by_cases g1 : e < 0
  · rw [bif_pos g1]
  rw [bif_neg g1]
  by_cases g2 : c = 0
  · have : ((c : Int) == 0) = true := by simp [g2]
    rw [this, cond_true]
  have g2' : ((c : Int) == 0) = false := by simpa using g2
  rw [g2', cond_false, wrap_in (by omega)]
  by_cases g3 : e + (w : Int) > 18
  · rw [bif_pos g3]
  rw [bif_neg g3]
  have H := h2 (by omega) g2 (by omega)
  cases neg
  · rw [cond_false, bif_pos (by rw [strMax_eq]; omega), bif_pos (by rw [strMax_eq]; simp; omega), decparse_eq n hn _ (by simp; omega), some_bind']
    have H' : parseR ([] ++ t ++ List.replicate w 48) = _ := H
    rw [H']
    simp
  · rw [cond_true, bif_pos (by rw [strMax_eq]; omega), bif_pos (by rw [strMax_eq]; simp; omega), decparse_eq n hn _ (by simp; omega), some_bind']
    have H' : parseR ([45] ++ t ++ List.replicate w 48) = _ := H
    rw [H']
    simp
def bodyD (c : Nat) (e : Int) : List UInt8 :=
  if 0 ≤ e then Lib.decDigits c ++ List.replicate e.toNat 48 else (wideW c e).take ((wideW c e).length - e.natAbs) ++ [46] ++ (wideW c e).drop ((wideW c e).length - e.natAbs)
theorem textD_body (neg : Bool) (c : Nat) (e : Int) : textD neg c e = sgn neg ++ bodyD c e := by
  unfold textD bodyD
  split <;> rfl
theorem body_len (c : Nat) (hc : c < two64) (e : Int) (he : -18 ≤ e ∧ e ≤ 18) : (bodyD c e).length ≤ 60 ∧ 1 ≤ (bodyD c e).length := by
  have hl := dd_len64 hc
  have hp := List.length_pos_iff.2 (dd_ne c)
  unfold bodyD
  by_cases h : 0 ≤ e
  · rw [if_pos h]; simp; omega
  · obtain ⟨w1, w2, w3⟩ := wideW_len c hc e (by omega)
    rw [if_neg h]; simp; omega
theorem zeros_form (neg : Bool) (c : Nat) (hc : c < two64) (e : Int) (h : checkR neg c e = 0) (k w : Nat) : parseR ((if 0 ≤ e ∧ 0 < w then sgn neg ++ List.replicate k 48 ++ bodyD c e ++ [46] else sgn neg ++ List.replicate k 48 ++ bodyD c e) ++ List.replicate w 48) = ((neg, (c : Int), e, ()), (0, 0, ()), ()) := by
  obtain ⟨h1, h2, h3⟩ := check_zero h
  have fin : outR (valR neg (Lib.decDigits c) e) = ((neg, (c : Int), e, ()), (0, 0, ()), ()) := by rw [h1]; rfl
  have hr : ∀ j, List.replicate (j + 1) (48 : UInt8) ≠ [] := fun j => by simp [List.replicate_succ]
  by_cases hE : 0 ≤ e
  · have hb : bodyD c e = Lib.decDigits c ++ List.replicate e.toNat 48 := by unfold bodyD; rw [if_pos hE]
    have hD : Digs (List.replicate k 48 ++ (Lib.decDigits c ++ List.replicate e.toNat 48)) := digs_append.2 ⟨digs_rep _, digs_append.2 ⟨dd_digs c, digs_rep _⟩⟩
    have hne : List.replicate k 48 ++ (Lib.decDigits c ++ List.replicate e.toNat 48) ≠ [] := by simp [dd_ne]
    have hv : valR neg (List.replicate k 48 ++ (Lib.decDigits c ++ List.replicate e.toNat 48)) 0 = valR neg (Lib.decDigits c) e := by
      rw [valR_zeros_left neg (digs_append.2 ⟨dd_digs c, digs_rep _⟩), valR_zeros_right neg (dd_digs c)]
      congr 1
      omega
    by_cases hw : 0 < w
    · rw [if_pos ⟨hE, hw⟩, hb]
      have : sgn neg ++ List.replicate k 48 ++ (Lib.decDigits c ++ List.replicate e.toNat 48) ++ [46] ++ List.replicate w 48 = sgn neg ++ ((List.replicate k 48 ++ (Lib.decDigits c ++ List.replicate e.toNat 48)) ++ 46 :: List.replicate w 48) := by simp
      have hwn : List.replicate w (48 : UInt8) ≠ [] := by
        obtain ⟨j, rfl⟩ : ∃ j, w = j + 1 := ⟨w - 1, by omega⟩
        exact hr j
      rw [this, parse_point neg hD hne (digs_rep w) hwn, valR_zeros_right neg hD, List.length_replicate, show (-(w : Int) + (w : Int)) = 0 from by omega, hv, fin]
    · rw [if_neg (fun hh => hw hh.2), hb, show w = 0 from by omega, List.replicate_zero, List.append_nil, List.append_assoc, parse_whole neg hD hne, hv, fin]
  · obtain ⟨w1, w2, w3⟩ := wideW_len c hc e (by omega)
    have hb : bodyD c e = (wideW c e).take ((wideW c e).length - e.natAbs) ++ [46] ++ (wideW c e).drop ((wideW c e).length - e.natAbs) := by unfold bodyD; rw [if_neg hE]
    rw [if_neg (fun hh => hE hh.1), hb]
    have hT : (wideW c e).take ((wideW c e).length - e.natAbs) ≠ [] := by
      intro hh
      have := congrArg List.length hh
      simp at this
      omega
    have hDn : (wideW c e).drop ((wideW c e).length - e.natAbs) ≠ [] := by
      intro hh
      have := congrArg List.length hh
      simp at this
      omega
    have hlen : ((wideW c e).drop ((wideW c e).length - e.natAbs)).length = e.natAbs := by simp; omega
    have hval : valR neg (wideW c e) (-(e.natAbs : Int)) = valR neg (Lib.decDigits c) (-(e.natAbs : Int)) := valR_zeros_left neg (dd_digs c) _ _
    have hjoin := List.take_append_drop ((wideW c e).length - e.natAbs) (wideW c e)
    have d1 := digs_take ((wideW c e).length - e.natAbs) w3
    have d2 := digs_drop ((wideW c e).length - e.natAbs) w3
    generalize (wideW c e).take ((wideW c e).length - e.natAbs) = p at *
    generalize (wideW c e).drop ((wideW c e).length - e.natAbs) = q at *
    have : sgn neg ++ List.replicate k 48 ++ (p ++ [46] ++ q) ++ List.replicate w 48 = sgn neg ++ ((List.replicate k 48 ++ p) ++ 46 :: (q ++ List.replicate w 48)) := by simp
    rw [this, parse_point neg (digs_append.2 ⟨digs_rep _, d1⟩) (by simp [hT]) (digs_append.2 ⟨d2, digs_rep _⟩) (by simp [hDn])]
    rw [← List.append_assoc, valR_zeros_right neg (digs_append.2 ⟨digs_append.2 ⟨digs_rep _, d1⟩, d2⟩), List.append_assoc, hjoin, valR_zeros_left neg w3, List.length_append, List.length_replicate, hlen,
      show (-((e.natAbs + w : Nat) : Int) + (w : Int)) = -(e.natAbs : Int) from by omega, hval, show (-(e.natAbs : Int)) = e from by omega, fin]
theorem zeros_whole (neg : Bool) (c : Nat) (e : Int) (h : checkR neg c e = 0) (hE : 0 ≤ e) (hc0 : c ≠ 0) (w : Nat) (hw : e + w ≤ 18) : parseR (sgn neg ++ bodyD c e ++ List.replicate w 48) = ((neg, (c : Int), e + w, ()), (0, 0, ()), ()) := by
  have hb : bodyD c e = Lib.decDigits c ++ List.replicate e.toNat 48 := by unfold bodyD; rw [if_pos hE]
  rw [hb, List.append_assoc, List.append_assoc, List.replicate_append_replicate, parse_whole neg (digs_append.2 ⟨dd_digs c, digs_rep _⟩) (by simp [dd_ne]), valR_zeros_right neg (dd_digs c)]
  rw [show (0 : Int) + ((e.toNat + w : Nat) : Int) = e + w from by omega, more_zeros h hc0 w hw]
  rfl
theorem zeros_mid (n : Nat) (hn : 5000 ≤ n) (neg : Bool) (c : Nat) (hc : c < two64) (e : Int) (h : checkR neg c e = 0) (k w : Nat) (hk : k ≤ 40) (hw : w ≤ 40) :
    F.law03_DecZeros.L13 n
      (fun e8_2 e8_7 e8_9 e8_b0_0 e8_b0_1 e8_b0_2 =>
              bif decide (e8_9.length + e8_7.length ≤ strMax) then
                bif decide (e8_b0_2 ≥ (0 : Int)) then
                  bif decide (e8_2 > (0 : Int)) then
                    bif decide (((e8_9 ++ e8_7).length) + 1 ≤ strMax) then
                      F.law03_DecZeros.L21 n
                        (fun e9_2 e9_7 e9_9 e9_11 e9_b0_0 e9_b0_1 e9_b0_2 =>
                          bif decide (e9_9.length + e9_11.length ≤ strMax) then
                            (F.dec_Parse n (e9_9 ++ e9_11)).bind fun y10 =>
                              bif !((y10.2.1.1 == (0 : Int)) && (y10.2.1.2.1 == (0 : Int))) then
                                some (false)
                              else
                              bif !((y10.1.1 == e9_b0_0) && ((y10.1.2.1 == e9_b0_1) && (y10.1.2.2.1 == e9_b0_2))) then
                                some (false)
                              else
                              bif decide (e9_b0_2 < (0 : Int)) then
                                (F.law03_awake n ).bind fun y11 =>
                                  some (y11)
                              else
                              bif e9_b0_1 == (0 : Int) then
                                (F.law03_awake n ).bind fun y12 =>
                                  some (y12)
                              else
                              bif decide ((IntKind.wrap .i64 (e9_b0_2 + e9_2)) > (18 : Int)) then
                                (F.law03_awake n ).bind fun y13 =>
                                  some (y13)
                              else
                              bif e9_b0_0 then
                                bif decide (1 + e9_7.length ≤ strMax) then
                                  bif decide (((([45]) ++ e9_7).length) + e9_11.length ≤ strMax) then
                                    (F.dec_Parse n ((([45]) ++ e9_7) ++ e9_11)).bind fun y14 =>
                                      bif (y14.2.1.1 == (0 : Int)) && (y14.2.1.2.1 == (0 : Int)) then
                                        bif (y14.1.1 == e9_b0_0) && ((y14.1.2.1 == e9_b0_1) && (y14.1.2.2.1 == (IntKind.wrap .i64 (e9_b0_2 + e9_2)))) then
                                          (F.law03_awake n ).bind fun y15 =>
                                            some (y15)
                                        else
                                          some (false)
                                      else
                                        some (false)
                                  else
                                    none
                                else
                                  none
                              else
                              bif decide (0 + e9_7.length ≤ strMax) then
                                bif decide ((([] ++ e9_7).length) + e9_11.length ≤ strMax) then
                                  (F.dec_Parse n (([] ++ e9_7) ++ e9_11)).bind fun y16 =>
                                    bif (y16.2.1.1 == (0 : Int)) && (y16.2.1.2.1 == (0 : Int)) then
                                      bif (y16.1.1 == e9_b0_0) && ((y16.1.2.1 == e9_b0_1) && (y16.1.2.2.1 == (IntKind.wrap .i64 (e9_b0_2 + e9_2)))) then
                                        (F.law03_awake n ).bind fun y17 =>
                                          some (y17)
                                      else
                                        some (false)
                                    else
                                      some (false)
                                else
                                  none
                              else
                                none
                          else
                            none) n e8_2 e8_7 ((e8_9 ++ e8_7) ++ ([46])) [] (0 : Int) e8_b0_0 e8_b0_1 e8_b0_2
                    else
                      none
                  else
                    F.law03_DecZeros.L21 n
                      (fun e18_2 e18_7 e18_9 e18_11 e18_b0_0 e18_b0_1 e18_b0_2 =>
                        bif decide (e18_9.length + e18_11.length ≤ strMax) then
                          (F.dec_Parse n (e18_9 ++ e18_11)).bind fun y19 =>
                            bif !((y19.2.1.1 == (0 : Int)) && (y19.2.1.2.1 == (0 : Int))) then
                              some (false)
                            else
                            bif !((y19.1.1 == e18_b0_0) && ((y19.1.2.1 == e18_b0_1) && (y19.1.2.2.1 == e18_b0_2))) then
                              some (false)
                            else
                            bif decide (e18_b0_2 < (0 : Int)) then
                              (F.law03_awake n ).bind fun y20 =>
                                some (y20)
                            else
                            bif e18_b0_1 == (0 : Int) then
                              (F.law03_awake n ).bind fun y21 =>
                                some (y21)
                            else
                            bif decide ((IntKind.wrap .i64 (e18_b0_2 + e18_2)) > (18 : Int)) then
                              (F.law03_awake n ).bind fun y22 =>
                                some (y22)
                            else
                            bif e18_b0_0 then
                              bif decide (1 + e18_7.length ≤ strMax) then
                                bif decide (((([45]) ++ e18_7).length) + e18_11.length ≤ strMax) then
                                  (F.dec_Parse n ((([45]) ++ e18_7) ++ e18_11)).bind fun y23 =>
                                    bif (y23.2.1.1 == (0 : Int)) && (y23.2.1.2.1 == (0 : Int)) then
                                      bif (y23.1.1 == e18_b0_0) && ((y23.1.2.1 == e18_b0_1) && (y23.1.2.2.1 == (IntKind.wrap .i64 (e18_b0_2 + e18_2)))) then
                                        (F.law03_awake n ).bind fun y24 =>
                                          some (y24)
                                      else
                                        some (false)
                                    else
                                      some (false)
                                else
                                  none
                              else
                                none
                            else
                            bif decide (0 + e18_7.length ≤ strMax) then
                              bif decide ((([] ++ e18_7).length) + e18_11.length ≤ strMax) then
                                (F.dec_Parse n (([] ++ e18_7) ++ e18_11)).bind fun y25 =>
                                  bif (y25.2.1.1 == (0 : Int)) && (y25.2.1.2.1 == (0 : Int)) then
                                    bif (y25.1.1 == e18_b0_0) && ((y25.1.2.1 == e18_b0_1) && (y25.1.2.2.1 == (IntKind.wrap .i64 (e18_b0_2 + e18_2)))) then
                                      (F.law03_awake n ).bind fun y26 =>
                                        some (y26)
                                    else
                                      some (false)
                                  else
                                    some (false)
                              else
                                none
                            else
                              none
                        else
                          none) n e8_2 e8_7 (e8_9 ++ e8_7) [] (0 : Int) e8_b0_0 e8_b0_1 e8_b0_2
                else
                  F.law03_DecZeros.L21 n
                    (fun e27_2 e27_7 e27_9 e27_11 e27_b0_0 e27_b0_1 e27_b0_2 =>
                      bif decide (e27_9.length + e27_11.length ≤ strMax) then
                        (F.dec_Parse n (e27_9 ++ e27_11)).bind fun y28 =>
                          bif !((y28.2.1.1 == (0 : Int)) && (y28.2.1.2.1 == (0 : Int))) then
                            some (false)
                          else
                          bif !((y28.1.1 == e27_b0_0) && ((y28.1.2.1 == e27_b0_1) && (y28.1.2.2.1 == e27_b0_2))) then
                            some (false)
                          else
                          bif decide (e27_b0_2 < (0 : Int)) then
                            (F.law03_awake n ).bind fun y29 =>
                              some (y29)
                          else
                          bif e27_b0_1 == (0 : Int) then
                            (F.law03_awake n ).bind fun y30 =>
                              some (y30)
                          else
                          bif decide ((IntKind.wrap .i64 (e27_b0_2 + e27_2)) > (18 : Int)) then
                            (F.law03_awake n ).bind fun y31 =>
                              some (y31)
                          else
                          bif e27_b0_0 then
                            bif decide (1 + e27_7.length ≤ strMax) then
                              bif decide (((([45]) ++ e27_7).length) + e27_11.length ≤ strMax) then
                                (F.dec_Parse n ((([45]) ++ e27_7) ++ e27_11)).bind fun y32 =>
                                  bif (y32.2.1.1 == (0 : Int)) && (y32.2.1.2.1 == (0 : Int)) then
                                    bif (y32.1.1 == e27_b0_0) && ((y32.1.2.1 == e27_b0_1) && (y32.1.2.2.1 == (IntKind.wrap .i64 (e27_b0_2 + e27_2)))) then
                                      (F.law03_awake n ).bind fun y33 =>
                                        some (y33)
                                    else
                                      some (false)
                                  else
                                    some (false)
                              else
                                none
                            else
                              none
                          else
                          bif decide (0 + e27_7.length ≤ strMax) then
                            bif decide ((([] ++ e27_7).length) + e27_11.length ≤ strMax) then
                              (F.dec_Parse n (([] ++ e27_7) ++ e27_11)).bind fun y34 =>
                                bif (y34.2.1.1 == (0 : Int)) && (y34.2.1.2.1 == (0 : Int)) then
                                  bif (y34.1.1 == e27_b0_0) && ((y34.1.2.1 == e27_b0_1) && (y34.1.2.2.1 == (IntKind.wrap .i64 (e27_b0_2 + e27_2)))) then
                                    (F.law03_awake n ).bind fun y35 =>
                                      some (y35)
                                  else
                                    some (false)
                                else
                                  some (false)
                            else
                              none
                          else
                            none
                      else
                        none) n e8_2 e8_7 (e8_9 ++ e8_7) [] (0 : Int) e8_b0_0 e8_b0_1 e8_b0_2
              else
                none) n (k : Int) (w : Int) (bodyD c e) (sgn neg) (0 : Int) neg (c : Int) e = some true := by
  obtain ⟨h1, h2, h3⟩ := check_zero h
  obtain ⟨b1, b2⟩ := body_len c hc e ⟨h2, h3⟩
  have hs : (sgn neg).length ≤ 1 := by cases neg <;> decide
  refine (ahead_zeros n _ _ (k : Int) (w : Int) (bodyD c e) neg (c : Int) e (by omega) k 0 n (sgn neg) (by omega) (by omega) (by omega)).trans ?_
  have hF := zeros_form neg c hc e h k w
  have hW := zeros_whole neg c e h
  rw [bif_pos (by rw [strMax_eq]; simp; omega)]
  by_cases hE : 0 ≤ e
  · rw [bif_pos (by omega)]
    by_cases hw0 : 0 < w
    · rw [if_pos ⟨hE, hw0⟩] at hF
      rw [bif_pos (by omega), bif_pos (by rw [strMax_eq]; simp; omega)]
      exact zeros_tail n hn neg c e w hw _ _ (by omega) (by simp; omega) ⟨h2, h3⟩ hF (fun a b d => hW a b w d)
    · rw [if_neg (fun hh => hw0 hh.2)] at hF
      rw [bif_neg (by omega)]
      exact zeros_tail n hn neg c e w hw _ _ (by omega) (by simp; omega) ⟨h2, h3⟩ hF (fun a b d => hW a b w d)
  · rw [if_neg (fun hh => hE hh.1)] at hF
    rw [bif_neg (by omega)]
    exact zeros_tail n hn neg c e w hw _ _ (by omega) (by simp; omega) ⟨h2, h3⟩ hF (fun a b d => hW a b w d)
theorem dec_zeros (n : Nat) (hn : 5000 ≤ n) (d : DecD) (hd : DecOK d) (k w : Int) : F.law03_DecZeros n d k w = some true := by
  obtain ⟨neg, c, e, rfl, hc, he⟩ := dec_nat hd
  unfold F.law03_DecZeros
  have A : ((F.law03_awake n).bind fun y => some y) = some true := by rw [awake03 n hn]; rfl
  by_cases g1 : k < 0
  · rw [bif_pos g1]; exact A
  rw [bif_neg g1]
  by_cases g2 : k > 40
  · rw [bif_pos g2]; exact A
  rw [bif_neg g2]
  by_cases g3 : w < 0
  · rw [bif_pos g3]; exact A
  rw [bif_neg g3]
  by_cases g4 : w > 40
  · rw [bif_pos g4]; exact A
  rw [bif_neg g4, text_dec n hn neg c hc e he, some_bind']
  by_cases h : checkR neg c e = 0
  · obtain ⟨k, rfl⟩ : ∃ q : Nat, k = q := ⟨k.toNat, by omega⟩
    obtain ⟨w, rfl⟩ : ∃ q : Nat, w = q := ⟨w.toNat, by omega⟩
    obtain ⟨h1, h2, h3⟩ := check_zero h
    obtain ⟨b1, b2⟩ := body_len c hc e ⟨h2, h3⟩
    have hs : (sgn neg).length ≤ 1 := by cases neg <;> decide
    have T := zeros_mid n hn neg c hc e h k w (by omega) (by omega)
    rw [h, if_pos rfl, textD_body]
    have e0 : (!((0 : Int) == 0)) = false := rfl
    rw [e0, cond_false, bif_neg (by simp; omega)]
    cases neg
    · exact T
    · have hsub : sub (sgn true ++ bodyD c e) 1 ((sgn true ++ bodyD c e).length : Int) = some (bodyD c e) := by
        have := sub_nat (sgn true ++ bodyD c e) 1 (sgn true ++ bodyD c e).length (by simp [sgn]) (Nat.le_refl _)
        rw [List.take_length] at this
        exact this
      rw [cond_true, hsub, some_bind']
      exact T
  · have e0 : (!(checkR neg c e == 0)) = true := by simpa using h
    rw [if_neg h]
    simp only [e0, cond_true]
    exact A
end Go.AM
namespace Go.Proofs.YtckofkijjcbcoaaDoor.decZeros
open Go.ChangeShapes Go.WideShapes Go.ChangeAt Go.RowKit Go.AM
theorem own : ownKnob Tryd.prog.godebug = none := by kernel_rfl
theorem goes : LawGoes Tryd.prog SI 6 [(.agg [.bool, (.int .u64), (.int .i64)]), (.int .i64), (.int .i64)] := fun x hx w vals hI hr =>
  ok6 _ ((x.1.1, x.1.2.1, x.1.2.2, ()), x.2.1, x.2.2.1, ()) true (dec_zeros 5000 (by omega) (x.1.1, x.1.2.1, x.1.2.2, ()) ⟨hx.1.2.1, hx.1.2.2⟩ x.2.1 x.2.2.1) w (AllD w) vals (WOf.of hI) hr (fun b o h => h)
noncomputable def laidWorld (os : Os) : World := laidOf Tryd.prog os [layTab 4 Rows.laid_math_bits_deBruijn32tab, layTab 5 Rows.laid_math_bits_deBruijn64tab, layTab 1 Rows.laid_internal_strconv_uint64pow10, layTab 3 Rows.laid_unicode_utf8_acceptRanges, layTab 2 Rows.laid_unicode_utf8_first]
theorem laid_met (os : Os) (args : Array Value) : laidMet Tryd.prog Rows.decZerosRow.laid ((laidWorld os).forCall (fun _ _ => 0) ⟨#[], args, []⟩).memory :=
  (LaidIn.of_run [4, 5, 1, 3, 2] 8 (by kernel_rfl) (by kernel_rfl) (by kernel_rfl) (by kernel_rfl)).met
theorem witness_row (os : Os) {H : Type} (enc : TypeId × Value → H) :
    (OpenSpec.ofChange Rows.decZerosSpec).preRow enc Tryd.prog Tryd.f6 Rows.decZerosRow.domain false Rows.decZerosRow.laid ((laidWorld os).forCall (fun _ _ => 0) ⟨#[], #[.agg #[.bool false, .int .u64 0, .int .i64 0], .int .i64 0, .int .i64 0], []⟩).memory #[.agg #[.bool false, .int .u64 0, .int .i64 0], .int .i64 0, .int .i64 0] := by
  have hw : (DataW.whole enc Tryd.prog ((laidWorld os).forCall (fun _ _ => 0) ⟨#[], #[.agg #[.bool false, .int .u64 0, .int .i64 0], .int .i64 0, .int .i64 0], []⟩).memory Tryd.f6.params.toList Rows.decZerosSpec.vars false (#[.agg #[.bool false, .int .u64 0, .int .i64 0], .int .i64 0, .int .i64 0] : Array Value).toList 8).map (fun x => (x.1, x.2.1)) =
      some ([.agg [.lit (.bool false), .lit (.int .u64 0), .lit (.int .i64 0)], .lit (.int .i64 0), .lit (.int .i64 0)], []) := by kernel_rfl
  obtain ⟨⟨x1, x2, x3⟩, hx, hx1⟩ := Option.map_eq_some_iff.1 hw
  simp only [Prod.mk.injEq] at hx1
  obtain ⟨rfl, rfl⟩ := hx1
  exact OpenSpec.preRow_of_cond 8 hx (by kernel_rfl) (fun k hk => by cases hk) (by kernel_rfl) (laid_met os _)
set_option maxRecDepth 100000 in
theorem lifted (os : Os) (started : os.Started) (H : Type) (enc : TypeId × Value → H) (F : Stop.Interp) :
    ReturnsInHanded {} Tryd.checked os 6 .any ((OpenSpec.ofChange Rows.decZerosSpec).preRow enc Tryd.prog Tryd.f6 Rows.decZerosRow.domain false Rows.decZerosRow.laid) (((OpenSpec.ofChange Rows.decZerosSpec).at F).post enc Tryd.prog Tryd.f6 false true false false) := by
  refine returnsInHanded_of_row (C := Tryd.checked) (s := OpenSpec.ofChange Rows.decZerosSpec) own started (by kernel_rfl) Tryd.func6
    (witness_row_atRef (enc := enc) (C := Tryd.checked) false (laidWorld os) #[.agg #[.bool false, .int .u64 0, .int .i64 0], .int .i64 0, .int .i64 0] rfl (by kernel_rfl) (by kernel_rfl) (by kernel_rfl) (witness_row os enc)) ?_
  intro W base args ds gs before hval hW _ _ hw hL hO _
  exact law_calls (s := Rows.decZerosSpec) (n := 8) (by kernel_rfl) Tryd.func6 (by kernel_rfl) (by decide) (by kernel_rfl) rfl Tryd.underlying4 rfl (fun ds h => by match ds, h with | [_, _, _], _ => rfl) goes hval hW hw ⟨hL, hO⟩
theorem said : Rows.DecZerosSaid :=
  OpenClaim.holds_of_cond 6 Tryd.f6 rfl rfl rfl rfl rfl rfl rfl ⟨rfl, rfl, rfl, rfl, rfl⟩ rfl rfl rfl rfl rfl (by kernel_rfl) Tryd.func6 (by kernel_rfl)
    (of_decide_eq_true (by kernel_rfl)) (by unfold Func.isWrapper; first | (rw [if_pos (by decide +kernel)]; kernel_rfl) | (rw [if_neg (by decide +kernel)]; exact ⟨rfl, rfl⟩))
    (fun os started H enc _ F => by rw [OpenClaim.pre_eq_preRow]; exact lifted os started H enc F)
theorem plain (f : FuncId) (fn : Func) (hf : Tryd.pinned.checked.prog.funcNamed "forebay/forebaylaw03.DecZeros" = some f) (hfn : Tryd.pinned.checked.prog.funcs[f]? = some fn) :
    false = Tryd.pinned.checked.prog.looks [] ∧ ∀ (j : Nat) t, fn.params[j]? = some t → Tryd.pinned.checked.prog.wantsStandIn t = false := by
  obtain rfl : f = 6 := Option.some.inj ((show Tryd.prog.funcNamed "forebay/forebaylaw03.DecZeros" = some 6 by kernel_rfl).symm.trans hf) |>.symm
  obtain rfl : fn = Tryd.f6 := (Option.some.inj (Tryd.func6.symm.trans hfn)).symm
  refine ⟨by kernel_rfl, fun j t ht => ?_⟩
  have hm : t ∈ ([24, 3, 3] : List TypeId) := by
    rw [Tryd.params6] at ht
    have := Array.mem_of_getElem? ht
    simpa using this
  have all : ∀ x ∈ ([24, 3, 3] : List TypeId), Tryd.prog.wantsStandIn x = false := fun x hx => by
    have h : ([24, 3, 3] : List TypeId).all (fun x => Tryd.prog.wantsStandIn x == false) = true := by kernel_rfl
    simpa using List.all_eq_true.1 h x hx
  exact all t hm
theorem proved : Rows.DecZerosCardSaid :=
  Claim7.holds_tied_plain_at .later [] _ _ _ _ said (fun _ h => by cases h) (by kernel_rfl) (fun _ h => by cases h) decZeros_row_tie rfl ⟨rfl, rfl⟩ (by kernel_rfl) rfl plain (by kernel_rfl)
end Go.Proofs.YtckofkijjcbcoaaDoor.decZeros
