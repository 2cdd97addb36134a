/- A line that is cut off is no line or one of an earlier time; what stands behind a blank behind a line is refused there; a blank more anywhere is refused. -/
import Derived.Test.YtglkcdjgnmegmaaGreatDoorQ5
import Derived.Test.YtglkcdjgnmegmaaGreatDoorCards
import Derived.Test.YtglkcdjgnmegmaaGreatDoorTie
import Derived.OpenShut
import Derived.KernelRfl
set_option linter.unusedVariables false
set_option linter.unusedSimpArgs false
namespace Go.AM
theorem digits03_go (n : Nat) : ∀ (m u : Nat), u < 18446744073709551616 → Lib.nDigits u ≤ m → F.ref03_Digits.go n m (u : Int) = some (Lib.decDigits u) := by
  intro m
  induction m with
  | zero =>
    intro u _ h
    have := Lib.nDigits_pos u
    omega
  | succ m ih =>
    intro u hu h
    have one : ∀ d : Nat, d < 10 → sub ([48, 49, 50, 51, 52, 53, 54, 55, 56, 57] : List UInt8) (d : Int) ((d + 1 : Nat) : Int) = some [UInt8.ofNat (48 + d)] := by
      intro d hd
      rw [sub_nat _ _ _ (by omega) (by simp; omega)]
      have := (by decide : ∀ d : Fin 10, (([48, 49, 50, 51, 52, 53, 54, 55, 56, 57] : List UInt8).take (d.val + 1)).drop d.val = [UInt8.ofNat (48 + d.val)]) ⟨d, hd⟩
      rw [this]
    show (bif decide ((u : Int) < 10) then _ else _) = _
    by_cases h1 : u < 10
    · rw [bif_pos (by omega), show IntKind.wrap .u64 ((u : Int) + 1) = ((u + 1 : Nat) : Int) from by rw [IntWalk.u64_in _ (by omega)]; omega, one u h1, some_bind', dd_small h1]
    · rw [bif_neg (by omega)]
      have e1 : (u : Int).tdiv 10 = ((u / 10 : Nat) : Int) := rfl
      have e2 : (u : Int).tmod 10 = ((u % 10 : Nat) : Int) := rfl
      have hN := Lib.nDigits_big h1
      rw [e1, e2, IntWalk.u64_in _ (by omega), ih (u / 10) (by omega) (by omega), some_bind', show IntKind.wrap .u64 (((u % 10 : Nat) : Int) + 1) = ((u % 10 + 1 : Nat) : Int) from by rw [IntWalk.u64_in _ (by omega)]; omega, one (u % 10) (by omega), some_bind', dd_big h1, bif_pos]
      have := Lib.nDigits_le20 (u / 10) (by omega)
      rw [dd_length, strMax_eq]
      simp; omega
theorem digits03 (n : Nat) (hn : 20 ≤ n) (u : Nat) (hu : u < two64) : F.ref03_Digits n (u : Int) = some (Lib.decDigits u) := by
  unfold F.ref03_Digits
  exact digits03_go n n u hu (Nat.le_trans (Lib.nDigits_le20 u hu) hn)
theorem lead_loop (n : Nat) (X : Type) (k0 : Bool → (List UInt8) → Int → Bool → Int → Int → Option X) (neg b : Bool) (e x y : Int) : ∀ (d : List UInt8) (m : Nat), d.length < m → d.length < 4611686018427387904 → F.ref03_Make.L1 n k0 m neg d e b x y = k0 neg (lz d) e b x y := by
  intro d
  induction d with
  | nil =>
    intro m hm _
    obtain ⟨m, rfl⟩ : ∃ q, m = q + 1 := ⟨m - 1, by omega⟩
    rfl
  | cons c d ih =>
    intro m hm hl
    obtain ⟨m, rfl⟩ : ∃ q, m = q + 1 := ⟨m - 1, by omega⟩
    show F.ref03_Make.L1.step n (F.ref03_Make.L1 n k0 m) k0 neg (c :: d) e b x y = _
    unfold F.ref03_Make.L1.step
    have ei : idx (c :: d) (0 : Int) = some c := rfl
    rw [bif_pos (by simp), ei, some_bind', u8_48]
    have hsub : sub (c :: d) 1 (((c :: d).length : Nat) : Int) = some d := by
      have := sub_nat (c :: d) 1 (c :: d).length (by simp) (by simp)
      rw [List.take_length] at this
      exact this
    by_cases h : c = 48
    · subst h
      rw [decide_eq_true rfl, cond_true, hsub, some_bind', ih m (by simp at hm; omega) (by simp at hl; omega)]
      congr 1
    · rw [decide_eq_false h, cond_false]
      unfold lz
      have e' : (c :: d).dropWhile (· == 48) = c :: d := by simp [List.dropWhile_cons, h]
      rw [e']
theorem trail_loop (n : Nat) (X : Type) (k2 : Bool → (List UInt8) → Int → Bool → Int → Int → Option X) (neg b : Bool) (x y : Int) (a : List UInt8) (ha : a ≠ []) (hl : ∀ x, a.getLast? = some x → x ≠ 48) (hal : a.length ≤ 100000) : ∀ (z m : Nat) (e : Int), z < m → z ≤ 100000 → -2000000 ≤ e → e ≤ 2000 →
    ∃ j, j ≤ z ∧ F.ref03_Make.L7 n k2 m neg (a ++ List.replicate z 48) e b x y = k2 neg (a ++ List.replicate j 48) (e + z - j) b x y ∧ (j = 0 ∨ 18 ≤ e + z - j) ∧ (e + z - j ≤ 18 ∨ j = z) := by
  intro z
  induction z with
  | zero =>
    intro m e hm hz he1 he2
    obtain ⟨m, rfl⟩ : ∃ q, m = q + 1 := ⟨m - 1, by omega⟩
    refine ⟨0, Nat.le_refl _, ?_, Or.inl rfl, Or.inr rfl⟩
    show F.ref03_Make.L7.step n _ k2 _ _ _ _ _ _ = _
    unfold F.ref03_Make.L7.step
    obtain ⟨c, c1, c2⟩ := last_not ha hl
    have hp : 0 < a.length := List.length_pos_iff.2 ha
    have hw : IntKind.wrap .i64 ((a.length : Int) - 1) = (a.length : Int) - 1 := wrap_in (by omega)
    rw [List.replicate_zero, List.append_nil, hw, c1, some_bind', u8_48, decide_eq_false c2, cond_false, show e + ((0 : Nat) : Int) - ((0 : Nat) : Int) = e from by omega]
    cases decide (e < 18) <;> rfl
  | succ z ih =>
    intro m e hm hz he1 he2
    obtain ⟨m, rfl⟩ : ∃ q, m = q + 1 := ⟨m - 1, by omega⟩
    have hstep : F.ref03_Make.L7 n k2 (m + 1) neg (a ++ List.replicate (z + 1) 48) e b x y = F.ref03_Make.L7.step n (F.ref03_Make.L7 n k2 m) k2 neg (a ++ List.replicate (z + 1) 48) e b x y := rfl
    rw [hstep]
    unfold F.ref03_Make.L7.step
    by_cases h18 : e < 18
    · obtain ⟨l1, l2⟩ := last_rep a z
      have hlen : (a ++ List.replicate (z + 1) (48 : UInt8)).length = a.length + z + 1 := by simp; omega
      have hw : IntKind.wrap .i64 (((a ++ List.replicate (z + 1) (48 : UInt8)).length : Int) - 1) = ((a ++ List.replicate (z + 1) (48 : UInt8)).length : Int) - 1 := wrap_in (by omega)
      rw [bif_pos h18, hw, l1, some_bind', u8_48, decide_eq_true rfl, cond_true, l2, some_bind', wrap_in (by omega)]
      obtain ⟨j, j1, j2, j3, j4⟩ := ih m (e + 1) (by omega) (by omega) (by omega) (by omega)
      refine ⟨j, by omega, ?_, ?_, ?_⟩
      · rw [j2]
        congr 1
        omega
      · rcases j3 with j3 | j3
        · exact Or.inl j3
        · exact Or.inr (by omega)
      · exact Or.inl (by omega)
    · rw [bif_neg h18]
      refine ⟨z + 1, Nat.le_refl _, ?_, Or.inr (by omega), Or.inr rfl⟩
      congr 1
      omega
theorem pad_loop (n : Nat) (X : Type) (k4 : Bool → (List UInt8) → Int → Bool → Int → Int → Option X) (neg b : Bool) (x y : Int) : ∀ (d m : Nat) (a : List UInt8), d < m → a.length + d ≤ 1000000 → F.ref03_Make.L10 n k4 m neg a (18 + (d : Int)) b x y = k4 neg (a ++ List.replicate d 48) 18 b x y := by
  intro d
  induction d with
  | zero =>
    intro m a hm hl
    obtain ⟨m, rfl⟩ : ∃ q, m = q + 1 := ⟨m - 1, by omega⟩
    show F.ref03_Make.L10.step n _ k4 _ _ _ _ _ _ = _
    unfold F.ref03_Make.L10.step
    rw [bif_neg (by omega), List.replicate_zero, List.append_nil]
    rfl
  | succ d ih =>
    intro m a hm hl
    obtain ⟨m, rfl⟩ : ∃ q, m = q + 1 := ⟨m - 1, by omega⟩
    show F.ref03_Make.L10.step n (F.ref03_Make.L10 n k4 m) k4 _ _ _ _ _ _ = _
    unfold F.ref03_Make.L10.step
    rw [bif_pos (by omega), bif_pos (by rw [strMax_eq]; omega), wrap_in (by omega), show 18 + ((d + 1 : Nat) : Int) - 1 = 18 + (d : Int) from by omega, ih m _ (by omega) (by simp; omega), List.append_assoc, List.replicate_succ]
    rfl
theorem pad_no (n : Nat) (X : Type) (k4 : Bool → (List UInt8) → Int → Bool → Int → Int → Option X) (neg b : Bool) (x y : Int) (m : Nat) (hm : 0 < m) (a : List UInt8) (E : Int) (h : ¬ E > 18) : F.ref03_Make.L10 n k4 m neg a E b x y = k4 neg a E b x y := by
  obtain ⟨m, rfl⟩ : ∃ q, m = q + 1 := ⟨m - 1, by omega⟩
  show F.ref03_Make.L10.step n (F.ref03_Make.L10 n k4 m) k4 _ _ _ _ _ _ = _
  unfold F.ref03_Make.L10.step
  rw [bif_neg h]
theorem fits_eq (n : Nat) {d : List UInt8} (hd : Digs d) (hne : d ≠ []) (hh : ∀ x, d.head? = some x → x ≠ 48) : F.ref03_Fits n d = some (decide (val d < two64)) := by
  unfold F.ref03_Fits
  have hlt := val_lt hd
  have hge := val_ge hd hne hh
  have hp : 0 < d.length := List.length_pos_iff.2 hne
  rw [two64_eq]
  by_cases h1 : d.length < 20
  · have : 10 ^ d.length ≤ 10 ^ 19 := Nat.pow_le_pow_right (by omega) (by omega)
    have h2 : val d < 18446744073709551616 := by omega
    rw [bif_pos (by omega), decide_eq_true h2]
  rw [bif_neg (by omega)]
  by_cases h2 : d.length = 20
  · have e : ((d.length : Int) == 20) = true := by rw [h2]; rfl
    rw [e, cond_true]
    have hm : Digs [49, 56, 52, 52, 54, 55, 52, 52, 48, 55, 51, 55, 48, 57, 53, 53, 49, 54, 49, 53] := rfl
    have hv : val [49, 56, 52, 52, 54, 55, 52, 52, 48, 55, 51, 55, 48, 57, 53, 53, 49, 54, 49, 53] = 18446744073709551615 := rfl
    rw [less_val hd hm h2, hv]
    congr 1
    by_cases h3 : val d < 18446744073709551615
    · simp [h3]; omega
    · by_cases h4 : val d = 18446744073709551615
      · have : d = [49, 56, 52, 52, 54, 55, 52, 52, 48, 55, 51, 55, 48, 57, 53, 53, 49, 54, 49, 53] := val_inj hd hm h2 (h4.trans hv.symm)
        rw [decide_eq_false h3, this, beq_self_eq_true, hv]
        rfl
      · have hne' : ¬ d = [49, 56, 52, 52, 54, 55, 52, 52, 48, 55, 51, 55, 48, 57, 53, 53, 49, 54, 49, 53] := fun hh => h4 (by rw [hh]; exact hv)
        rw [decide_eq_false h3, beq_eq_false_iff_ne.2 hne', decide_eq_false (show ¬ val d < 18446744073709551616 by omega)]
        rfl
  · have e : ((d.length : Int) == 20) = false := by
      have : ¬ (d.length : Int) = 20 := by omega
      simpa using this
    have : 10 ^ 20 ≤ 10 ^ (d.length - 1) := Nat.pow_le_pow_right (by omega) (by omega)
    rw [e, cond_false, decide_eq_false (by omega)]
theorem value03_loop (n : Nat) (X : Type) (k0 : Int → Option X) (s : List UInt8) (hs : s.length < 4611686018427387904) (hv : val s < two64) : ∀ (r : List UInt8) (k m : Nat), s.drop k = r → r.length < m → Digs r →
    F.ref03_Value.L3 n k0 m s (val (s.take k) : Int) (k : Int) = k0 (val s) := by
  intro r
  induction r with
  | nil =>
    intro k m hk hm hd
    have hk := drop_nil' hk
    obtain ⟨m, rfl⟩ : ∃ q, m = q + 1 := ⟨m - 1, by omega⟩
    show F.ref03_Value.L3.step n _ k0 s _ k = _
    unfold F.ref03_Value.L3.step
    rw [bif_neg (by omega), List.take_of_length_le hk]
  | cons x r ih =>
    intro k m hk hm hd
    obtain ⟨h1, h2, h3⟩ := drop_cons hk
    obtain ⟨d1, d2⟩ := digs_cons.1 hd
    have hx := isDig_iff.1 d1
    obtain ⟨m, rfl⟩ : ∃ q, m = q + 1 := ⟨m - 1, by omega⟩
    show F.ref03_Value.L3.step n (F.ref03_Value.L3 n k0 m) k0 s _ k = _
    unfold F.ref03_Value.L3.step
    have htk : s.take (k + 1) = s.take k ++ [x] := by rw [List.take_add_one, h2]; rfl
    have hvk : val (s.take (k + 1)) = val (s.take k) * 10 + dv x := by rw [htk, val_snoc]
    have hsv : val (s.take (k + 1)) ≤ val s := by
      have e : s = s.take (k + 1) ++ s.drop (k + 1) := (List.take_append_drop _ _).symm
      have h5 : val s = val (s.take (k + 1)) * 10 ^ (s.drop (k + 1)).length + val (s.drop (k + 1)) := by
        conv => lhs; rw [e]
        rw [val_append]
      have := Nat.le_mul_of_pos_right (val (s.take (k + 1))) (Nat.pow_pos (n := (s.drop (k + 1)).length) (show 0 < 10 by omega))
      omega
    have hdl := dv_lt d1
    rw [two64_eq] at hv
    have hdx : IntKind.wrap .u64 (IntKind.wrap .u8 ((x.toNat : Int) - 48)) = (dv x : Int) := by
      have h8 : IntKind.wrap .u8 ((x.toNat : Int) - 48) = (x.toNat : Int) - 48 := IntWalk.u8_in _ (by omega)
      rw [h8, IntWalk.u64_in _ (by omega)]; unfold dv; omega
    rw [bif_pos (by omega), idx_nat, h2, some_bind', hdx, IntWalk.u64_in (10 * (val (s.take k) : Int)) (by omega), IntWalk.u64_in _ (by omega), wrap_succ (by omega), show 10 * (val (s.take k) : Int) + (dv x : Int) = (val (s.take (k + 1)) : Int) from by omega]
    exact ih (k + 1) m h3 (by simp at hm; omega) d2
theorem value03 (n : Nat) (s : List UInt8) (hs : s.length < 4611686018427387904) (hn : s.length < n) (hd : Digs s) (hv : val s < two64) : F.ref03_Value n s = some (val s : Int) :=
  value03_loop n _ _ s hs hv s 0 n rfl hn hd
theorem make_eq (n : Nat) (hn : 5000 ≤ n) (neg : Bool) (d : List UInt8) (hd : Digs d) (hl : d.length ≤ 1000) (e : Int) : F.ref03_Make n neg d e = some ((valR neg d e).1, (valR neg d e).2.1 == 0, ()) := by
  unfold F.ref03_Make
  rw [lead_loop n _ _ neg false e 0 0 d n (by omega) (by omega)]
  have hlz := lz_le d
  by_cases h0 : val d = 0
  · have : lz d = [] := by
      refine Classical.byContradiction fun hne => ?_
      have := val_ge (lz_digs hd) hne (fun x => lz_head)
      rw [lz_val, h0] at this
      have := Nat.pow_pos (n := (lz d).length - 1) (show 0 < 10 by omega)
      omega
    unfold valR
    rw [if_pos h0, this]
    rfl
  have hne : lz d ≠ [] := fun hh => by have := lz_val d; rw [hh] at this; exact h0 this.symm
  have e0 : (lz d == []) = false := by simpa using hne
  simp only [e0, cond_false]
  have hD := lz_digs hd
  have hv0 : val (lz d) ≠ 0 := by rw [lz_val]; exact h0
  have hcore := core_trz hD hv0
  have hvt := val_trz (lz d)
  generalize hzz : (lz d).length - (trz (lz d)).length = z at hvt
  have hR : valR neg d e = normR neg (val (trz (lz d))) (e + z) := valR_core hd hcore (by rw [← lz_val]; exact hvt) neg e
  rw [hR]
  have hc0 : 0 < val (trz (lz d)) := by omega
  have hnot : ∀ w, 20 ≤ w → ¬ val (trz (lz d)) * 10 ^ w < two64 := by
    intro w hw
    have h1 : 10 ^ 20 ≤ 10 ^ w := Nat.pow_le_pow_right (by omega) hw
    have h2 := Nat.le_mul_of_pos_left (10 ^ w) hc0
    rw [two64_eq]
    omega
  by_cases hbig : e > 1000
  · rw [bif_pos hbig]
    unfold normR
    rw [if_neg (by omega), if_neg (hnot _ (by omega))]
    rfl
  rw [bif_neg hbig]
  by_cases hlow : e < -1000000
  · rw [bif_pos hlow]
    unfold normR
    rw [if_pos (by omega)]
    rfl
  rw [bif_neg hlow]
  have hpad := trz_pad (lz d)
  rw [hzz] at hpad
  have hne' : trz (lz d) ≠ [] := fun hh => hv0 ((trz_nil hD).1 hh)
  have htl := trz_le (lz d)
  have hhead : ∀ (k : Nat) x, (trz (lz d) ++ List.replicate k 48).head? = some x → x ≠ 48 := by
    intro k x hx
    cases e : trz (lz d) with
    | nil => exact absurd e hne'
    | cons b r =>
      rw [e] at hx
      have hb : b = x := by simpa using hx
      refine lz_head (d := d) ?_
      rw [hpad, e, ← hb]; rfl
  have fin : ∀ (k : Nat) (E : Int), k ≤ 3000 →
      (bif decide (E < (-18 : Int)) then some (((false, (0 : Int), (0 : Int), ()), false, ()))
                else
                  (F.ref03_Fits n (trz (lz d) ++ List.replicate k 48)).bind fun y8 =>
                    bif !y8 then
                      some (((false, (0 : Int), (0 : Int), ()), false, ()))
                    else
                      (F.ref03_Value n (trz (lz d) ++ List.replicate k 48)).bind fun y9 =>
                        some (((neg, y9, E, ()), true, ())))
      = some (if E < -18 then ((false, (0 : Int), (0 : Int), ()), false, ()) else if val (trz (lz d)) * 10 ^ k < two64 then ((neg, ((val (trz (lz d)) * 10 ^ k : Nat) : Int), E, ()), true, ()) else ((false, (0 : Int), (0 : Int), ()), false, ())) := by
    intro k E hk
    by_cases hE : E < -18
    · rw [bif_pos hE, if_pos hE]
    · rw [bif_neg hE, if_neg hE]
      have hdk : Digs (trz (lz d) ++ List.replicate k 48) := digs_append.2 ⟨trz_digs hD, digs_rep _⟩
      have hlk : (trz (lz d) ++ List.replicate k (48 : UInt8)).length = (trz (lz d)).length + k := by simp
      rw [fits_eq n hdk (by simp [hne']) (hhead k), some_bind', val_zeros_right]
      by_cases hf : val (trz (lz d)) * 10 ^ k < two64
      · rw [decide_eq_true hf, if_pos hf, value03 n _ (by omega) (by omega) hdk (by rw [val_zeros_right]; exact hf), some_bind', val_zeros_right]
        rfl
      · rw [decide_eq_false hf, if_neg hf]; rfl
  obtain ⟨j, j1, j2, j3, j4⟩ := trail_loop n (DecD × Bool × Unit) (fun e6_0 e6_1 e6_2 e6_b0_0 e6_b0_1 e6_b0_2 =>
            F.ref03_Make.L10 n
              (fun e7_0 e7_1 e7_2 e7_b0_0 e7_b0_1 e7_b0_2 =>
                bif decide (e7_2 < (-18 : Int)) then
                  some (((false, (0 : Int), (0 : Int), ()), false, ()))
                else
                  (F.ref03_Fits n e7_1).bind fun y8 =>
                    bif !y8 then
                      some (((false, (0 : Int), (0 : Int), ()), false, ()))
                    else
                      (F.ref03_Value n e7_1).bind fun y9 =>
                        some (((e7_0, y9, e7_2, ()), true, ()))) n e6_0 e6_1 e6_2 e6_b0_0 e6_b0_1 e6_b0_2) neg false 0 0 (trz (lz d)) hne' (fun x => trz_last) (by omega) z n e (by omega) (by omega) (by omega) (by omega)
  rw [← hpad] at j2
  refine j2.trans ?_
  unfold normR
  by_cases hE : e + z - j > 18
  · obtain ⟨q, hq⟩ : ∃ q : Nat, e + z - j = 18 + (q : Int) := ⟨(e + z - j - 18).toNat, by omega⟩
    rw [hq, pad_loop n _ _ neg false 0 0 q n _ (by omega) (by simp; omega), List.append_assoc, List.replicate_append_replicate, fin (j + q) 18 (by omega), if_neg (by omega), if_neg (show ¬ e + (z : Int) < -18 by omega), show (e + z - 18).toNat = j + q from by omega]
    by_cases hf : val (trz (lz d)) * 10 ^ (j + q) < two64
    · rw [if_pos hf, if_pos hf, if_neg (by omega)]; rfl
    · rw [if_neg hf, if_neg hf]; rfl
  · rw [pad_no n _ _ neg false 0 0 n (by omega) _ _ hE, fin j _ (by omega)]
    by_cases h18 : e + z < -18
    · rw [if_pos (by omega), if_pos h18]; rfl
    · rw [if_neg (by omega), if_neg h18, show (e + z - 18).toNat = j from by omega]
      by_cases hf : val (trz (lz d)) * 10 ^ j < two64
      · rw [if_pos hf, if_pos hf]
        congr 4
        by_cases hh : e + z ≤ 18
        · rw [if_pos hh]
          have : j = 0 ∨ e + z = 18 := by omega
          congr 1
          omega
        · rw [if_neg hh]
          congr 1
          omega
      · rw [if_neg hf, if_neg hf]; rfl
end Go.AM
set_option linter.unusedVariables false
set_option linter.unusedSimpArgs false
namespace Go.AM
theorem digit03 (n : Nat) (x : UInt8) : F.ref03_digit n (x.toNat : Int) = some (isDig x) := by
  unfold F.ref03_digit isDig
  by_cases h : 48 ≤ x.toNat
  · rw [bif_pos (by omega)]; simp [h]; omega
  · rw [bif_neg (by omega)]; simp [h]
theorem behind_loop (n : Nat) (X : Type) (k0 : (List UInt8) → Bool → (List UInt8) → Int → Bool → Bool → Int → Int → Int → Int → Option X) (kr : Bool → Int → Int → Int → Int → Option X) (s : List UInt8) (neg : Bool) (pt : Nat) (hs : s.length ≤ 1000000) :
    ∀ (r : List UInt8) (k m : Nat) (d : List UInt8) (must : Bool), s.drop k = r → k ≤ s.length → r.length < m → d.length ≤ k →
    F.ref03_Parse.L8 n k0 kr m s neg (k : Int) d (pt : Int) must false 0 0 0 0 =
      if k + (tw r).length = s.length then k0 s neg (d ++ tw r) (pt : Int) (must && decide ((tw r).length = 0)) false 0 0 0 0 else kr false 0 0 14 ((k + (tw r).length : Nat) : Int) := by
  intro r
  induction r with
  | nil =>
    intro k m d must hk hkl hm hd
    have := drop_nil' hk
    obtain ⟨m, rfl⟩ : ∃ q, m = q + 1 := ⟨m - 1, by omega⟩
    show F.ref03_Parse.L8.step n _ k0 kr _ _ _ _ _ _ _ _ _ _ _ = _
    unfold F.ref03_Parse.L8.step
    have e : tw ([] : List UInt8) = [] := rfl
    rw [bif_neg (by omega), e, List.length_nil, if_pos (by omega), List.append_nil]
    simp
  | cons x r ih =>
    intro k m d must hk hkl hm hd
    obtain ⟨h1, h2, h3⟩ := drop_cons hk
    obtain ⟨m, rfl⟩ : ∃ q, m = q + 1 := ⟨m - 1, by omega⟩
    show F.ref03_Parse.L8.step n (F.ref03_Parse.L8 n k0 kr m) k0 kr _ _ _ _ _ _ _ _ _ _ _ = _
    unfold F.ref03_Parse.L8.step
    rw [bif_pos (by omega), idx_nat, h2, some_bind', digit03, some_bind', some_bind', wrap_succ (by omega)]
    by_cases hx : isDig x = true
    · have hsub : sub s (k : Int) ((k + 1 : Nat) : Int) = some [x] := by
        rw [sub_nat s k (k + 1) (by omega) (by omega), List.take_add_one, h2]
        have : (s.take k).length = k := by simp; omega
        simp [List.drop_append, this]
      have e : tw (x :: r) = x :: tw r := by unfold tw; simp [List.takeWhile_cons, hx]
      rw [hx, cond_true, hsub, some_bind', bif_pos (by rw [strMax_eq]; simp; omega), ih (k + 1) m (d ++ [x]) false h3 (by omega) (by simp at hm; omega) (by simp; omega), e, List.length_cons, List.append_assoc]
      have e1 : k + 1 + (tw r).length = k + ((tw r).length + 1) := by omega
      rw [e1]
      simp
    · have hx' : isDig x = false := by simpa using hx
      have e : tw (x :: r) = [] := by unfold tw; simp [List.takeWhile_cons, hx']
      have hpt : decide ((pt : Int) < 0) = false := by simp
      rw [hx', cond_false, hpt, cond_false, e, List.length_nil, if_neg (by omega)]
      cases ((x.toNat : Int) == 46) <;> rfl
theorem ahead_loop (n : Nat) (X : Type) (k0 : (List UInt8) → Bool → (List UInt8) → Int → Bool → Bool → Int → Int → Int → Int → Option X) (kr : Bool → Int → Int → Int → Int → Option X) (s : List UInt8) (neg : Bool) (hs : s.length ≤ 1000000) :
    ∀ (r : List UInt8) (k m : Nat) (d : List UInt8) (must : Bool), s.drop k = r → k ≤ s.length → r.length < m → d.length ≤ k →
    F.ref03_Parse.L8 n k0 kr m s neg (k : Int) d (-1) must false 0 0 0 0 =
      if k + (tw r).length = s.length then k0 s neg (d ++ tw r) (-1) (must && decide ((tw r).length = 0)) false 0 0 0 0
      else if (s.drop (k + (tw r).length)).head? = some 46 ∧ (must && decide ((tw r).length = 0)) = false then
        (if k + (tw r).length + 1 + (tw (s.drop (k + (tw r).length + 1))).length = s.length then
          k0 s neg ((d ++ tw r) ++ tw (s.drop (k + (tw r).length + 1))) ((d ++ tw r).length : Int) (decide ((tw (s.drop (k + (tw r).length + 1))).length = 0)) false 0 0 0 0
         else kr false 0 0 14 ((k + (tw r).length + 1 + (tw (s.drop (k + (tw r).length + 1))).length : Nat) : Int))
      else kr false 0 0 14 ((k + (tw r).length : Nat) : Int) := by
  intro r
  induction r with
  | nil =>
    intro k m d must hk hkl hm hd
    have := drop_nil' hk
    obtain ⟨m, rfl⟩ : ∃ q, m = q + 1 := ⟨m - 1, by omega⟩
    show F.ref03_Parse.L8.step n _ k0 kr _ _ _ _ _ _ _ _ _ _ _ = _
    unfold F.ref03_Parse.L8.step
    have e : tw ([] : List UInt8) = [] := rfl
    rw [bif_neg (by omega), e, List.length_nil, if_pos (by omega), List.append_nil]
    simp
  | cons x r ih =>
    intro k m d must hk hkl hm hd
    obtain ⟨h1, h2, h3⟩ := drop_cons hk
    obtain ⟨m, rfl⟩ : ∃ q, m = q + 1 := ⟨m - 1, by omega⟩
    show F.ref03_Parse.L8.step n (F.ref03_Parse.L8 n k0 kr m) k0 kr _ _ _ _ _ _ _ _ _ _ _ = _
    unfold F.ref03_Parse.L8.step
    rw [bif_pos (by omega), idx_nat, h2, some_bind', digit03, some_bind', some_bind', wrap_succ (by omega)]
    by_cases hx : isDig x = true
    · have hsub : sub s (k : Int) ((k + 1 : Nat) : Int) = some [x] := by
        rw [sub_nat s k (k + 1) (by omega) (by omega), List.take_add_one, h2]
        have : (s.take k).length = k := by simp; omega
        simp [List.drop_append, this]
      have e : tw (x :: r) = x :: tw r := by unfold tw; simp [List.takeWhile_cons, hx]
      rw [hx, cond_true, hsub, some_bind', bif_pos (by rw [strMax_eq]; simp; omega), ih (k + 1) m (d ++ [x]) false h3 (by omega) (by simp at hm; omega) (by simp; omega), e, List.length_cons, List.append_assoc]
      have e1 : k + 1 + (tw r).length = k + ((tw r).length + 1) := by omega
      rw [e1]
      simp
    · have hx' : isDig x = false := by simpa using hx
      have e : tw (x :: r) = [] := by unfold tw; simp [List.takeWhile_cons, hx']
      have hpt : decide ((-1 : Int) < 0) = true := rfl
      rw [hx', cond_false, hpt, cond_true, e, List.length_nil, if_neg (by omega)]
      simp only [Nat.add_zero, hk, List.append_nil]
      by_cases h46 : x = 46
      · subst h46
        have e2 : ((((46 : UInt8).toNat : Nat) : Int) == 46) = true := rfl
        rw [e2, cond_true]
        cases must
        · simp only [Bool.not_false, cond_true, Bool.false_and, List.head?_cons, and_self, if_true]
          have hb := behind_loop n X k0 kr s neg d.length hs (s.drop (k + 1)) (k + 1) m d true rfl (by omega) (by rw [h3]; simp at hm; omega) (by omega)
          rw [hb]
          simp
        · simp
      · have e2 : ((x.toNat : Int) == 46) = false := by
          have : ¬ (x.toNat : Int) = 46 := fun hh => h46 (u8_ext (by simp; omega))
          simpa using this
        rw [e2, cond_false, if_neg]
        rintro ⟨q, _⟩
        exact h46 (by simpa using q)
theorem make_out (n : Nat) (hn : 5000 ≤ n) (neg : Bool) (d : List UInt8) (hd : Digs d) (hl : d.length ≤ 1000) (e : Int) :
    ((F.ref03_Make n neg d e).bind fun y7 =>
                bif !y7.2.1 then
                  some (((false, (0 : Int), (0 : Int), ()), ((10 : Int), (0 : Int), ()), ()))
                else
                  some (((y7.1.1, y7.1.2.1, y7.1.2.2.1, ()), ((0 : Int), (0 : Int), ()), ()))) = some (outR (valR neg d e)) := by
  rw [make_eq n hn neg d hd hl e, some_bind']
  unfold outR
  rcases valR_code neg d e with h | ⟨h1, h2⟩
  · rw [h, if_pos rfl]; rfl
  · rw [h1, if_neg (by decide)]; rfl
theorem refparse_core (n : Nat) (hn : 5000 ≤ n) (s : List UInt8) (hs : s.length ≤ 1000) (neg : Bool) (q : Nat) (hq : q ≤ s.length) :
    F.ref03_Parse.L8 n
          (fun e6_0 e6_4 e6_6 e6_7 e6_8 e6_b0_0 e6_b0_1 e6_b0_2 e6_b1_0 e6_b1_1 =>
            bif e6_8 then
              some (((false, (0 : Int), (0 : Int), ()), ((11 : Int), (e6_0.length : Int), ()), ()))
            else
            bif decide (e6_7 ≥ (0 : Int)) then
              (F.ref03_Make n e6_4 e6_6 (IntKind.wrap .i64 (e6_7 - (e6_6.length : Int)))).bind fun y7 =>
                bif !y7.2.1 then
                  some (((false, (0 : Int), (0 : Int), ()), ((10 : Int), (0 : Int), ()), ()))
                else
                  some (((y7.1.1, y7.1.2.1, y7.1.2.2.1, ()), ((0 : Int), (0 : Int), ()), ()))
            else
              (F.ref03_Make n e6_4 e6_6 (0 : Int)).bind fun y8 =>
                bif !y8.2.1 then
                  some (((false, (0 : Int), (0 : Int), ()), ((10 : Int), (0 : Int), ()), ()))
                else
                  some (((y8.1.1, y8.1.2.1, y8.1.2.2.1, ()), ((0 : Int), (0 : Int), ()), ())))
          (fun e9_b0_0 e9_b0_1 e9_b0_2 e9_b1_0 e9_b1_1 =>
            some (((e9_b0_0, e9_b0_1, e9_b0_2, ()), (e9_b1_0, e9_b1_1, ()), ()))) n s neg (q : Int) [] (-1 : Int) true false (0 : Int) (0 : Int) (0 : Int) (0 : Int)
    = some (if (lookQ q s).1 = 0 then outR (valR neg (tw (s.drop q) ++ (if (s.drop (p1q q s)).head? = some 46 then tw (s.drop (p1q q s + 1)) else [])) (-(((if (s.drop (p1q q s)).head? = some 46 then tw (s.drop (p1q q s + 1)) else [] : List UInt8).length : Nat) : Int))) else badR (lookQ q s)) := by
  rw [ahead_loop n _ _ _ s neg (by omega) (s.drop q) q n [] true rfl hq (by simp; omega) (by simp)]
  have hp1 : q + (tw (s.drop q)).length = p1q q s := rfl
  have hp3 : p1q q s + 1 + (tw (s.drop (p1q q s + 1))).length = p3q q s := rfl
  have hA : (tw (s.drop q)).length ≤ 1000 := by have := tw_le (s.drop q); simp at this; omega
  have hB : (tw (s.drop (p1q q s + 1))).length ≤ 1000 := by have := tw_le (s.drop (p1q q s + 1)); simp at this; omega
  have hAB : (tw (s.drop q)).length + (tw (s.drop (p1q q s + 1))).length ≤ 1000 := by
    have h1 := tw_le (s.drop q)
    have h2 := tw_le (s.drop (p1q q s + 1))
    simp at h1 h2
    omega
  rw [hp1, hp3]
  simp only [List.nil_append, Bool.true_and]
  have look : ∀ f : FaultR, lookQ q s = f → (¬ f.1 = 0) → some (badR f) = some (if (lookQ q s).1 = 0 then outR (valR neg (tw (s.drop q) ++ (if (s.drop (p1q q s)).head? = some 46 then tw (s.drop (p1q q s + 1)) else [])) (-(((if (s.drop (p1q q s)).head? = some 46 then tw (s.drop (p1q q s + 1)) else [] : List UInt8).length : Nat) : Int))) else badR (lookQ q s)) := by
    intro f hf h0
    rw [hf, if_neg h0]
  by_cases hend : p1q q s = s.length
  ·
    have hdrop : s.drop (p1q q s) = [] := List.drop_eq_nil_of_le (by omega)
    have hno : ¬ ((s.drop (p1q q s)).head? = some 46) := by rw [hdrop]; simp
    rw [if_pos hend]
    by_cases hz : (tw (s.drop q)).length = 0
    · have hl : lookQ q s = (11, (s.length : Int), ()) := by
        unfold lookQ endR
        rw [if_neg (fun h => hno h.2), if_neg (fun h => by have := h.1; omega), if_pos hend, hend]
      rw [decide_eq_true hz, cond_true]
      exact look _ hl (by show ¬ (11 : Int) = 0; decide)
    · have hh : ¬ (-1 : Int) ≥ 0 := by omega
      have hl : lookQ q s = (0, 0, ()) := by
        unfold lookQ endR
        rw [if_neg (fun h => hno h.2), if_pos ⟨by omega, hend⟩]
      rw [decide_eq_false hz, cond_false, bif_neg hh, hl, if_pos rfl, if_neg hno, List.append_nil]
      exact make_out n hn neg _ (tw_digs _) hA 0
  · rw [if_neg hend]
    by_cases hpt : (s.drop (p1q q s)).head? = some 46
    · by_cases hz : (tw (s.drop q)).length = 0
      · have hl : lookQ q s = (14, (p1q q s : Int), ()) := by
          unfold lookQ endR
          rw [if_neg (fun h => by have := h.1; omega), if_neg (fun h => hend h.2), if_neg hend]
        rw [if_neg (by simp [hz])]
        exact look _ hl (by show ¬ (14 : Int) = 0; decide)
      · rw [if_pos ⟨hpt, by simp [hz]⟩]
        have hpp : q < p1q q s ∧ (s.drop (p1q q s)).head? = some 46 := ⟨by omega, hpt⟩
        by_cases h3 : p3q q s = s.length
        · rw [if_pos h3]
          by_cases hb : (tw (s.drop (p1q q s + 1))).length = 0
          · have hl : lookQ q s = (11, (s.length : Int), ()) := by
              unfold lookQ endR
              rw [if_pos hpp, if_neg (fun h => by have := h.1; omega), if_pos h3, h3]
            rw [decide_eq_true hb, cond_true]
            exact look _ hl (by show ¬ (11 : Int) = 0; decide)
          · have hl : lookQ q s = (0, 0, ()) := by
              unfold lookQ endR
              rw [if_pos hpp, if_pos ⟨by omega, h3⟩]
            rw [decide_eq_false hb, cond_false, bif_pos (by omega), hl, if_pos rfl, if_pos hpt]
            have hw : IntKind.wrap .i64 (((tw (s.drop q)).length : Int) - ((tw (s.drop q) ++ tw (s.drop (p1q q s + 1))).length : Int)) = -(((tw (s.drop (p1q q s + 1))).length : Nat) : Int) := by
              rw [List.length_append, wrap_in (by omega)]; omega
            rw [hw]
            exact make_out n hn neg _ (digs_append.2 ⟨tw_digs _, tw_digs _⟩) (by rw [List.length_append]; exact hAB) _
        · have hl : lookQ q s = (14, (p3q q s : Int), ()) := by
            unfold lookQ endR
            rw [if_pos hpp, if_neg (fun h => h3 h.2), if_neg h3]
          rw [if_neg h3]
          exact look _ hl (by show ¬ (14 : Int) = 0; decide)
    · have hl : lookQ q s = (14, (p1q q s : Int), ()) := by
        unfold lookQ endR
        rw [if_neg (fun h => hpt h.2), if_neg (fun h => hend h.2), if_neg hend]
      rw [if_neg (fun h => hpt h.1)]
      exact look _ hl (by show ¬ (14 : Int) = 0; decide)
theorem refparse_eq (n : Nat) (hn : 5000 ≤ n) (s : List UInt8) (hs : s.length ≤ 1000) : F.ref03_Parse n s = some (parseR s) := by
  unfold F.ref03_Parse
  cases s with
  | nil => exact refparse_core n hn [] hs false 0 (by simp)
  | cons b s =>
    have ei : idx (b :: s) (0 : Int) = some b := rfl
    rw [bif_pos (by simp), ei, some_bind']
    by_cases h : b = 45
    · subst h
      have e2 : ((((45 : UInt8).toNat : Nat) : Int) == 45) = true := rfl
      rw [e2, cond_true]
      exact refparse_core n hn (45 :: s) hs true 1 (by simp)
    · have e2 : ((b.toNat : Int) == 45) = false := by
        have : ¬ (b.toNat : Int) = 45 := fun hh => h (u8_ext (by simp; omega))
        simpa using this
      rw [e2, cond_false]
      have hp : p0 (b :: s) = 0 := by unfold p0; rw [if_neg (by simpa using h)]
      have hneg : negD (b :: s) = false := by unfold negD; simpa using h
      have := refparse_core n hn (b :: s) hs false 0 (by simp)
      refine this.trans ?_
      unfold parseR lookR behindD aheadD
      rw [hp, hneg]
end Go.AM
set_option linter.unusedVariables false
set_option linter.unusedSimpArgs false
namespace Go.AM
theorem check_ref (n : Nat) (hn : 5000 ≤ n) (neg : Bool) (c : Nat) (hc : c < two64) (e : Int) : F.ref03_Check n (neg, (c : Int), e, ()) = some (checkR neg c e) := by
  unfold F.ref03_Check checkR
  have hl := dd_len64 hc
  simp only [digits03 n (by omega) c hc, make_eq n hn neg _ (dd_digs c) (by omega) e, some_bind']
  have T := check_tail neg c e _ rfl
  have T' : (bif !((valR neg (Lib.decDigits c) e).2.1 == 0) then some (21 : Int) else bif !(((valR neg (Lib.decDigits c) e).1.1 == neg) && (((valR neg (Lib.decDigits c) e).1.2.1 == (c : Int)) && ((valR neg (Lib.decDigits c) e).1.2.2.1 == e))) then some ((21 : Int)) else some ((0 : Int))) = _ := T
  by_cases h0 : c = 0
  · have e0 : (((c : Int)) == 0) = true := by simp [h0]
    rw [e0, if_neg (fun h => h.1 h0)]
    exact T'
  · have e0 : (((c : Int)) == 0) = false := by simpa using h0
    rw [e0]
    simp only [Bool.not_false, cond_true]
    by_cases h1 : e < -18
    · rw [bif_pos h1, if_pos ⟨h0, Or.inl h1⟩]
    · rw [bif_neg h1]
      by_cases h2 : e > 18
      · rw [bif_pos h2, if_pos ⟨h0, Or.inr h2⟩]
      · rw [bif_neg h2, if_neg (by omega)]
        exact T'
end Go.AM
set_option linter.unusedVariables false
set_option linter.unusedSimpArgs false
namespace Go.AM
abbrev DecL := Bool × Int × Int
abbrev TagL := List UInt8 × List UInt8
def DecLOK (d : DecL) : Prop := True ∧ (0 ≤ d.2.1 ∧ d.2.1 ≤ 18446744073709551615) ∧ -9223372036854775808 ≤ d.2.2 ∧ d.2.2 ≤ 9223372036854775807
def decC (d : DecL) : Int := checkR d.1 d.2.1.toNat d.2.2
theorem decL_nat {d : DecL} (h : DecLOK d) : ∃ (neg : Bool) (c : Nat) (e : Int), d = (neg, (c : Int), e) ∧ c < two64 ∧ -9223372036854775808 ≤ e ∧ e ≤ 9223372036854775807 := by
  obtain ⟨neg, c, e⟩ := d
  obtain ⟨_, ⟨h1, h2⟩, h3, h4⟩ := h
  simp only at h1 h2 h3 h4
  refine ⟨neg, c.toNat, e, ?_, ?_, h3, h4⟩
  · rw [show ((c.toNat : Nat) : Int) = c from by omega]
  · rw [two64_eq]; omega
theorem decC_nat (neg : Bool) (c : Nat) (e : Int) : decC (neg, (c : Int), e) = checkR neg c e := rfl
theorem decC_chk (n : Nat) (hn : 100 ≤ n) {d : DecL} (h : DecLOK d) : F.dec_Check n (d.1, d.2.1, d.2.2, ()) = some (decC d) := by
  obtain ⟨neg, c, e, rfl, hc, he⟩ := decL_nat h
  exact check_eq n hn neg c hc e he
theorem decC_ref (n : Nat) (hn : 5000 ≤ n) {d : DecL} (h : DecLOK d) : F.ref03_Check n (d.1, d.2.1, d.2.2, ()) = some (decC d) := by
  obtain ⟨neg, c, e, rfl, hc, he⟩ := decL_nat h
  exact check_ref n hn neg c hc e
def nameOK (s : List UInt8) : Bool := (textF 1 s 1 200).1 == 0
def tagOK (t : TagL) : Bool := ((textF 2 t.1 1 64).1 == 0) && ((textF 3 t.2 0 100).1 == 0)
theorem textF_both (c : Int) (s : List UInt8) (lo hi : Int) : (((textF c s lo hi).1 == 0) && ((textF c s lo hi).2.1 == 0)) = ((textF c s lo hi).1 == 0) := by
  by_cases h : (textF c s lo hi).1 = 0
  · rw [h, textF_at h]; rfl
  · rw [beq_eq_false_iff_ne.2 h]; rfl
theorem text4_ref (n : Nat) (hn : 100 ≤ n) (c : Int) (s : List UInt8) (lo hi : Int) (hm : may c = true) (hlo : 0 ≤ lo) (hhi : lo ≤ hi) (hs : s.length < 4611686018427387904) (hl : s.length < n) : F.ref04_Text n c s lo hi = some (textF c s lo hi) := by
  unfold F.ref04_Text textF
  rw [bad_ref n hn c s hs hl, some_bind', if_neg (by simp [hm]; omega)]
  by_cases h3 : (s.length : Int) < lo
  · rw [bif_pos h3, if_pos h3]
  · rw [bif_neg h3, if_neg h3]
    by_cases h4 : (s.length : Int) > hi
    · rw [bif_pos h4, if_pos h4]
    · rw [bif_neg h4, if_neg h4]
      by_cases h5 : 0 ≤ badK (cls c) 0 s
      · rw [bif_pos (by omega), if_pos h5]
      · rw [bif_neg (by omega), if_neg h5]
def TagLOK (t : TagL) : Prop := t.1.length ≤ 1000 ∧ t.2.length ≤ 1000
theorem tag_chk (n : Nat) (hn : 5000 ≤ n) {t : TagL} (h : TagLOK t) : F.tag_Check n (t.1, t.2, ()) = some (bif tagOK t then 0 else 19) := by
  obtain ⟨h1, h2⟩ := h
  unfold F.tag_Check tagOK
  simp only [text_cls n 2 t.1 1 64 (by omega) (by omega), text_cls n 3 t.2 0 100 (by omega) (by omega), some_bind', textF_both]
  cases ((textF 2 t.1 1 64).1 == 0) <;> cases ((textF 3 t.2 0 100).1 == 0) <;> rfl
theorem tag_ref (n : Nat) (hn : 5000 ≤ n) {t : TagL} (h : TagLOK t) : F.ref06_Check n (t.1, t.2, ()) = some (bif tagOK t then 0 else 19) := by
  obtain ⟨h1, h2⟩ := h
  unfold F.ref06_Check F.ref06_Right tagOK
  simp only [text4_ref n (by omega) 2 t.1 1 64 rfl (by omega) (by omega) (by omega) (by omega), text4_ref n (by omega) 3 t.2 0 100 rfl (by omega) (by omega) (by omega) (by omega), some_bind', textF_both]
  cases ((textF 2 t.1 1 64).1 == 0) <;> cases ((textF 3 t.2 0 100).1 == 0) <;> rfl
def kindB (k : Int) : Bool := decide (1 ≤ k) && decide (k ≤ 5)
def valsB (vs : List DecL) : Bool := decide (1 ≤ vs.length) && (decide (vs.length ≤ 64) && vs.all fun d => decC d == 0)
def rateB (k r : Int) : Bool := decide (1 ≤ r) && (decide (r ≤ 1000000) && (!(k == 2) || r == 1000000))
def tagsB (ts : List TagL) : Bool := decide (ts.length ≤ 32) && ts.all tagOK
def timeB (t : Int) : Bool := decide (0 ≤ t) && decide (t ≤ 1099511627776)
def chkM (m : MetD) : Int :=
  bif !nameOK m.1 then 15 else bif !kindB m.2.1 then 16 else bif !valsB m.2.2.1 then 17 else bif !rateB m.2.1 m.2.2.2.1 then 18 else bif !tagsB m.2.2.2.2.1 then 19 else bif !timeB m.2.2.2.2.2.1 then 20 else 0
def MetOK (m : MetD) : Prop := m.1.length ≤ 1000 ∧ (m.2.2.1.length ≤ 1000 ∧ ∀ d ∈ m.2.2.1, DecLOK d) ∧ (m.2.2.2.2.1.length ≤ 1000 ∧ ∀ t ∈ m.2.2.2.2.1, TagLOK t)
theorem vals_loop (n : Nat) (hn : 5000 ≤ n) (k0 : List UInt8 → Int → List DecL → Int → List TagL → Int → Option Bool) (kr : Int → List UInt8 → Int → List DecL → Int → List TagL → Int → Option Bool) (h0 : ∀ a b c d e f, k0 a b c d e f = some true) (hr : ∀ i a b c d e f, 0 ≤ i → kr i a b c d e f = some false) (vs : List DecL) (hs : vs.length ≤ 1000) (hok : ∀ d ∈ vs, DecLOK d) (b0 : List UInt8) (b1 : Int) (b2 : List DecL) (b3 : Int) (b4 : List TagL) (b5 : Int) : ∀ (r : List DecL) (k m : Nat), vs.drop k = r → r.length < m →
    F.metric_look_values.L2_slices_IndexFunc_api_Dec_api_Dec n k0 kr m vs (vs.length : Int) (k : Int) b0 b1 b2 b3 b4 b5 = some (r.all fun d => decC d == 0) := by
  intro r
  induction r with
  | nil =>
    intro k m hk hm
    have := drop_nil' hk
    cases m with
    | zero => simp at hm
    | succ m =>
      show F.metric_look_values.L2_slices_IndexFunc_api_Dec_api_Dec.step n _ k0 kr vs _ _ _ _ _ _ _ _ = _
      unfold F.metric_look_values.L2_slices_IndexFunc_api_Dec_api_Dec.step
      rw [bif_neg (by omega), h0]
      rfl
  | cons x r ih =>
    intro k m hk hm
    obtain ⟨h1, h2, h3⟩ := drop_cons hk
    have hx : DecLOK x := hok x (List.mem_of_getElem? h2)
    cases m with
    | zero => simp at hm
    | succ m =>
      show F.metric_look_values.L2_slices_IndexFunc_api_Dec_api_Dec.step n (F.metric_look_values.L2_slices_IndexFunc_api_Dec_api_Dec n k0 kr m) k0 kr vs _ _ _ _ _ _ _ _ = _
      unfold F.metric_look_values.L2_slices_IndexFunc_api_Dec_api_Dec.step F.metric_look_values_1
      rw [bif_pos (by omega), idx_nat, h2]
      simp only [some_bind', decC_chk n (by omega) hx, List.all_cons]
      by_cases h : decC x = 0
      · rw [h, wrap_succ (by omega), ih (k + 1) m h3 (by simp at hm; omega)]; rfl
      · rw [beq_eq_false_iff_ne.2 h]
        simp [hr]
theorem tags_loop (n : Nat) (hn : 5000 ≤ n) (k0 : List UInt8 → Int → List DecL → Int → List TagL → Int → Option Bool) (kr : Int → List UInt8 → Int → List DecL → Int → List TagL → Int → Option Bool) (h0 : ∀ a b c d e f, k0 a b c d e f = some true) (hr : ∀ i a b c d e f, 0 ≤ i → kr i a b c d e f = some false) (vs : List TagL) (hs : vs.length ≤ 1000) (hok : ∀ d ∈ vs, TagLOK d) (b0 : List UInt8) (b1 : Int) (b2 : List DecL) (b3 : Int) (b4 : List TagL) (b5 : Int) : ∀ (r : List TagL) (k m : Nat), vs.drop k = r → r.length < m →
    F.metric_look_tags.L2_slices_IndexFunc_api_Tag_api_Tag n k0 kr m vs (vs.length : Int) (k : Int) b0 b1 b2 b3 b4 b5 = some (r.all tagOK) := by
  intro r
  induction r with
  | nil =>
    intro k m hk hm
    have := drop_nil' hk
    cases m with
    | zero => simp at hm
    | succ m =>
      show F.metric_look_tags.L2_slices_IndexFunc_api_Tag_api_Tag.step n _ k0 kr vs _ _ _ _ _ _ _ _ = _
      unfold F.metric_look_tags.L2_slices_IndexFunc_api_Tag_api_Tag.step
      rw [bif_neg (by omega), h0]
      rfl
  | cons x r ih =>
    intro k m hk hm
    obtain ⟨h1, h2, h3⟩ := drop_cons hk
    have hx : TagLOK x := hok x (List.mem_of_getElem? h2)
    cases m with
    | zero => simp at hm
    | succ m =>
      show F.metric_look_tags.L2_slices_IndexFunc_api_Tag_api_Tag.step n (F.metric_look_tags.L2_slices_IndexFunc_api_Tag_api_Tag n k0 kr m) k0 kr vs _ _ _ _ _ _ _ _ = _
      unfold F.metric_look_tags.L2_slices_IndexFunc_api_Tag_api_Tag.step F.metric_look_tags_1
      rw [bif_pos (by omega), idx_nat, h2]
      simp only [some_bind', tag_chk n hn hx, List.all_cons]
      cases h : tagOK x
      · simp [hr]
      · rw [wrap_succ (by omega), ih (k + 1) m h3 (by simp at hm; omega)]; rfl
theorem mbetween_eq (n : Nat) (x lo hi : Int) : F.metric_between n x lo hi = some (decide (lo ≤ x) && decide (x ≤ hi)) := by
  unfold F.metric_between
  by_cases h : lo ≤ x
  · rw [bif_pos (by omega), decide_eq_true h]; rfl
  · rw [bif_neg (by omega), decide_eq_false h]; rfl
theorem look_name (n : Nat) (m : MetD) (h : m.1.length ≤ 1000) (hn : 5000 ≤ n) : F.metric_look_name n m = some (nameOK m.1) := by
  unfold F.metric_look_name nameOK
  rw [text_cls n 1 m.1 1 200 (by omega) (by omega), some_bind', textF_both]
theorem look_kind (n : Nat) (m : MetD) : F.metric_look_kind n m = some (kindB m.2.1) := by
  unfold F.metric_look_kind kindB
  rw [mbetween_eq]; rfl
theorem look_values (n : Nat) (hn : 5000 ≤ n) (m : MetD) (hm : MetOK m) : F.metric_look_values n m = some (valsB m.2.2.1) := by
  unfold F.metric_look_values valsB
  have L := vals_loop n hn (fun _ _ _ _ _ _ => some true) (fun e _ _ _ _ _ _ => some (!(decide (e ≥ (0 : Int))))) (fun _ _ _ _ _ _ => rfl) (fun i _ _ _ _ _ _ h => by simp [h]) _ hm.2.1.1 hm.2.1.2 m.1 m.2.1 m.2.2.1 m.2.2.2.1 m.2.2.2.2.1 m.2.2.2.2.2.1 m.2.2.1 0 n rfl (by have := hm.2.1.1; omega)
  rw [show ((0 : Nat) : Int) = (0 : Int) from rfl] at L
  rw [mbetween_eq, some_bind', L]
  have e1 : decide ((1 : Int) ≤ (m.2.2.1.length : Int)) = decide (1 ≤ m.2.2.1.length) := by apply decide_eq_decide.2; omega
  have e2 : decide ((m.2.2.1.length : Int) ≤ 64) = decide (m.2.2.1.length ≤ 64) := by apply decide_eq_decide.2; omega
  rw [e1, e2]
  cases decide (1 ≤ m.2.2.1.length) <;> cases decide (m.2.2.1.length ≤ 64) <;> rfl
theorem look_rate (n : Nat) (m : MetD) : F.metric_look_rate n m = some (rateB m.2.1 m.2.2.2.1) := by
  unfold F.metric_look_rate rateB
  rw [mbetween_eq, some_bind']
  cases decide ((1 : Int) ≤ m.2.2.2.1) <;> cases decide (m.2.2.2.1 ≤ 1000000) <;> cases (m.2.1 == 2) <;> rfl
theorem look_tags (n : Nat) (hn : 5000 ≤ n) (m : MetD) (hm : MetOK m) : F.metric_look_tags n m = some (tagsB m.2.2.2.2.1) := by
  unfold F.metric_look_tags tagsB
  have L := tags_loop n hn (fun _ _ _ _ _ _ => some true) (fun e _ _ _ _ _ _ => some (!(decide (e ≥ (0 : Int))))) (fun _ _ _ _ _ _ => rfl) (fun i _ _ _ _ _ _ h => by simp [h]) _ hm.2.2.1 hm.2.2.2 m.1 m.2.1 m.2.2.1 m.2.2.2.1 m.2.2.2.2.1 m.2.2.2.2.2.1 m.2.2.2.2.1 0 n rfl (by have := hm.2.2.1; omega)
  rw [show ((0 : Nat) : Int) = (0 : Int) from rfl] at L
  rw [L]
  have e2 : decide ((m.2.2.2.2.1.length : Int) ≤ 32) = decide (m.2.2.2.2.1.length ≤ 32) := by apply decide_eq_decide.2; omega
  rw [e2]
  cases decide (m.2.2.2.2.1.length ≤ 32) <;> rfl
theorem look_time (n : Nat) (m : MetD) : F.metric_look_time n m = some (timeB m.2.2.2.2.2.1) := by
  unfold F.metric_look_time timeB
  rw [mbetween_eq]; rfl
theorem metcheck_eq (n : Nat) (hn : 5000 ≤ n) (m : MetD) (hm : MetOK m) : F.metric_Check n m = some (chkM m) := by
  unfold F.metric_Check
  obtain ⟨q, hq⟩ : ∃ q, n = q + 7 := ⟨n - 7, by omega⟩
  have l1 := look_name n m hm.1 hn
  have l2 := look_kind n m
  have l3 := look_values n hn m hm
  have l4 := look_rate n m
  have l5 := look_tags n hn m hm
  have l6 := look_time n m
  obtain ⟨nm, k, vs, r, ts, t, _⟩ := m
  simp only at l1 l2 l3 l4 l5 l6
  have key : ∀ (X : Type) (k0 : (List UInt8) → Int → (List DecL) → Int → (List TagL) → Int → (List UInt8) → Int → (List DecL) → Int → (List TagL) → Int → Option X) (kr : Int → (List UInt8) → Int → (List DecL) → Int → (List TagL) → Int → (List UInt8) → Int → (List DecL) → Int → (List TagL) → Int → Option X),
      F.metric_Check.L3 n k0 kr (q + 7) ((((nm, k, vs, r, ts, t, ()), ()), (())), (15 : Int), (((nm, k, vs, r, ts, t, ()), ()), (())), (16 : Int), (((nm, k, vs, r, ts, t, ()), ()), (())), (17 : Int), (((nm, k, vs, r, ts, t, ()), ()), (())), (18 : Int), (((nm, k, vs, r, ts, t, ()), ()), (())), (19 : Int), (((nm, k, vs, r, ts, t, ()), ()), (())), (20 : Int), ()) 0 nm k vs r ts t nm k vs r ts t =
      (bif !nameOK nm then kr 15 nm k vs r ts t nm k vs r ts t else bif !kindB k then kr 16 nm k vs r ts t nm k vs r ts t else bif !valsB vs then kr 17 nm k vs r ts t nm k vs r ts t else bif !rateB k r then kr 18 nm k vs r ts t nm k vs r ts t
        else bif !tagsB ts then kr 19 nm k vs r ts t nm k vs r ts t else bif !timeB t then kr 20 nm k vs r ts t nm k vs r ts t else k0 nm k vs r ts t nm k vs r ts t) := by
    intro X k0 kr
    refine Eq.trans (b := (F.metric_look_name n (nm, k, vs, r, ts, t, ())).bind fun y => bif !y then kr 15 nm k vs r ts t nm k vs r ts t else
      (F.metric_look_kind n (nm, k, vs, r, ts, t, ())).bind fun y => bif !y then kr 16 nm k vs r ts t nm k vs r ts t else
      (F.metric_look_values n (nm, k, vs, r, ts, t, ())).bind fun y => bif !y then kr 17 nm k vs r ts t nm k vs r ts t else
      (F.metric_look_rate n (nm, k, vs, r, ts, t, ())).bind fun y => bif !y then kr 18 nm k vs r ts t nm k vs r ts t else
      (F.metric_look_tags n (nm, k, vs, r, ts, t, ())).bind fun y => bif !y then kr 19 nm k vs r ts t nm k vs r ts t else
      (F.metric_look_time n (nm, k, vs, r, ts, t, ())).bind fun y => bif !y then kr 20 nm k vs r ts t nm k vs r ts t else k0 nm k vs r ts t nm k vs r ts t) (by kernel_rfl) ?_
    rw [l1, l2, l3, l4, l5, l6]
    rfl
  rw [← hq] at key
  rw [key]
  unfold chkM
  simp only [bif_some]
end Go.AM
set_option linter.unusedVariables false
set_option linter.unusedSimpArgs false
namespace Go.AM
theorem cls1_word (x : UInt8) : cls 1 x = wordI (x.toNat : Int) := rfl
theorem name_step {X : Type} (n : Nat) (rec : List UInt8 → Int → Option X) (k0 : List UInt8 → Option X) (kr : Bool → Option X) (s : List UInt8) (k : Nat) (hk : k < s.length) (hs : s.length ≤ 1000) (x : UInt8) (hx : s[k]? = some x) :
    F.ref07_Name.L2.step n rec k0 kr s (k : Int) = if cls 1 x = true then rec s ((k + 1 : Nat) : Int) else kr false := by
  unfold F.ref07_Name.L2.step
  rw [bif_pos (by omega), idx_nat, hx, wrap_succ (by omega), some_bind', cls1_word]
  unfold wordI btw
  generalize hv : ((x.toNat : Nat) : Int) = v
  generalize rec s ((k + 1 : Nat) : Int) = A
  generalize kr false = B
  simp only [Bool.cond_eq_ite, Bool.not_eq_true', Bool.or_eq_true, Bool.and_eq_true, decide_eq_true_eq, beq_iff_eq, beq_eq_false_iff_ne, ne_eq]
  repeat' split
  all_goals first
    | rfl
    | (exfalso; omega)
theorem name_ref_loop (n : Nat) (X : Type) (k0 : List UInt8 → Option X) (kr : Bool → Option X) (s : List UInt8) (hs : s.length ≤ 1000) : ∀ (r : List UInt8) (k m : Nat), s.drop k = r → r.length < m →
    F.ref07_Name.L2 n k0 kr m s (k : Int) = if r.all (cls 1) = true then k0 s else kr false := by
  intro r
  induction r with
  | nil =>
    intro k m hk hm
    have := drop_nil' hk
    cases m with
    | zero => simp at hm
    | succ m =>
      show F.ref07_Name.L2.step n (F.ref07_Name.L2 n k0 kr m) k0 kr s (k : Int) = _
      unfold F.ref07_Name.L2.step
      rw [bif_neg (by omega)]
      rfl
  | cons x r ih =>
    intro k m hk hm
    obtain ⟨h1, h2, h3⟩ := drop_cons hk
    cases m with
    | zero => simp at hm
    | succ m =>
      show F.ref07_Name.L2.step n (F.ref07_Name.L2 n k0 kr m) k0 kr s (k : Int) = _
      rw [name_step n _ _ _ s k h1 hs x h2, List.all_cons]
      cases hx : cls 1 x
      · rfl
      · rw [if_pos rfl, ih (k + 1) m h3 (by simp at hm; omega)]
        rfl
theorem nameOK_eq (s : List UInt8) : nameOK s = (s.all (cls 1) && (decide (1 ≤ s.length) && decide (s.length ≤ 200))) := by
  unfold nameOK textF
  rw [if_neg (by simp [may])]
  by_cases h1 : (s.length : Int) < 1
  · rw [if_pos h1]
    have : decide (1 ≤ s.length) = false := decide_eq_false (by omega)
    rw [this]; simp
  rw [if_neg h1]
  have e1 : decide (1 ≤ s.length) = true := decide_eq_true (by omega)
  by_cases h2 : (s.length : Int) > 200
  · rw [if_pos h2]
    have : decide (s.length ≤ 200) = false := decide_eq_false (by omega)
    rw [this]; simp
  rw [if_neg h2]
  have e2 : decide (s.length ≤ 200) = true := decide_eq_true (by omega)
  rw [e1, e2]
  by_cases h3 : 0 ≤ badK (cls 1) 0 s
  · rw [if_pos h3]
    have : s.all (cls 1) = false := by
      have := (badK_ge (cls 1) 0 s).1 h3
      simpa using this
    rw [this]; rfl
  · rw [if_neg h3]
    have : s.all (cls 1) = true := Classical.byContradiction fun hh => h3 ((badK_ge _ _ _).2 hh)
    rw [this]; rfl
theorem name_ref (n : Nat) (hn : 5000 ≤ n) (s : List UInt8) (hs : s.length ≤ 1000) : F.ref07_Name n s = some (nameOK s) := by
  unfold F.ref07_Name
  have L := name_ref_loop n Bool (fun e2_0 => bif decide ((e2_0.length : Int) ≥ (1 : Int)) then some (decide ((e2_0.length : Int) ≤ (200 : Int))) else some (false)) (fun e3_2 => some (e3_2)) s hs s 0 n rfl (by omega)
  refine L.trans ?_
  rw [nameOK_eq]
  cases h : s.all (cls 1)
  · rfl
  · rw [if_pos rfl]
    by_cases h1 : 1 ≤ s.length
    · rw [bif_pos (by omega), decide_eq_true h1]
      have e2 : decide ((s.length : Int) ≤ 200) = decide (s.length ≤ 200) := by apply decide_eq_decide.2; omega
      rw [e2]; rfl
    · rw [bif_neg (by omega), decide_eq_false h1]; rfl
theorem rest_loop (n : Nat) (hn : 5000 ≤ n) (X : Type) (k0 : List UInt8 → Int → List DecL → Int → List TagL → Int → Option X) (kr : Int → List UInt8 → Int → List DecL → Int → List TagL → Int → Option X) (vs : List TagL) (hs : vs.length ≤ 1000) (hok : ∀ d ∈ vs, TagLOK d) (b0 : List UInt8) (b1 : Int) (b2 : List DecL) (b3 : Int) (b5 : Int) : ∀ (r : List TagL) (k m : Nat), vs.drop k = r → r.length < m →
    F.ref07_Rest.L12 n k0 kr m (k : Int) b0 b1 b2 b3 vs b5 = bif r.all tagOK then k0 b0 b1 b2 b3 vs b5 else kr 19 b0 b1 b2 b3 vs b5 := by
  intro r
  induction r with
  | nil =>
    intro k m hk hm
    have := drop_nil' hk
    cases m with
    | zero => simp at hm
    | succ m =>
      show F.ref07_Rest.L12.step n (F.ref07_Rest.L12 n k0 kr m) k0 kr _ _ _ _ _ _ _ = _
      unfold F.ref07_Rest.L12.step
      rw [bif_neg (by omega)]
      rfl
  | cons x r ih =>
    intro k m hk hm
    obtain ⟨h1, h2, h3⟩ := drop_cons hk
    have hx : TagLOK x := hok x (List.mem_of_getElem? h2)
    cases m with
    | zero => simp at hm
    | succ m =>
      show F.ref07_Rest.L12.step n (F.ref07_Rest.L12 n k0 kr m) k0 kr _ _ _ _ _ _ _ = _
      unfold F.ref07_Rest.L12.step
      rw [bif_pos (by omega), idx_nat, h2]
      simp only [some_bind', tag_ref n hn hx, List.all_cons]
      cases h : tagOK x
      · rfl
      · rw [wrap_succ (by omega), ih (k + 1) m h3 (by simp at hm; omega)]; rfl
def restM (m : MetD) (vals : Bool) : Int :=
  bif !nameOK m.1 then 15 else bif !kindB m.2.1 then 16 else bif !(vals && (decide (1 ≤ m.2.2.1.length) && decide (m.2.2.1.length ≤ 64))) then 17 else bif !rateB m.2.1 m.2.2.2.1 then 18 else bif !tagsB m.2.2.2.2.1 then 19 else bif !timeB m.2.2.2.2.2.1 then 20 else 0
theorem chk_rest (m : MetD) : chkM m = restM m (m.2.2.1.all fun d => decC d == 0) := by
  unfold chkM restM valsB
  cases decide (1 ≤ m.2.2.1.length) <;> cases decide (m.2.2.1.length ≤ 64) <;> cases (m.2.2.1.all fun d => decC d == 0) <;> rfl
theorem rest_ref (n : Nat) (hn : 5000 ≤ n) (m : MetD) (h1 : m.1.length ≤ 1000) (h2 : m.2.2.2.2.1.length ≤ 1000) (h3 : ∀ t ∈ m.2.2.2.2.1, TagLOK t) (vals : Bool) : F.ref07_Rest n m vals = some (restM m vals) := by
  obtain ⟨nm, k, vs, r, ts, t, _⟩ := m
  simp only at h1 h2 h3
  unfold F.ref07_Rest restM
  simp only [name_ref n hn nm h1, some_bind']
  cases nameOK nm
  · rfl
  simp only [Bool.not_true, cond_false]
  unfold kindB
  by_cases k1 : k < 1
  · rw [bif_pos k1, decide_eq_false (by omega : ¬ 1 ≤ k)]; rfl
  rw [bif_neg k1, decide_eq_true (by omega : 1 ≤ k)]
  by_cases k2 : k > 5
  · rw [bif_pos k2, decide_eq_false (by omega : ¬ k ≤ 5)]; rfl
  rw [bif_neg k2, decide_eq_true (by omega : k ≤ 5)]
  simp only [Bool.and_self, Bool.not_true, cond_false]
  cases vals
  · rfl
  simp only [Bool.not_true, cond_false, Bool.true_and]
  by_cases v1 : (vs.length : Int) < 1
  · rw [bif_pos v1, decide_eq_false (by omega : ¬ 1 ≤ vs.length)]; rfl
  rw [bif_neg v1, decide_eq_true (by omega : 1 ≤ vs.length)]
  by_cases v2 : (vs.length : Int) > 64
  · rw [bif_pos v2, decide_eq_false (by omega : ¬ vs.length ≤ 64)]; rfl
  rw [bif_neg v2, decide_eq_true (by omega : vs.length ≤ 64)]
  simp only [Bool.and_self, Bool.not_true, cond_false]
  unfold rateB
  by_cases r1 : r < 1
  · rw [bif_pos r1, decide_eq_false (by omega : ¬ 1 ≤ r)]; rfl
  rw [bif_neg r1, decide_eq_true (by omega : 1 ≤ r)]
  by_cases r2 : r > 1000000
  · rw [bif_pos r2, decide_eq_false (by omega : ¬ r ≤ 1000000)]; rfl
  rw [bif_neg r2, decide_eq_true (by omega : r ≤ 1000000)]
  simp only [Bool.true_and]
  have tail : (bif decide ((ts.length : Int) > (32 : Int)) then some (19 : Int) else
        F.ref07_Rest.L12 n
          (fun e4_b0_0 e4_b0_1 e4_b0_2 e4_b0_3 e4_b0_4 e4_b0_5 =>
            bif decide (e4_b0_5 < (0 : Int)) then some ((20 : Int)) else bif decide (e4_b0_5 > (1099511627776 : Int)) then some ((20 : Int)) else some ((0 : Int)))
          (fun e5_4 e5_b0_0 e5_b0_1 e5_b0_2 e5_b0_3 e5_b0_4 e5_b0_5 => some (e5_4)) n (0 : Int) nm k vs r ts t) = some (bif !tagsB ts then 19 else bif !timeB t then 20 else 0) := by
    unfold tagsB timeB
    by_cases t1 : (ts.length : Int) > 32
    · rw [bif_pos t1, decide_eq_false (by omega : ¬ ts.length ≤ 32)]; rfl
    rw [bif_neg t1, decide_eq_true (by omega : ts.length ≤ 32)]
    refine (rest_loop n hn Int _ _ ts h2 h3 nm k vs r t ts 0 n rfl (by omega)).trans ?_
    cases ts.all tagOK
    · rfl
    · rw [cond_true]
      by_cases u1 : t < 0
      · rw [bif_pos u1, decide_eq_false (by omega : ¬ 0 ≤ t)]; rfl
      rw [bif_neg u1, decide_eq_true (by omega : 0 ≤ t)]
      by_cases u2 : t > 1099511627776
      · rw [bif_pos u2, decide_eq_false (by omega : ¬ t ≤ 1099511627776)]; rfl
      rw [bif_neg u2, decide_eq_true (by omega : t ≤ 1099511627776)]
      rfl
  cases hk : (k == 2)
  · exact tail
  · cases hr : (r == 1000000)
    · rfl
    · exact tail
theorem check_loop (n : Nat) (hn : 5000 ≤ n) (X : Type) (k0 : Bool → List UInt8 → Int → List DecL → Int → List TagL → Int → Option X) (vs : List DecL) (hs : vs.length ≤ 1000) (hok : ∀ d ∈ vs, DecLOK d) (b0 : List UInt8) (b1 : Int) (b3 : Int) (b4 : List TagL) (b5 : Int) : ∀ (r : List DecL) (k m : Nat) (v : Bool), vs.drop k = r → r.length < m →
    F.ref07_Check.L3 n k0 m v (k : Int) b0 b1 vs b3 b4 b5 = k0 (v && r.all fun d => decC d == 0) b0 b1 vs b3 b4 b5 := by
  intro r
  induction r with
  | nil =>
    intro k m v hk hm
    have := drop_nil' hk
    cases m with
    | zero => simp at hm
    | succ m =>
      show F.ref07_Check.L3.step n (F.ref07_Check.L3 n k0 m) k0 v _ _ _ _ _ _ _ = _
      unfold F.ref07_Check.L3.step
      rw [bif_neg (by omega)]
      cases v <;> rfl
  | cons x r ih =>
    intro k m v hk hm
    obtain ⟨h1, h2, h3⟩ := drop_cons hk
    have hx : DecLOK x := hok x (List.mem_of_getElem? h2)
    cases m with
    | zero => simp at hm
    | succ m =>
      show F.ref07_Check.L3.step n (F.ref07_Check.L3 n k0 m) k0 v _ _ _ _ _ _ _ = _
      unfold F.ref07_Check.L3.step
      rw [bif_pos (by omega), wrap_succ (by omega)]
      cases v
      · rw [cond_false, ih (k + 1) m _ h3 (by simp at hm; omega)]; rfl
      · rw [cond_true, idx_nat, h2]
        simp only [some_bind', decC_ref n hn hx, List.all_cons, Bool.true_and]
        rw [ih (k + 1) m _ h3 (by simp at hm; omega)]
theorem metcheck_ref (n : Nat) (hn : 5000 ≤ n) (m : MetD) (hm : MetOK m) : F.ref07_Check n m = some (chkM m) := by
  have hr := rest_ref n hn m hm.1 hm.2.2.1 hm.2.2.2 (m.2.2.1.all fun d => decC d == 0)
  have h2 := hm.2.1
  rw [chk_rest]
  obtain ⟨nm, k, vs, r, ts, t, _⟩ := m
  simp only at hr h2 ⊢
  unfold F.ref07_Check
  refine (check_loop n hn Int _ vs h2.1 h2.2 nm k r ts t vs 0 n true rfl (by have := h2.1; omega)).trans ?_
  rw [Bool.true_and, hr]
  rfl
def bareM (m : MetD) : Bool := decide (m.2.2.1.length = 1) && decide (m.2.2.2.2.1.length = 0)
def negM (m : MetD) : Bool := match m.2.2.1 with | [] => false | d :: _ => d.1
def saysS (m : MetD) : Bool := bareM m && ((m.2.2.2.2.2.1 == 0) && (!(m.2.1 == 5) && (!(m.2.1 == 2) || !negM m)))
def saysG (m : MetD) : Bool := bareM m && (!(m.2.2.2.2.2.1 == 0) && (m.2.1 == 2))
def saysM (m : MetD) (f : Int) : Bool := if f = 1 then saysS m else if f = 3 then saysG m else true
def expM (m : MetD) (f : Int) : Int := if f < 1 ∨ f > 4 then 29 else if chkM m = 0 then (bif saysM m f then 0 else 26) else chkM m
theorem len_int (l : List DecL) (k : Nat) : (((l.length : Nat) : Int) == ((k : Nat) : Int)) = decide (l.length = k) := by
  by_cases h : l.length = k
  · rw [h]; simp
  · rw [decide_eq_false h, beq_eq_false_iff_ne]; omega
theorem len_intT (l : List TagL) (k : Nat) : (((l.length : Nat) : Int) == ((k : Nat) : Int)) = decide (l.length = k) := by
  by_cases h : l.length = k
  · rw [h]; simp
  · rw [decide_eq_false h, beq_eq_false_iff_ne]; omega
theorem bare_eq (n : Nat) (m : MetD) : F.expr_said_bare n m = some (bareM m) := by
  have h1 := len_int m.2.2.1 1
  have h2 := len_intT m.2.2.2.2.1 0
  unfold F.expr_said_bare bareM
  rw [show (1 : Int) = ((1 : Nat) : Int) from rfl, show (0 : Int) = ((0 : Nat) : Int) from rfl, h1, h2]
  cases decide (m.2.2.1.length = 1) <;> rfl
theorem neg_idx {m : MetD} (h : bareM m = true) : ∃ d, idx m.2.2.1 (0 : Int) = some d ∧ negM m = d.1 := by
  unfold bareM at h
  obtain ⟨nm, k, vs, r, ts, t, _⟩ := m
  match vs, h with
  | [d], _ => exact ⟨d, rfl, rfl⟩
theorem said_s (n : Nat) (m : MetD) : F.expr_said_statsd n m = some (saysS m) := by
  unfold F.expr_said_statsd saysS
  have hb : F.expr_said_bare n (m.1, m.2.1, m.2.2.1, m.2.2.2.1, m.2.2.2.2.1, m.2.2.2.2.2.1, ()) = some (bareM m) := bare_eq n m
  rw [hb, some_bind']
  cases h : bareM m
  · rfl
  simp only [Bool.not_true, cond_false, Bool.true_and]
  obtain ⟨d, hd, hg⟩ := neg_idx h
  rw [hd, hg]
  cases (m.2.2.2.2.2.1 == 0) <;> cases (m.2.1 == 5) <;> cases (m.2.1 == 2) <;> rfl
theorem said_g (n : Nat) (m : MetD) : F.expr_said_graphite n m = some (saysG m) := by
  unfold F.expr_said_graphite saysG
  have hb : F.expr_said_bare n (m.1, m.2.1, m.2.2.1, m.2.2.2.1, m.2.2.2.2.1, m.2.2.2.2.2.1, ()) = some (bareM m) := bare_eq n m
  rw [hb, some_bind']
  cases bareM m <;> cases (m.2.2.2.2.2.1 == 0) <;> rfl
theorem says_ref (n : Nat) (m : MetD) (f : Int) : F.ref09_Says n m f = some (saysM m f) := by
  unfold F.ref09_Says saysM saysS saysG
  have h1 := len_int m.2.2.1 1
  have h2 := len_intT m.2.2.2.2.1 0
  have e1 : ((m.2.2.1.length : Int) == (1 : Int)) = decide (m.2.2.1.length = 1) := h1
  have e2 : ((m.2.2.2.2.1.length : Int) == (0 : Int)) = decide (m.2.2.2.2.1.length = 0) := h2
  rw [e1, e2]
  by_cases f1 : f = 1
  · subst f1
    simp only [beq_self_eq_true, cond_true, if_true]
    cases hb : bareM m
    · unfold bareM at hb
      cases g1 : decide (m.2.2.1.length = 1)
      · rfl
      · rw [g1, Bool.true_and] at hb
        rw [hb]; rfl
    · obtain ⟨d, hd, hg⟩ := neg_idx hb
      unfold bareM at hb
      rw [Bool.and_eq_true] at hb
      rw [hb.1, hb.2, hd, hg]
      cases (m.2.2.2.2.2.1 == 0) <;> cases (m.2.1 == 5) <;> cases (m.2.1 == 2) <;> rfl
  · rw [beq_eq_false_iff_ne.2 f1, if_neg f1]
    by_cases f3 : f = 3
    · subst f3
      simp only [beq_self_eq_true, cond_true, cond_false, if_true]
      unfold bareM
      cases decide (m.2.2.1.length = 1) <;> cases decide (m.2.2.2.2.1.length = 0) <;> cases (m.2.2.2.2.2.1 == 0) <;> rfl
    · rw [beq_eq_false_iff_ne.2 f3, if_neg f3]
      cases decide (m.2.2.1.length = 1) <;> rfl
theorem expm_eq (n : Nat) (hn : 5000 ≤ n) (m : MetD) (hm : MetOK m) (f : Int) : F.expr_Metric n m f = some (expM m f) := by
  unfold F.expr_Metric expM
  by_cases h : f < 1 ∨ f > 4
  · rw [if_pos h]
    have : (f == 1 || (f == 2 || (f == 3 || f == 4))) = false := by
      simp only [Bool.or_eq_false_iff, beq_eq_false_iff_ne]; omega
    rw [this]; rfl
  rw [if_neg h]
  have : (f == 1 || (f == 2 || (f == 3 || f == 4))) = true := by
    simp only [Bool.or_eq_true, beq_iff_eq]; omega
  rw [this, cond_true, metcheck_eq n hn m hm, some_bind']
  by_cases h0 : chkM m = 0
  · rw [h0]
    have e : (if f = 1 then F.expr_said_statsd n m else if f = 3 then F.expr_said_graphite n m else F.expr_said_any n m) = some (saysM m f) := by
      unfold saysM
      by_cases f1 : f = 1
      · rw [if_pos f1, if_pos f1, said_s]
      · rw [if_neg f1, if_neg f1]
        by_cases f3 : f = 3
        · rw [if_pos f3, if_pos f3, said_g]
        · rw [if_neg f3, if_neg f3]; rfl
    rw [e]
    cases saysM m f <;> rfl
  · rw [beq_eq_false_iff_ne.2 h0, if_neg h0]; rfl
theorem expm_ref (n : Nat) (hn : 5000 ≤ n) (m : MetD) (hm : MetOK m) (f : Int) : F.ref09_Metric n m f = some (expM m f) := by
  unfold F.ref09_Metric expM
  by_cases h1 : f < 1
  · rw [bif_pos h1, if_pos (Or.inl h1)]
  rw [bif_neg h1]
  by_cases h2 : f > 4
  · rw [bif_pos h2, if_pos (Or.inr h2)]
  rw [bif_neg h2, if_neg (by omega)]
  have hc : F.ref07_Check n (m.1, m.2.1, m.2.2.1, m.2.2.2.1, m.2.2.2.2.1, m.2.2.2.2.2.1, ()) = some (chkM m) := metcheck_ref n hn m hm
  have hs : F.ref09_Says n (m.1, m.2.1, m.2.2.1, m.2.2.2.1, m.2.2.2.2.1, m.2.2.2.2.2.1, ()) f = some (saysM m f) := says_ref n m f
  rw [hc, some_bind']
  by_cases h0 : chkM m = 0
  · rw [h0, if_pos rfl, hs]
    cases saysM m f <;> rfl
  · rw [beq_eq_false_iff_ne.2 h0, if_neg h0]; rfl
end Go.AM
set_option linter.unusedVariables false
set_option linter.unusedSimpArgs false
namespace Go.AM
theorem text_zeros (n : Nat) (X : Type) (k0 : (List UInt8) → Bool → Int → Int → Option X) (neg : Bool) (c e : Int) : ∀ (j i m : Nat) (v : List UInt8), ((i : Int) + j = e ∨ j = 0 ∧ e ≤ i) → j < m → i + j ≤ 1000 → v.length + j ≤ 100000 → F.ref03_Text.L3 n k0 m v (i : Int) neg c e = k0 (v ++ List.replicate j 48) neg c e := by
  intro j
  induction j with
  | zero =>
    intro i m v h hm hi hv
    obtain ⟨m, rfl⟩ : ∃ q, m = q + 1 := ⟨m - 1, by omega⟩
    show F.ref03_Text.L3.step n _ k0 _ _ _ _ _ = _
    unfold F.ref03_Text.L3.step
    rw [bif_neg (by omega), List.replicate_zero, List.append_nil]
  | succ j ih =>
    intro i m v h hm hi hv
    obtain ⟨m, rfl⟩ : ∃ q, m = q + 1 := ⟨m - 1, by omega⟩
    show F.ref03_Text.L3.step n (F.ref03_Text.L3 n k0 m) k0 _ _ _ _ _ = _
    unfold F.ref03_Text.L3.step
    rw [bif_pos (by omega), bif_pos (by rw [strMax_eq]; omega), wrap_succ (by omega), ih (i + 1) m _ (by omega) (by omega) (by omega) (by simp; omega), List.append_assoc, List.replicate_succ]
    rfl
theorem text_pad (n : Nat) (X : Type) (k2 : (List UInt8) → Bool → Int → Int → Option X) (neg : Bool) (c e : Int) (he : -100 ≤ e ∧ e < 0) : ∀ (j m : Nat) (v : List UInt8), ((v.length : Int) + j = 1 - e ∨ j = 0 ∧ 1 - e ≤ v.length) → j < m → v.length + j ≤ 100000 → F.ref03_Text.L7 n k2 m v neg c e = k2 (List.replicate j 48 ++ v) neg c e := by
  intro j
  induction j with
  | zero =>
    intro m v h hm hv
    obtain ⟨m, rfl⟩ : ∃ q, m = q + 1 := ⟨m - 1, by omega⟩
    show F.ref03_Text.L7.step n _ k2 _ _ _ _ = _
    unfold F.ref03_Text.L7.step
    rw [wrap_in (by omega), bif_neg (by omega)]
    rfl
  | succ j ih =>
    intro m v h hm hv
    obtain ⟨m, rfl⟩ : ∃ q, m = q + 1 := ⟨m - 1, by omega⟩
    show F.ref03_Text.L7.step n (F.ref03_Text.L7 n k2 m) k2 _ _ _ _ = _
    unfold F.ref03_Text.L7.step
    rw [wrap_in (by omega), bif_pos (by omega), bif_pos (by rw [strMax_eq]; omega), ih m _ (by simp; omega) (by omega) (by simp; omega), List.replicate_succ', List.append_assoc]
theorem text_ref (n : Nat) (hn : 5000 ≤ n) (neg : Bool) (c : Nat) (hc : c < two64) (e : Int) (he : -18 ≤ e ∧ e ≤ 18) : F.ref03_Text n (neg, (c : Int), e, ()) = some (textD neg c e) := by
  unfold F.ref03_Text
  have hl := dd_len64 hc
  simp only [digits03 n (by omega) c hc, some_bind']
  have hz := text_zeros n (List UInt8) (fun e2_3 e2_b0_0 e2_b0_1 e2_b0_2 =>
        bif decide (e2_b0_2 < (0 : Int)) then
          F.ref03_Text.L7 n
            (fun e3_3 e3_b0_0 e3_b0_1 e3_b0_2 =>
              (sub e3_3 (0 : Int) (IntKind.wrap .i64 ((e3_3.length : Int) + e3_b0_2))).bind fun x4 =>
                bif decide (x4.length + 1 ≤ strMax) then
                  (sub e3_3 (IntKind.wrap .i64 ((e3_3.length : Int) + e3_b0_2)) (e3_3.length : Int)).bind fun x5 =>
                    bif decide (((x4 ++ ([46])).length) + x5.length ≤ strMax) then
                      bif e3_b0_0 then
                        bif decide (1 + (((x4 ++ ([46])) ++ x5).length) ≤ strMax) then
                          some (([45]) ++ ((x4 ++ ([46])) ++ x5))
                        else
                          none
                      else
                        some ((x4 ++ ([46])) ++ x5)
                    else
                      none
                else
                  none) n e2_3 e2_b0_0 e2_b0_1 e2_b0_2
        else
        bif e2_b0_0 then
          bif decide (1 + e2_3.length ≤ strMax) then
            some (([45]) ++ e2_3)
          else
            none
        else
          some (e2_3)) neg (c : Int) e e.toNat 0 n (Lib.decDigits c) (by omega) (by omega) (by omega) (by omega)
  refine hz.trans ?_
  unfold textD
  by_cases hE : 0 ≤ e
  · rw [bif_neg (by omega), if_pos hE]
    cases neg
    · rfl
    · rw [cond_true, bif_pos (by rw [strMax_eq]; simp; omega)]
      rfl
  · obtain ⟨w1, w2, w3⟩ := wideW_len c hc e (by omega)
    have hwl : (List.replicate (1 - e - (Lib.decDigits c).length).toNat (48 : UInt8)).length + (Lib.decDigits c).length = (wideW c e).length := by unfold wideW; simp
    have hww : List.replicate (1 - e - (Lib.decDigits c).length).toNat (48 : UInt8) ++ Lib.decDigits c = wideW c e := rfl
    rw [bif_pos (by omega), if_neg hE, show e.toNat = 0 from by omega, List.replicate_zero, List.append_nil, text_pad n _ _ neg (c : Int) e (by omega) (1 - e - (Lib.decDigits c).length).toNat n _ (by omega) (by omega) (by omega), hww]
    generalize wideW c e = w at w1 w2 w3
    have hat : IntKind.wrap .i64 ((w.length : Int) + e) = ((w.length - e.natAbs : Nat) : Int) := by rw [wrap_in (by omega)]; omega
    rw [hat]
    have s1 : sub w 0 ((w.length - e.natAbs : Nat) : Int) = some (w.take (w.length - e.natAbs)) := by
      have := sub_nat w 0 (w.length - e.natAbs) (by omega) (by omega)
      rw [List.drop_zero] at this
      exact this
    have s2 : sub w ((w.length - e.natAbs : Nat) : Int) (w.length : Int) = some (w.drop (w.length - e.natAbs)) := by
      have := sub_nat w (w.length - e.natAbs) w.length (by omega) (Nat.le_refl _)
      rw [List.take_length] at this
      exact this
    rw [s1, some_bind', bif_pos (by rw [strMax_eq]; simp; omega), s2, some_bind', bif_pos (by rw [strMax_eq]; simp; omega)]
    cases neg
    · rfl
    · rw [cond_true, bif_pos (by rw [strMax_eq]; simp; omega)]
      rfl
end Go.AM
set_option linter.unusedVariables false
set_option linter.unusedSimpArgs false
namespace Go.AM
theorem small_loop (n : Nat) (X : Type) (k0 : List UInt8 → Int → List DecL → Int → List TagL → Int → Option X) (kr : Bool → List UInt8 → Int → List DecL → Int → List TagL → Int → Option X) (vs : List TagL) (hs : vs.length ≤ 140737488351232) (b0 : List UInt8) (b1 : Int) (b2 : List DecL) (b3 : Int) (b5 : Int) : ∀ (j k m : Nat), k + j = 51 → j < m →
    F.law10_Small.L2 n k0 kr m (k : Int) b0 b1 b2 b3 vs b5 = bif ((vs.drop k).take j).all (fun t => decide (t.1.length ≤ 200) && decide (t.2.length ≤ 200)) then k0 b0 b1 b2 b3 vs b5 else kr false b0 b1 b2 b3 vs b5 := by
  intro j
  induction j with
  | zero =>
    intro k m hk hm
    obtain ⟨m, rfl⟩ : ∃ q, m = q + 1 := ⟨m - 1, by omega⟩
    show F.law10_Small.L2.step n (F.law10_Small.L2 n k0 kr m) k0 kr _ _ _ _ _ _ _ = _
    unfold F.law10_Small.L2.step
    rw [bif_neg (by omega : ¬ (k : Int) < 51)]
    by_cases h : (k : Int) < (vs.length : Int)
    · rw [bif_pos h]; rfl
    · rw [bif_neg h]; rfl
  | succ j ih =>
    intro k m hk hm
    obtain ⟨m, rfl⟩ : ∃ q, m = q + 1 := ⟨m - 1, by omega⟩
    show F.law10_Small.L2.step n (F.law10_Small.L2 n k0 kr m) k0 kr _ _ _ _ _ _ _ = _
    unfold F.law10_Small.L2.step
    rw [bif_pos (by omega : (k : Int) < 51)]
    by_cases h : k < vs.length
    · rw [bif_pos (by omega), idx_lt h]
      have hd : vs.drop k = vs[k] :: vs.drop (k + 1) := List.drop_eq_getElem_cons h
      simp only [some_bind', hd, List.take_succ_cons, List.all_cons]
      rw [wrap_succ (by omega), ih (k + 1) m (by omega) (by omega)]
      by_cases h1 : vs[k].1.length ≤ 200
      · rw [bif_neg (by omega), decide_eq_true h1]
        by_cases h2 : vs[k].2.length ≤ 200
        · rw [bif_neg (by omega), decide_eq_true h2]; rfl
        · rw [bif_pos (by omega), decide_eq_false h2]; rfl
      · rw [bif_pos (by omega), decide_eq_false h1]; rfl
    · rw [bif_neg (by omega), List.drop_eq_nil_of_le (by omega)]; rfl
def smallB (m : MetD) : Bool := (m.2.2.2.2.1.take 51).all (fun t => decide (t.1.length ≤ 200) && decide (t.2.length ≤ 200)) && (decide (m.1.length ≤ 300) && (decide (m.2.2.1.length ≤ 80) && decide (m.2.2.2.2.1.length ≤ 50)))
theorem small_eq (n : Nat) (hn : 5000 ≤ n) (m : MetD) (hs : m.2.2.2.2.1.length ≤ 140737488351232) : F.law10_Small n m = some (smallB m) := by
  obtain ⟨nm, k, vs, r, ts, t, _⟩ := m
  simp only at hs
  unfold F.law10_Small smallB
  refine (small_loop n Bool _ _ ts hs nm k vs r t 51 0 n (by omega) (by omega)).trans ?_
  rw [List.drop_zero]
  simp only
  cases (ts.take 51).all (fun t => decide (t.1.length ≤ 200) && decide (t.2.length ≤ 200))
  · rfl
  · rw [cond_true]
    have e1 : decide ((nm.length : Int) ≤ 300) = decide (nm.length ≤ 300) := by apply decide_eq_decide.2; omega
    have e2 : decide ((vs.length : Int) ≤ 80) = decide (vs.length ≤ 80) := by apply decide_eq_decide.2; omega
    have e3 : decide ((ts.length : Int) ≤ 50) = decide (ts.length ≤ 50) := by apply decide_eq_decide.2; omega
    rw [e1, e2, e3]
    cases decide (nm.length ≤ 300) <;> cases decide (vs.length ≤ 80) <;> rfl
def MetWf (m : MetD) : Prop := (∀ d ∈ m.2.2.1, DecLOK d)
theorem small_ok {m : MetD} (hw : MetWf m) (h : smallB m = true) : MetOK m ∧ m.1.length ≤ 300 := by
  unfold smallB at h
  simp only [Bool.and_eq_true, decide_eq_true_eq] at h
  obtain ⟨h1, h2, h3, h4⟩ := h
  refine ⟨⟨by omega, ⟨by omega, hw⟩, by omega, fun t ht => ?_⟩, h2⟩
  rw [List.take_of_length_le (by omega)] at h1
  have := List.all_eq_true.1 h1 t ht
  simp only [Bool.and_eq_true, decide_eq_true_eq] at this
  exact ⟨by omega, by omega⟩
def valL : List DecL → List UInt8
  | [] => []
  | d :: _ => textD d.1 d.2.1.toNat d.2.2
theorem chk_zero {m : MetD} (h : chkM m = 0) : nameOK m.1 = true ∧ kindB m.2.1 = true ∧ valsB m.2.2.1 = true ∧ rateB m.2.1 m.2.2.2.1 = true ∧ tagsB m.2.2.2.2.1 = true ∧ timeB m.2.2.2.2.2.1 = true := by
  unfold chkM at h
  revert h
  cases nameOK m.1 <;> cases kindB m.2.1 <;> cases valsB m.2.2.1 <;> cases rateB m.2.1 m.2.2.2.1 <;> cases tagsB m.2.2.2.2.1 <;> cases timeB m.2.2.2.2.2.1 <;> simp
theorem textD_le {d : DecL} (hd : DecLOK d) (h : decC d = 0) : (textD d.1 d.2.1.toNat d.2.2).length ≤ 39 := by
  obtain ⟨neg, c, e, rfl, hc, he⟩ := decL_nat hd
  exact (text_len neg c hc e (check_zero h).2).1
theorem decText_eq (n : Nat) (hn : 5000 ≤ n) {d : DecL} (hd : DecLOK d) (h : decC d = 0) : F.dec_Text n (d.1, d.2.1, d.2.2, ()) = some (textD d.1 d.2.1.toNat d.2.2, 0, ()) := by
  obtain ⟨neg, c, e, rfl, hc, he⟩ := decL_nat hd
  have h' : checkR neg c e = 0 := h
  have := text_dec n hn neg c hc e he
  rw [if_pos h'] at this
  exact this
theorem decText_ref (n : Nat) (hn : 5000 ≤ n) {d : DecL} (hd : DecLOK d) (h : decC d = 0) : F.ref03_Text n (d.1, d.2.1, d.2.2, ()) = some (textD d.1 d.2.1.toNat d.2.2) := by
  obtain ⟨neg, c, e, rfl, hc, he⟩ := decL_nat hd
  exact text_ref n hn neg c hc e (check_zero h).2
end Go.AM
set_option linter.unusedVariables false
set_option linter.unusedSimpArgs false
namespace Go.AM
theorem head_idx {s : List UInt8} {k : Nat} (h : k < s.length) : idx s (k : Int) = some s[k] ∧ (s.drop k).head? = some s[k] := by
  refine ⟨idx_lt h, ?_⟩
  rw [List.head?_drop]; simp [h]
theorem beq_byte (x : UInt8) (c : UInt8) : (((x.toNat : Nat) : Int) == ((c.toNat : Nat) : Int)) = decide (x = c) := by
  by_cases h : x = c
  · subst h; simp
  · rw [decide_eq_false h, beq_eq_false_iff_ne]
    intro hh
    exact h (u8_ext (by omega))
theorem find_loop (n : Nat) (X : Type) (k0 : List UInt8 → Option X) (kr : Int → Option X) (c : UInt8) (s : List UInt8) (hs : s.length ≤ 1000000) : ∀ (r : List UInt8) (k m : Nat), s.drop k = r → r.length < m →
    F.ref10_Find.L2 n k0 kr m s (c.toNat : Int) (k : Int) = if c ∈ r then kr ((k + (seg c r).length : Nat) : Int) else k0 s := by
  intro r
  induction r with
  | nil =>
    intro k m hk hm
    have := drop_nil' hk
    obtain ⟨m, rfl⟩ : ∃ q, m = q + 1 := ⟨m - 1, by omega⟩
    show F.ref10_Find.L2.step n (F.ref10_Find.L2 n k0 kr m) k0 kr s _ (k : Int) = _
    unfold F.ref10_Find.L2.step
    rw [bif_neg (by omega), if_neg (by simp)]
  | cons x r ih =>
    intro k m hk hm
    obtain ⟨h1, h2, h3⟩ := drop_cons hk
    obtain ⟨m, rfl⟩ : ∃ q, m = q + 1 := ⟨m - 1, by omega⟩
    show F.ref10_Find.L2.step n (F.ref10_Find.L2 n k0 kr m) k0 kr s _ (k : Int) = _
    unfold F.ref10_Find.L2.step
    rw [bif_pos (by omega), idx_nat, h2, some_bind', beq_byte, seg_cons]
    by_cases hx : x = c
    · rw [decide_eq_true hx, cond_true, if_pos (by simp [hx]), if_pos hx]; rfl
    · rw [decide_eq_false hx, cond_false, if_neg hx, wrap_succ (by omega), ih (k + 1) m h3 (by simp at hm; omega)]
      have hx' : ¬ c = x := fun h => hx h.symm
      by_cases hm : c ∈ r
      · rw [if_pos hm, if_pos (by simp [hm]), List.length_cons]
        congr 1
        omega
      · rw [if_neg hm, if_neg (by simp [hm, hx'])]
theorem find_eq (n : Nat) (c : UInt8) (s : List UInt8) (hs : s.length ≤ 1000000) (hn : s.length < n) (p : Nat) (hp : p ≤ s.length) : F.ref10_Find n s (p : Int) (c.toNat : Int) = some (((p + (seg c (s.drop p)).length : Nat)) : Int) := by
  unfold F.ref10_Find
  refine (find_loop n Int _ _ c s hs (s.drop p) p n rfl (by simp; omega)).trans ?_
  by_cases h : c ∈ s.drop p
  · rw [if_pos h]
  · rw [if_neg h, seg_all h]
    congr 1
    simp; omega
theorem sub_seg {s : List UInt8} {c : UInt8} {p : Nat} (hp : p ≤ s.length) : sub s (p : Int) ((p + (seg c (s.drop p)).length : Nat) : Int) = some (seg c (s.drop p)) := by
  have hl := seg_le c (s.drop p)
  simp at hl
  rw [sub_nat s p _ (by omega) (by omega), List.drop_take, Nat.add_sub_cancel_left, seg_take]
theorem seg_end {s : List UInt8} {c : UInt8} {p : Nat} (hp : p ≤ s.length) : ((((p + (seg c (s.drop p)).length : Nat) : Int)) == (s.length : Int)) = !decide (c ∈ s.drop p) := by
  by_cases h : c ∈ s.drop p
  · have := seg_lt h
    simp at this
    rw [decide_eq_true h, Bool.not_true, beq_eq_false_iff_ne]
    omega
  · rw [decide_eq_false h, seg_all h]
    simp; omega
theorem refName_eq (n : Nat) (hn : 5000 ≤ n) (s : List UInt8) (hs : s.length ≤ 1000) : F.ref10_Name n s = some (nameOK s) := by
  unfold F.ref10_Name nameOK
  rw [text4_ref n (by omega) 1 s 1 200 rfl (by omega) (by omega) (by omega) (by omega), some_bind', textF_both]
end Go.AM
set_option linter.unusedVariables false
set_option linter.unusedSimpArgs false
namespace Go.AM
theorem seg_app {c : UInt8} {a : List UInt8} (h : c ∉ a) (t : List UInt8) : seg c (a ++ c :: t) = a := by
  induction a with
  | nil => show seg c (c :: t) = []; rw [seg_cons, if_pos rfl]
  | cons b a ih =>
    show seg c (b :: (a ++ c :: t)) = _
    rw [seg_cons, if_neg (fun hh => h (by simp [hh])), ih (fun hh => h (by simp [hh]))]
theorem seg_split {c : UInt8} {s : List UInt8} (h : c ∈ s) : s = seg c s ++ c :: s.drop ((seg c s).length + 1) := by
  induction s with
  | nil => simp at h
  | cons b s ih =>
    rw [seg_cons]
    by_cases hb : b = c
    · rw [if_pos hb, hb]; rfl
    · rw [if_neg hb]
      have hm : c ∈ s := by
        rcases List.mem_cons.1 h with h | h
        · exact absurd h.symm hb
        · exact h
      have := ih hm
      simp only [List.length_cons, List.drop_succ_cons, List.cons_append]
      rw [← this]
theorem seg_free (c : UInt8) (s : List UInt8) : c ∉ seg c s := by
  induction s with
  | nil => simp [seg]
  | cons b s ih =>
    rw [seg_cons]
    by_cases hb : b = c
    · rw [if_pos hb]; simp
    · rw [if_neg hb]
      intro hm
      rcases List.mem_cons.1 hm with h | h
      · exact hb h.symm
      · exact ih h
theorem nextP_app {c : UInt8} {s a t : List UInt8} {p : Nat} (hs : s.drop p = a ++ c :: t) (h : c ∉ a) : nextP c s p = p + a.length + 1 ∧ s.drop (p + a.length + 1) = t := by
  constructor
  · unfold nextP
    rw [hs, seg_app h, if_pos (by simp)]
  · rw [Nat.add_assoc, ← List.drop_drop, hs]
    simp
theorem nextP_end {c : UInt8} {s a : List UInt8} {p : Nat} (hs : s.drop p = a) (h : c ∉ a) : nextP c s p = p + a.length := by
  unfold nextP
  rw [hs, if_neg h, seg_all h]; omega
theorem name_free {s : List UInt8} (h : nameOK s = true) : (58 : UInt8) ∉ s := by
  rw [nameOK_eq] at h
  simp only [Bool.and_eq_true, List.all_eq_true] at h
  intro hm
  have := h.1 58 hm
  revert this
  decide
abbrev badM (c a : Int) : MetR := (([], 0, [], 0, [], 0, ()), (c, a, ()), ())
end Go.AM
set_option linter.unusedVariables false
set_option linter.unusedSimpArgs false
namespace Go.AM
theorem decL_beq (x y : DecL) : ((x.1 == y.1) && ((x.2.1 == y.2.1) && (x.2.2 == y.2.2))) = decide (x = y) := by
  obtain ⟨a, b, c⟩ := x
  obtain ⟨a', b', c'⟩ := y
  by_cases h : ((a, b, c) : DecL) = (a', b', c')
  · rw [decide_eq_true h]
    simp only [Prod.mk.injEq] at h
    simp [h.1, h.2.1, h.2.2]
  · rw [decide_eq_false h]
    cases h1 : (a == a') && ((b == b') && (c == c')) with
    | false => rfl
    | true =>
      simp only [Bool.and_eq_true, beq_iff_eq] at h1
      exact absurd (by rw [h1.1, h1.2.1, h1.2.2]) h
theorem tagL_beq (x y : TagL) : ((x.1 == y.1) && (x.2 == y.2)) = decide (x = y) := by
  obtain ⟨a, b⟩ := x
  obtain ⟨a', b'⟩ := y
  by_cases h : ((a, b) : TagL) = (a', b')
  · rw [decide_eq_true h]
    simp only [Prod.mk.injEq] at h
    simp [h.1, h.2]
  · rw [decide_eq_false h]
    cases h1 : (a == a') && (b == b') with
    | false => rfl
    | true =>
      simp only [Bool.and_eq_true, beq_iff_eq] at h1
      exact absurd (by rw [h1.1, h1.2]) h
theorem decs_loop (n : Nat) (X : Type) (k0 : Unit → Option X) (kr : Bool → Option X) (a b : List DecL) (ha : a.length ≤ 1000) (hl : a.length = b.length) : ∀ (r q : List DecL) (k m : Nat), a.drop k = r → b.drop k = q → r.length < m →
    F.slices_Equal_api_Dec_api_Dec.L4 n k0 kr m a b (a.length : Int) (k : Int) = if r = q then k0 () else kr false := by
  intro r
  induction r with
  | nil =>
    intro q k m hk hq hm
    have := drop_nil' hk
    obtain ⟨m, rfl⟩ : ∃ q, m = q + 1 := ⟨m - 1, by omega⟩
    have : q = [] := by rw [← hq]; exact List.drop_eq_nil_of_le (by omega)
    show F.slices_Equal_api_Dec_api_Dec.L4.step n (F.slices_Equal_api_Dec_api_Dec.L4 n k0 kr m) k0 kr a b _ _ = _
    unfold F.slices_Equal_api_Dec_api_Dec.L4.step
    rw [bif_neg (by omega), if_pos this.symm]
  | cons x r ih =>
    intro q k m hk hq hm
    obtain ⟨h1, h2, h3⟩ := drop_cons hk
    obtain ⟨m, rfl⟩ : ∃ q, m = q + 1 := ⟨m - 1, by omega⟩
    have hd : b.drop k = b[k] :: b.drop (k + 1) := List.drop_eq_getElem_cons (by omega)
    rw [hd] at hq
    subst hq
    show F.slices_Equal_api_Dec_api_Dec.L4.step n (F.slices_Equal_api_Dec_api_Dec.L4 n k0 kr m) k0 kr a b _ _ = _
    unfold F.slices_Equal_api_Dec_api_Dec.L4.step
    rw [bif_pos (by omega), idx_nat, h2, some_bind', idx_lt (by omega : k < b.length), some_bind', decL_beq]
    by_cases hx : x = b[k]
    · rw [decide_eq_true hx, Bool.not_true, cond_false, wrap_succ (by omega), ih (b.drop (k + 1)) (k + 1) m h3 rfl (by simp at hm; omega)]
      by_cases hr : r = b.drop (k + 1)
      · rw [if_pos hr, if_pos (by rw [hx, ← hr])]
      · rw [if_neg hr, if_neg (fun h => hr (List.cons.inj h).2)]
    · rw [decide_eq_false hx, if_neg (fun h => hx (List.cons.inj h).1)]; rfl
theorem tags_eq_loop (n : Nat) (X : Type) (k0 : Unit → Option X) (kr : Bool → Option X) (a b : List TagL) (ha : a.length ≤ 1000) (hl : a.length = b.length) : ∀ (r q : List TagL) (k m : Nat), a.drop k = r → b.drop k = q → r.length < m →
    F.slices_Equal_api_Tag_api_Tag.L4 n k0 kr m a b (a.length : Int) (k : Int) = if r = q then k0 () else kr false := by
  intro r
  induction r with
  | nil =>
    intro q k m hk hq hm
    have := drop_nil' hk
    obtain ⟨m, rfl⟩ : ∃ q, m = q + 1 := ⟨m - 1, by omega⟩
    have : q = [] := by rw [← hq]; exact List.drop_eq_nil_of_le (by omega)
    show F.slices_Equal_api_Tag_api_Tag.L4.step n (F.slices_Equal_api_Tag_api_Tag.L4 n k0 kr m) k0 kr a b _ _ = _
    unfold F.slices_Equal_api_Tag_api_Tag.L4.step
    rw [bif_neg (by omega), if_pos this.symm]
  | cons x r ih =>
    intro q k m hk hq hm
    obtain ⟨h1, h2, h3⟩ := drop_cons hk
    obtain ⟨m, rfl⟩ : ∃ q, m = q + 1 := ⟨m - 1, by omega⟩
    have hd : b.drop k = b[k] :: b.drop (k + 1) := List.drop_eq_getElem_cons (by omega)
    rw [hd] at hq
    subst hq
    show F.slices_Equal_api_Tag_api_Tag.L4.step n (F.slices_Equal_api_Tag_api_Tag.L4 n k0 kr m) k0 kr a b _ _ = _
    unfold F.slices_Equal_api_Tag_api_Tag.L4.step
    rw [bif_pos (by omega), idx_nat, h2, some_bind', idx_lt (by omega : k < b.length), some_bind', tagL_beq]
    by_cases hx : x = b[k]
    · rw [decide_eq_true hx, Bool.not_true, cond_false, wrap_succ (by omega), ih (b.drop (k + 1)) (k + 1) m h3 rfl (by simp at hm; omega)]
      by_cases hr : r = b.drop (k + 1)
      · rw [if_pos hr, if_pos (by rw [hx, ← hr])]
      · rw [if_neg hr, if_neg (fun h => hr (List.cons.inj h).2)]
    · rw [decide_eq_false hx, if_neg (fun h => hx (List.cons.inj h).1)]; rfl
theorem decs_eq (n : Nat) (hn : 5000 ≤ n) (a b : List DecL) (ha : a.length ≤ 1000) : F.metric_equal_api_Dec n a b = some (decide (a = b)) := by
  unfold F.metric_equal_api_Dec F.slices_Equal_api_Dec_api_Dec
  by_cases hl : a.length = b.length
  · have e : ((a.length : Int) == (b.length : Int)) = true := by simp [hl]
    rw [e, Bool.not_true, cond_false]
    have L := decs_loop n Bool (fun (_ : Unit) => some (true)) (fun e4_4 => some (e4_4)) a b ha hl a b 0 n rfl rfl (by omega)
    rw [show ((0 : Nat) : Int) = (0 : Int) from rfl] at L
    rw [L]
    by_cases h : a = b
    · rw [if_pos h, decide_eq_true h]; rfl
    · rw [if_neg h, decide_eq_false h]; rfl
  · have e : ((a.length : Int) == (b.length : Int)) = false := by rw [beq_eq_false_iff_ne]; omega
    rw [e, decide_eq_false (fun h => hl (by rw [h]))]; rfl
theorem tags_eq (n : Nat) (hn : 5000 ≤ n) (a b : List TagL) (ha : a.length ≤ 1000) : F.metric_equal_api_Tag n a b = some (decide (a = b)) := by
  unfold F.metric_equal_api_Tag F.slices_Equal_api_Tag_api_Tag
  by_cases hl : a.length = b.length
  · have e : ((a.length : Int) == (b.length : Int)) = true := by simp [hl]
    rw [e, Bool.not_true, cond_false]
    have L := tags_eq_loop n Bool (fun (_ : Unit) => some (true)) (fun e4_4 => some (e4_4)) a b ha hl a b 0 n rfl rfl (by omega)
    rw [show ((0 : Nat) : Int) = (0 : Int) from rfl] at L
    rw [L]
    by_cases h : a = b
    · rw [if_pos h, decide_eq_true h]; rfl
    · rw [if_neg h, decide_eq_false h]; rfl
  · have e : ((a.length : Int) == (b.length : Int)) = false := by rw [beq_eq_false_iff_ne]; omega
    rw [e, decide_eq_false (fun h => hl (by rw [h]))]; rfl
noncomputable def eqM (a b : MetD) : Bool := @decide (a = b) (Classical.propDecidable _)
theorem eqM_pos {a b : MetD} (h : a = b) : eqM a b = true := @decide_eq_true _ (Classical.propDecidable _) h
theorem eqM_neg {a b : MetD} (h : ¬ a = b) : eqM a b = false := @decide_eq_false _ (Classical.propDecidable _) h
theorem equal_eq (n : Nat) (hn : 5000 ≤ n) (a b : MetD) (h1 : a.2.2.1.length ≤ 1000) (h2 : a.2.2.2.2.1.length ≤ 1000) : F.metric_Equal n a b = some (eqM a b) := by
  obtain ⟨a1, a2, a3, a4, a5, a6, _⟩ := a
  obtain ⟨b1, b2, b3, b4, b5, b6, _⟩ := b
  simp only at h1 h2
  unfold F.metric_Equal
  simp only [decs_eq n hn a3 b3 h1, tags_eq n hn a5 b5 h2, some_bind']
  by_cases h : ((a1, a2, a3, a4, a5, a6, ()) : MetD) = (b1, b2, b3, b4, b5, b6, ())
  · rw [eqM_pos h]
    simp only [Prod.mk.injEq] at h
    obtain ⟨rfl, rfl, rfl, rfl, rfl, rfl, _⟩ := h
    simp
  · rw [eqM_neg h]
    by_cases g1 : a1 = b1
    · by_cases g2 : a2 = b2
      · by_cases g4 : a4 = b4
        · by_cases g6 : a6 = b6
          · by_cases g3 : a3 = b3
            · by_cases g5 : a5 = b5
              · exact absurd (by rw [g1, g2, g3, g4, g5, g6]) h
              · simp [g1, g2, g4, g6, g3, g5]
            · simp [g1, g2, g4, g6, g3]
          · rw [beq_eq_false_iff_ne.2 g6]; simp [g1, g2, g4]
        · rw [beq_eq_false_iff_ne.2 g4]; simp [g1, g2]
      · rw [beq_eq_false_iff_ne.2 g2]; simp [g1]
    · rw [beq_eq_false_iff_ne.2 g1]; rfl
theorem refeq_decs (n : Nat) (X : Type) (k0 : List UInt8 → Int → List DecL → Int → List TagL → Int → List UInt8 → Int → List DecL → Int → List TagL → Int → Option X) (kr : Bool → List UInt8 → Int → List DecL → Int → List TagL → Int → List UInt8 → Int → List DecL → Int → List TagL → Int → Option X) (nm : List UInt8) (k : Int) (vs : List DecL) (r : Int) (ts : List TagL) (t : Int) (hs : vs.length ≤ 1000) : ∀ (j i m : Nat), i + j = vs.length → j < m →
    F.ref07_Equal.L4 n k0 kr m (i : Int) nm k vs r ts t nm k vs r ts t = k0 nm k vs r ts t nm k vs r ts t := by
  intro j
  induction j with
  | zero =>
    intro i m hi hm
    obtain ⟨m, rfl⟩ : ∃ q, m = q + 1 := ⟨m - 1, by omega⟩
    show F.ref07_Equal.L4.step n (F.ref07_Equal.L4 n k0 kr m) k0 kr _ _ _ _ _ _ _ _ _ _ _ _ _ = _
    unfold F.ref07_Equal.L4.step
    rw [bif_neg (by omega)]
  | succ j ih =>
    intro i m hi hm
    obtain ⟨m, rfl⟩ : ∃ q, m = q + 1 := ⟨m - 1, by omega⟩
    show F.ref07_Equal.L4.step n (F.ref07_Equal.L4 n k0 kr m) k0 kr _ _ _ _ _ _ _ _ _ _ _ _ _ = _
    unfold F.ref07_Equal.L4.step
    rw [bif_pos (by omega), idx_lt (by omega : i < vs.length), some_bind', some_bind', decL_beq, decide_eq_true rfl, Bool.not_true, cond_false, wrap_succ (by omega), ih (i + 1) m (by omega) (by omega)]
theorem refeq_tags (n : Nat) (X : Type) (k0 : List UInt8 → Int → List DecL → Int → List TagL → Int → List UInt8 → Int → List DecL → Int → List TagL → Int → Option X) (kr : Bool → List UInt8 → Int → List DecL → Int → List TagL → Int → List UInt8 → Int → List DecL → Int → List TagL → Int → Option X) (nm : List UInt8) (k : Int) (vs : List DecL) (r : Int) (ts : List TagL) (t : Int) (hs : ts.length ≤ 1000) : ∀ (j i m : Nat), i + j = ts.length → j < m →
    F.ref07_Equal.L9 n k0 kr m (i : Int) nm k vs r ts t nm k vs r ts t = k0 nm k vs r ts t nm k vs r ts t := by
  intro j
  induction j with
  | zero =>
    intro i m hi hm
    obtain ⟨m, rfl⟩ : ∃ q, m = q + 1 := ⟨m - 1, by omega⟩
    show F.ref07_Equal.L9.step n (F.ref07_Equal.L9 n k0 kr m) k0 kr _ _ _ _ _ _ _ _ _ _ _ _ _ = _
    unfold F.ref07_Equal.L9.step
    rw [bif_neg (by omega)]
  | succ j ih =>
    intro i m hi hm
    obtain ⟨m, rfl⟩ : ∃ q, m = q + 1 := ⟨m - 1, by omega⟩
    show F.ref07_Equal.L9.step n (F.ref07_Equal.L9 n k0 kr m) k0 kr _ _ _ _ _ _ _ _ _ _ _ _ _ = _
    unfold F.ref07_Equal.L9.step
    rw [bif_pos (by omega), idx_lt (by omega : i < ts.length), some_bind', some_bind', tagL_beq, decide_eq_true rfl, Bool.not_true, cond_false, wrap_succ (by omega), ih (i + 1) m (by omega) (by omega)]
theorem refequal_refl (n : Nat) (hn : 5000 ≤ n) (a : MetD) (h1 : a.2.2.1.length ≤ 1000) (h2 : a.2.2.2.2.1.length ≤ 1000) : F.ref07_Equal n a a = some true := by
  obtain ⟨nm, k, vs, r, ts, t, _⟩ := a
  simp only at h1 h2
  unfold F.ref07_Equal
  simp only [beq_self_eq_true, Bool.not_true, cond_false]
  refine (refeq_decs n Bool _ _ nm k vs r ts t h1 vs.length 0 n (by omega) (by omega)).trans ?_
  exact refeq_tags n Bool _ _ nm k vs r ts t h2 ts.length 0 n (by omega) (by omega)
end Go.AM
set_option linter.unusedVariables false
set_option linter.unusedSimpArgs false
namespace Go.AM
def bodyD (c : Nat) (e : Int) : List UInt8 :=
  if 0 ≤ e then Lib.decDigits c ++ List.replicate e.toNat 48 else (wideW c e).take ((wideW c e).length - e.natAbs) ++ [46] ++ (wideW c e).drop ((wideW c e).length - e.natAbs)
theorem textD_body (neg : Bool) (c : Nat) (e : Int) : textD neg c e = sgn neg ++ bodyD c e := by
  unfold textD bodyD
  split <;> rfl
theorem body_len (c : Nat) (hc : c < two64) (e : Int) (he : -18 ≤ e ∧ e ≤ 18) : (bodyD c e).length ≤ 60 ∧ 1 ≤ (bodyD c e).length := by
  have hl := dd_len64 hc
  have hp := List.length_pos_iff.2 (dd_ne c)
  unfold bodyD
  by_cases h : 0 ≤ e
  · rw [if_pos h]; simp; omega
  · obtain ⟨w1, w2, w3⟩ := wideW_len c hc e (by omega)
    rw [if_neg h]; simp; omega
theorem zeros_form (neg : Bool) (c : Nat) (hc : c < two64) (e : Int) (h : checkR neg c e = 0) (k w : Nat) : parseR ((if 0 ≤ e ∧ 0 < w then sgn neg ++ List.replicate k 48 ++ bodyD c e ++ [46] else sgn neg ++ List.replicate k 48 ++ bodyD c e) ++ List.replicate w 48) = ((neg, (c : Int), e, ()), (0, 0, ()), ()) := by
  obtain ⟨h1, h2, h3⟩ := check_zero h
  have fin : outR (valR neg (Lib.decDigits c) e) = ((neg, (c : Int), e, ()), (0, 0, ()), ()) := by rw [h1]; rfl
  have hr : ∀ j, List.replicate (j + 1) (48 : UInt8) ≠ [] := fun j => by simp [List.replicate_succ]
  by_cases hE : 0 ≤ e
  · have hb : bodyD c e = Lib.decDigits c ++ List.replicate e.toNat 48 := by unfold bodyD; rw [if_pos hE]
    have hD : Digs (List.replicate k 48 ++ (Lib.decDigits c ++ List.replicate e.toNat 48)) := digs_append.2 ⟨digs_rep _, digs_append.2 ⟨dd_digs c, digs_rep _⟩⟩
    have hne : List.replicate k 48 ++ (Lib.decDigits c ++ List.replicate e.toNat 48) ≠ [] := by simp [dd_ne]
    have hv : valR neg (List.replicate k 48 ++ (Lib.decDigits c ++ List.replicate e.toNat 48)) 0 = valR neg (Lib.decDigits c) e := by
      rw [valR_zeros_left neg (digs_append.2 ⟨dd_digs c, digs_rep _⟩), valR_zeros_right neg (dd_digs c)]
      congr 1
      omega
    by_cases hw : 0 < w
    · rw [if_pos ⟨hE, hw⟩, hb]
      have : sgn neg ++ List.replicate k 48 ++ (Lib.decDigits c ++ List.replicate e.toNat 48) ++ [46] ++ List.replicate w 48 = sgn neg ++ ((List.replicate k 48 ++ (Lib.decDigits c ++ List.replicate e.toNat 48)) ++ 46 :: List.replicate w 48) := by simp
      have hwn : List.replicate w (48 : UInt8) ≠ [] := by
        obtain ⟨j, rfl⟩ : ∃ j, w = j + 1 := ⟨w - 1, by omega⟩
        exact hr j
      rw [this, parse_point neg hD hne (digs_rep w) hwn, valR_zeros_right neg hD, List.length_replicate, show (-(w : Int) + (w : Int)) = 0 from by omega, hv, fin]
    · rw [if_neg (fun hh => hw hh.2), hb, show w = 0 from by omega, List.replicate_zero, List.append_nil, List.append_assoc, parse_whole neg hD hne, hv, fin]
  · obtain ⟨w1, w2, w3⟩ := wideW_len c hc e (by omega)
    have hb : bodyD c e = (wideW c e).take ((wideW c e).length - e.natAbs) ++ [46] ++ (wideW c e).drop ((wideW c e).length - e.natAbs) := by unfold bodyD; rw [if_neg hE]
    rw [if_neg (fun hh => hE hh.1), hb]
    have hT : (wideW c e).take ((wideW c e).length - e.natAbs) ≠ [] := by
      intro hh
      have := congrArg List.length hh
      simp at this
      omega
    have hDn : (wideW c e).drop ((wideW c e).length - e.natAbs) ≠ [] := by
      intro hh
      have := congrArg List.length hh
      simp at this
      omega
    have hlen : ((wideW c e).drop ((wideW c e).length - e.natAbs)).length = e.natAbs := by simp; omega
    have hval : valR neg (wideW c e) (-(e.natAbs : Int)) = valR neg (Lib.decDigits c) (-(e.natAbs : Int)) := valR_zeros_left neg (dd_digs c) _ _
    have hjoin := List.take_append_drop ((wideW c e).length - e.natAbs) (wideW c e)
    have d1 := digs_take ((wideW c e).length - e.natAbs) w3
    have d2 := digs_drop ((wideW c e).length - e.natAbs) w3
    generalize (wideW c e).take ((wideW c e).length - e.natAbs) = p at *
    generalize (wideW c e).drop ((wideW c e).length - e.natAbs) = q at *
    have : sgn neg ++ List.replicate k 48 ++ (p ++ [46] ++ q) ++ List.replicate w 48 = sgn neg ++ ((List.replicate k 48 ++ p) ++ 46 :: (q ++ List.replicate w 48)) := by simp
    rw [this, parse_point neg (digs_append.2 ⟨digs_rep _, d1⟩) (by simp [hT]) (digs_append.2 ⟨d2, digs_rep _⟩) (by simp [hDn])]
    rw [← List.append_assoc, valR_zeros_right neg (digs_append.2 ⟨digs_append.2 ⟨digs_rep _, d1⟩, d2⟩), List.append_assoc, hjoin, valR_zeros_left neg w3, List.length_append, List.length_replicate, hlen,
      show (-((e.natAbs + w : Nat) : Int) + (w : Int)) = -(e.natAbs : Int) from by omega, hval, show (-(e.natAbs : Int)) = e from by omega, fin]
theorem parse_cases (s : List UInt8) : ((parseR s).2.1.1 ≠ 0 ∧ (parseR s).1 = (false, 0, 0, ()) ∧ 0 ≤ (parseR s).2.1.2.1 ∧ (parseR s).2.1.2.1 ≤ s.length) ∨
    (∃ (neg : Bool) (c : Nat) (e : Int), parseR s = ((neg, (c : Int), e, ()), (0, 0, ()), ()) ∧ c < two64 ∧ (-9223372036854775808 ≤ e ∧ e ≤ 9223372036854775807) ∧ checkR neg c e = 0) := by
  unfold parseR
  by_cases h : (lookR s).1 = 0
  · rw [if_pos h]
    have hD : Digs (aheadD s ++ behindD s) := digs_append.2 ⟨tw_digs _, behind_digs s⟩
    generalize aheadD s ++ behindD s = d at hD
    generalize (-((behindD s).length : Int)) = E
    generalize negD s = neg
    by_cases hv : val d = 0
    · refine Or.inr ⟨false, 0, 0, ?_, by decide, by omega, ?_⟩
      · have : valR neg d E = zeroD := by unfold valR; rw [if_pos hv]
        rw [this]; rfl
      · have d0 : Lib.decDigits 0 = [48] := dd_small (by omega)
        unfold checkR
        rw [d0]; rfl
    · obtain ⟨c0, z, h1, h2⟩ := ten_split (val d) (by omega)
      rw [valR_core hD h2 h1]
      generalize E + (z : Int) = Y
      by_cases hY : Y < -18
      · refine Or.inl ?_
        have : normR neg c0 Y = ((false, 0, 0, ()), 10, ()) := by unfold normR; rw [if_pos hY]
        rw [this]
        exact ⟨by decide, rfl, by decide, by show (0 : Int) ≤ s.length; omega⟩
      · by_cases hf : c0 * 10 ^ (Y - 18).toNat < two64
        · have e1 : normR neg c0 Y = ((neg, ((c0 * 10 ^ (Y - 18).toNat : Nat) : Int), (if Y ≤ 18 then Y else 18), ()), 0, ()) := by unfold normR; rw [if_neg hY, if_pos hf]
          rw [e1]
          have hE : -18 ≤ (if Y ≤ 18 then Y else 18) ∧ (if Y ≤ 18 then Y else 18) ≤ 18 := by split <;> omega
          refine Or.inr ⟨neg, c0 * 10 ^ (Y - 18).toNat, (if Y ≤ 18 then Y else 18), rfl, hf, by omega, ?_⟩
          unfold checkR
          rw [if_neg (by omega), valR_core (dd_digs _) h2 (dd_val _)]
          have e2 : (if Y ≤ 18 then Y else 18) + (((Y - 18).toNat : Nat) : Int) = Y := by split <;> omega
          rw [e2, e1, if_pos ⟨rfl, rfl⟩]
        · refine Or.inl ?_
          have : normR neg c0 Y = ((false, 0, 0, ()), 10, ()) := by unfold normR; rw [if_neg hY, if_neg hf]
          rw [this]
          exact ⟨by decide, rfl, by decide, by show (0 : Int) ≤ s.length; omega⟩
  · rw [if_neg h]
    refine Or.inl ⟨h, rfl, ?_⟩
    show 0 ≤ (lookR s).2.1 ∧ (lookR s).2.1 ≤ s.length
    have endle : ∀ (r : Prop) [Decidable r] (a l : Nat), a ≤ l → 0 ≤ (endR r a l).2.1 ∧ (endR r a l).2.1 ≤ (l : Int) := by
      intro r _ a l hl
      unfold endR
      split
      · show (0 : Int) ≤ 0 ∧ (0 : Int) ≤ l; omega
      · split
        · show (0 : Int) ≤ a ∧ (a : Int) ≤ l; omega
        · show (0 : Int) ≤ a ∧ (a : Int) ≤ l; omega
    unfold lookR lookQ
    split
    · rename_i hp
      exact endle _ _ _ (p3_le hp.2)
    · exact endle _ _ _ (p1_le (p0_le s))
theorem dd_ge {c : Nat} (h : 0 < c) : 10 ^ ((Lib.decDigits c).length - 1) ≤ c := by
  have := val_ge (dd_digs c) (dd_ne c) (fun x hx h48 => by
    subst h48
    have h1 := (dd_head c).2 hx
    cases e : Lib.decDigits c with
    | nil => exact dd_ne c e
    | cons b r =>
      rw [e] at hx h1
      have hr : r = [] := by simpa using h1
      have hb : b = 48 := by simpa using hx
      have hv := dd_val c
      rw [e, hr, hb] at hv
      rw [← hv] at h
      exact absurd h (by decide))
  rwa [dd_val] at this
theorem dd_lt (c : Nat) : c < 10 ^ (Lib.decDigits c).length := by have := val_lt (dd_digs c); rwa [dd_val] at this
end Go.AM
set_option linter.unusedVariables false
set_option linter.unusedSimpArgs false
namespace Go.AM
theorem parse_ok {s : List UInt8} (h : (parseR s).2.1.1 = 0) : ∃ (neg : Bool) (c : Nat) (e : Int), parseR s = ((neg, (c : Int), e, ()), (0, 0, ()), ()) ∧ c < two64 ∧ (-9223372036854775808 ≤ e ∧ e ≤ 9223372036854775807) ∧ checkR neg c e = 0 := by
  rcases parse_cases s with ⟨h1, _⟩ | h1
  · exact absurd h h1
  · exact h1
theorem text_short {s : List UInt8} {neg : Bool} {c : Nat} {e : Int} (h : parseR s = ((neg, (c : Int), e, ()), (0, 0, ()), ())) : (textD neg c e).length ≤ s.length ∧ (neg = true → s.head? = some 45) := by
  have h0 : (lookR s).1 = 0 := by
    apply Classical.byContradiction
    intro hh
    have : parseR s = badR (lookR s) := by unfold parseR; rw [if_neg hh]
    rw [this] at h
    exact hh (congrArg (fun r : ParseR => r.2.1.1) h)
  obtain ⟨_, hA, hsp⟩ := look_ok h0
  have hp : parseR s = outR (valR (negD s) (aheadD s ++ behindD s) (-((behindD s).length : Int))) := by unfold parseR; rw [if_pos h0]
  rw [hp] at h
  have hD : Digs (aheadD s ++ behindD s) := digs_append.2 ⟨tw_digs _, behind_digs s⟩
  have hs : s.length = p0 s + (s.drop (p0 s)).length := by have := p0_le s; simp; omega
  have hpn : p0 s = (sgn (negD s)).length := by
    unfold p0 negD sgn
    by_cases hh : s.head? = some 45
    · rw [if_pos hh, decide_eq_true hh]; rfl
    · rw [if_neg hh, decide_eq_false hh]; rfl
  have hng : negD s = true → s.head? = some 45 := fun hh => by unfold negD at hh; simpa using hh
  generalize aheadD s = A at *
  generalize hBB : behindD s = B at *
  have hAl : 0 < A.length := List.length_pos_iff.2 hA
  by_cases hv : val (A ++ B) = 0
  · have hz : valR (negD s) (A ++ B) (-(B.length : Int)) = zeroD := by unfold valR; rw [if_pos hv]
    rw [hz] at h
    have h1 : neg = false := (congrArg (fun r : ParseR => r.1.1) h).symm
    have h2 : (c : Int) = 0 := (congrArg (fun r : ParseR => r.1.2.1) h).symm
    have h3 : e = 0 := (congrArg (fun r : ParseR => r.1.2.2.1) h).symm
    have h2' : c = 0 := by omega
    subst h1 h2' h3
    refine ⟨?_, fun hh => by cases hh⟩
    have d0 : Lib.decDigits 0 = [48] := dd_small (by omega)
    have : (textD false 0 0).length = 1 := by unfold textD; rw [d0]; rfl
    rw [this]
    rcases hsp with ⟨h1, _⟩ | ⟨h1, _⟩
    · rw [h1] at hs; omega
    · rw [h1] at hs; simp only [List.length_append, List.length_cons] at hs; omega
  · obtain ⟨c0, z, h1, h2⟩ := ten_split (val (A ++ B)) (by omega)
    rw [valR_core hD h2 h1] at h
    have key : ∃ k : Nat, (k : Int) = e + B.length ∧ c * 10 ^ k = val (A ++ B) ∧ neg = negD s := by
      unfold normR at h
      split at h
      · unfold outR at h
        rw [if_neg (by decide)] at h
        have hx : (10 : Int) = 0 := congrArg (fun r : ParseR => r.2.1.1) h
        omega
      · rename_i g1
        split at h
        · unfold outR at h
          rw [if_pos rfl] at h
          have q1 : negD s = neg := congrArg (fun r : ParseR => r.1.1) h
          have q2 : ((c0 * 10 ^ (-(B.length : Int) + (z : Int) - 18).toNat : Nat) : Int) = (c : Int) := congrArg (fun r : ParseR => r.1.2.1) h
          have q3 : (if -(B.length : Int) + (z : Int) ≤ 18 then -(B.length : Int) + (z : Int) else 18) = e := congrArg (fun r : ParseR => r.1.2.2.1) h
          have q2' : c = c0 * 10 ^ (-(B.length : Int) + (z : Int) - 18).toNat := by omega
          by_cases g2 : -(B.length : Int) + (z : Int) ≤ 18
          · rw [if_pos g2] at q3
            refine ⟨z, by omega, ?_, q1.symm⟩
            rw [h1, q2', show (-(B.length : Int) + (z : Int) - 18).toNat = 0 from by omega]
            simp
          · rw [if_neg g2] at q3
            refine ⟨18 + B.length, by omega, ?_, q1.symm⟩
            rw [h1, q2', Nat.mul_assoc, ← Nat.pow_add]
            congr 2
            omega
        · unfold outR at h
          rw [if_neg (by decide)] at h
          have hx : (10 : Int) = 0 := congrArg (fun r : ParseR => r.2.1.1) h
          omega
    obtain ⟨k, k1, k2, k3⟩ := key
    have hc0 : 0 < c := by
      rcases Nat.eq_zero_or_pos c with h | h
      · rw [h] at k2; omega
      · exact h
    have hlt := val_lt hD
    have hge := dd_ge hc0
    have hL : 0 < (Lib.decDigits c).length := List.length_pos_iff.2 (dd_ne c)
    have hlen : (Lib.decDigits c).length - 1 + k < (A ++ B).length := by
      have h4 : 10 ^ ((Lib.decDigits c).length - 1 + k) ≤ val (A ++ B) := by
        rw [Nat.pow_add, ← k2]
        exact Nat.mul_le_mul_right _ hge
      exact (Nat.pow_lt_pow_iff_right (by omega : 1 < 10)).1 (Nat.lt_of_le_of_lt h4 hlt)
    rw [List.length_append] at hlen
    subst k3
    refine ⟨?_, hng⟩
    unfold textD
    by_cases hE : 0 ≤ e
    · rw [if_pos hE]
      have : (sgn (negD s) ++ (Lib.decDigits c ++ List.replicate e.toNat 48)).length = p0 s + ((Lib.decDigits c).length + e.toNat) := by rw [hpn]; simp
      rw [this]
      rcases hsp with ⟨h1, h6⟩ | ⟨h1, h6⟩
      · rw [h1] at hs; omega
      · rw [h1] at hs; simp only [List.length_append, List.length_cons] at hs; omega
    · rw [if_neg hE]
      have hBn : 0 < B.length := by omega
      have hw : (wideW c e).length = (1 - e - (Lib.decDigits c).length).toNat + (Lib.decDigits c).length := by unfold wideW; simp
      have : (sgn (negD s) ++ ((wideW c e).take ((wideW c e).length - e.natAbs) ++ [46] ++ (wideW c e).drop ((wideW c e).length - e.natAbs))).length = p0 s + ((wideW c e).length + 1) := by
        rw [hpn]
        simp
        omega
      rw [this]
      rcases hsp with ⟨h1, h6⟩ | ⟨h1, h6⟩
      · rw [h6] at hBn; simp at hBn
      · rw [h1] at hs
        simp at hs
        omega
theorem textD_bytes (neg : Bool) (c : Nat) (e : Int) : ∀ b ∈ textD neg c e, (b = 45 ∧ neg = true) ∨ isDig b = true ∨ b = 46 := by
  intro b hb
  have hsg : ∀ b ∈ sgn neg, b = 45 ∧ neg = true := by
    intro b hb
    cases neg
    · simp [sgn] at hb
    · simp [sgn] at hb; exact ⟨hb, rfl⟩
  have hdg : ∀ (l : List UInt8), Digs l → ∀ b ∈ l, isDig b = true := fun l hl b hb => List.all_eq_true.1 hl b hb
  unfold textD at hb
  split at hb
  · rcases List.mem_append.1 hb with h | h
    · exact Or.inl (hsg b h)
    · exact Or.inr (Or.inl (hdg _ (digs_append.2 ⟨dd_digs c, digs_rep _⟩) b h))
  · rcases List.mem_append.1 hb with h | h
    · exact Or.inl (hsg b h)
    · have w3 : Digs (wideW c e) := digs_append.2 ⟨digs_rep _, dd_digs c⟩
      rcases List.mem_append.1 h with h | h
      · rcases List.mem_append.1 h with h | h
        · exact Or.inr (Or.inl (hdg _ (digs_take _ w3) b h))
        · exact Or.inr (Or.inr (by simpa using h))
      · exact Or.inr (Or.inl (hdg _ (digs_drop _ w3) b h))
theorem textD_free (neg : Bool) (c : Nat) (e : Int) : (124 : UInt8) ∉ textD neg c e := by
  intro h
  rcases textD_bytes neg c e _ h with h | h | h
  · exact absurd h.1 (by decide)
  · exact absurd h (by decide)
  · exact absurd h (by decide)
theorem textD_head (c : Nat) (e : Int) : ¬ (textD false c e).head? = some 45 := by
  intro h
  have hm : (45 : UInt8) ∈ textD false c e := List.mem_of_mem_head? (by rw [h]; rfl)
  rcases textD_bytes false c e _ hm with h | h | h
  · cases h.2
  · exact absurd h (by decide)
  · exact absurd h (by decide)
theorem digs_free {l : List UInt8} (h : Digs l) : (124 : UInt8) ∉ l := fun hm => absurd (List.all_eq_true.1 h _ hm) (by decide)
theorem tagIs_nil (n : Nat) (hn : 1 ≤ n) : F.tag_Is n [] = some true := by
  obtain ⟨q, rfl⟩ : ∃ q, n = q + 1 := ⟨n - 1, by omega⟩
  rfl
end Go.AM
set_option linter.unusedVariables false
set_option linter.unusedSimpArgs false
namespace Go.AM
abbrev timeR (s : List UInt8) : NumR := parseNum s 1 1099511627776
abbrev OkG (name : List UInt8) (d : DecL) (t : Int) : MetR := ((name, 2, [d], 1000000, [], t, ()), (0, 0, ()), ())
def timeS (name : List UInt8) (d : DecL) (u : List UInt8) (p : Nat) : MetR :=
  if ¬ (timeR (seg 32 u)).2.1.1 = 0 then badM 20 (p : Int) else if 32 ∈ u then badM 11 ((p + (seg 32 u).length : Nat) : Int) else OkG name d (timeR (seg 32 u)).1
def valueG (name : List UInt8) (u : List UInt8) (p : Nat) : MetR :=
  if ¬ (parseR (seg 32 u)).2.1.1 = 0 then badM 17 (p : Int) else if ¬ 32 ∈ u then badM 11 ((p + (seg 32 u).length : Nat) : Int)
  else timeS name ((parseR (seg 32 u)).1.1, (parseR (seg 32 u)).1.2.1, (parseR (seg 32 u)).1.2.2.1) (u.drop ((seg 32 u).length + 1)) (p + (seg 32 u).length + 1)
def grParse (s : List UInt8) : MetR :=
  if nameOK (seg 32 s) = false then badM 15 0 else if ¬ 32 ∈ s then badM 11 ((seg 32 s).length : Int) else valueG (seg 32 s) (s.drop ((seg 32 s).length + 1)) ((seg 32 s).length + 1)
theorem parseNum_at {s : List UInt8} {lo hi : Int} (h : (parseNum s lo hi).2.1.1 = 0) : (parseNum s lo hi).2.1.2.1 = 0 := (parse_back h).1
theorem faultN_both {c a : Int} (h : c = 0 → a = 0) : (!((c == 0) && (a == 0))) = !(c == 0) := by
  by_cases hc : c = 0
  · rw [hc, h hc]; rfl
  · rw [beq_eq_false_iff_ne.2 hc]; rfl
section
variable {X : Type} (n : Nat) (rec : Int → Int → Bool → List UInt8 → Int → List DecL → Int → List TagL → Int → Int → Int → List UInt8 → Int → List DecL → Int → List TagL → Int → Int → Int → List UInt8 → Nat → Nat → Nat → Nat → Option X)
  (k0 kr : List UInt8 → Int → List DecL → Int → List TagL → Int → Int → Int → List UInt8 → Int → List DecL → Int → List TagL → Int → Int → Int → List UInt8 → Nat → Nat → Nat → Nat → Option X)
  (b0 : List UInt8) (b1 : Int) (b2 : List DecL) (b3 : Int) (b4 : List TagL) (b5 b6 b7 : Int) (nm : List UInt8) (kd : Int) (vs : List DecL) (rt : Int) (ts : List TagL) (tm c a : Int) (s : List UInt8) (i0 i1 i2 i3 : Nat)
theorem g_end (p i : Int) : F.graphite_Parse.L2_graphite_cut_1.step n rec k0 kr p i false b0 b1 b2 b3 b4 b5 b6 b7 nm kd vs rt ts tm c a s i0 i1 i2 i3 = k0 b0 b1 b2 b3 b4 b5 b6 b7 nm kd vs rt ts tm c a s i0 i1 i2 i3 := rfl
theorem g_round0 (hn : 5000 ≤ n) (p : Nat) (hp : p ≤ s.length) (hs : s.length ≤ 1000) :
    F.graphite_Parse.L2_graphite_cut_1.step n rec k0 kr (p : Int) 0 true b0 b1 b2 b3 b4 b5 b6 b7 nm kd vs rt ts tm c a s i0 i1 i2 i3 =
      (if nameOK (seg 32 (s.drop p)) = false then kr b0 b1 b2 b3 b4 b5 b6 b7 (seg 32 (s.drop p)) kd vs rt ts tm 15 (p : Int) s i0 i1 i2 i3
      else if ¬ 32 ∈ s.drop p then kr b0 b1 b2 b3 b4 b5 b6 b7 (seg 32 (s.drop p)) kd vs rt ts tm 11 ((p + (seg 32 (s.drop p)).length : Nat) : Int) s i0 i1 i2 i3
      else rec ((p + (seg 32 (s.drop p)).length + 1 : Nat) : Int) 1 true b0 b1 b2 b3 b4 b5 b6 b7 (seg 32 (s.drop p)) kd vs rt ts tm c a s i0 i1 i2 i3) := by
  unfold F.graphite_Parse.L2_graphite_cut_1.step
  have hl := seg_le 32 (s.drop p)
  simp only [List.length_drop] at hl
  rw [cond_true, sub_tail hp, some_bind', cut_eq n 32 (by simp; omega), some_bind']
  simp only [beq_self_eq_true, cond_true]
  rw [text_cls n 1 _ 1 200 (by omega) (by omega), some_bind', textF_both]
  have e1 : ((textF 1 (seg 32 (s.drop p)) 1 200).1 == 0) = nameOK (seg 32 (s.drop p)) := rfl
  have w1 : IntKind.wrap .i64 ((p : Int) + ((seg 32 (s.drop p)).length : Int)) = ((p + (seg 32 (s.drop p)).length : Nat) : Int) := by rw [wrap_in (by omega)]; omega
  have w2 : IntKind.wrap .i64 ((p : Int) + (IntKind.wrap .i64 (((seg 32 (s.drop p)).length : Int) + (1 : Int)))) = ((p + (seg 32 (s.drop p)).length + 1 : Nat) : Int) := by rw [wrap_in (x := ((seg 32 (s.drop p)).length : Int) + 1) (by omega), wrap_in (by omega)]; omega
  have w3 : IntKind.wrap .i64 ((0 : Int) + 1) = 1 := rfl
  rw [e1, w1, w2, w3]
  cases nameOK (seg 32 (s.drop p))
  · rfl
  · have d2 : decide ((0 : Int) < 2) = true := rfl
    rw [Bool.not_true, cond_false, if_neg (by simp), d2]
    by_cases hm : 32 ∈ s.drop p
    · rw [decide_eq_true hm, if_neg (fun h => h hm)]; rfl
    · rw [decide_eq_false hm, if_pos hm]; rfl
theorem g_round1 (hn : 5000 ≤ n) (p : Nat) (hp : p ≤ s.length) (hs : s.length ≤ 1000) :
    F.graphite_Parse.L2_graphite_cut_1.step n rec k0 kr (p : Int) 1 true b0 b1 b2 b3 b4 b5 b6 b7 nm kd vs rt ts tm c a s i0 i1 i2 i3 =
      (if ¬ (parseR (seg 32 (s.drop p))).2.1.1 = 0 then kr b0 b1 b2 b3 b4 b5 b6 b7 nm kd vs rt ts tm 17 (p : Int) s i0 i1 i2 i3
      else if ¬ 32 ∈ s.drop p then kr b0 b1 b2 b3 b4 b5 b6 b7 nm kd [((parseR (seg 32 (s.drop p))).1.1, (parseR (seg 32 (s.drop p))).1.2.1, (parseR (seg 32 (s.drop p))).1.2.2.1)] rt ts tm 11 ((p + (seg 32 (s.drop p)).length : Nat) : Int) s i0 i1 1 i3
      else rec ((p + (seg 32 (s.drop p)).length + 1 : Nat) : Int) 2 true b0 b1 b2 b3 b4 b5 b6 b7 nm kd [((parseR (seg 32 (s.drop p))).1.1, (parseR (seg 32 (s.drop p))).1.2.1, (parseR (seg 32 (s.drop p))).1.2.2.1)] rt ts tm c a s i0 i1 1 i3) := by
  unfold F.graphite_Parse.L2_graphite_cut_1.step
  have hl := seg_le 32 (s.drop p)
  simp only [List.length_drop] at hl
  rw [cond_true, sub_tail hp, some_bind', cut_eq n 32 (by simp; omega), some_bind']
  have g1 : ((1 : Int) == 0) = false := rfl
  simp only [beq_self_eq_true, cond_true, g1, cond_false]
  have w1 : IntKind.wrap .i64 ((p : Int) + ((seg 32 (s.drop p)).length : Int)) = ((p + (seg 32 (s.drop p)).length : Nat) : Int) := by rw [wrap_in (by omega)]; omega
  have w2 : IntKind.wrap .i64 ((p : Int) + (IntKind.wrap .i64 (((seg 32 (s.drop p)).length : Int) + (1 : Int)))) = ((p + (seg 32 (s.drop p)).length + 1 : Nat) : Int) := by rw [wrap_in (x := ((seg 32 (s.drop p)).length : Int) + 1) (by omega), wrap_in (by omega)]; omega
  have w3 : IntKind.wrap .i64 ((1 : Int) + 1) = 2 := rfl
  rw [decparse_eq n hn _ (by omega), some_bind', faultN_both (fun h => parseR_at h), w1, w2, w3]
  by_cases h0 : (parseR (seg 32 (s.drop p))).2.1.1 = 0
  · have e0 : ((parseR (seg 32 (s.drop p))).2.1.1 == 0) = true := by simp [h0]
    have d2 : decide ((1 : Int) < 2) = true := rfl
    rw [e0, Bool.not_true, cond_false, if_neg (fun h => h h0), d2]
    by_cases hm : 32 ∈ s.drop p
    · rw [decide_eq_true hm, if_neg (fun h => h hm)]; rfl
    · rw [decide_eq_false hm, if_pos hm]; rfl
  · have e0 : ((parseR (seg 32 (s.drop p))).2.1.1 == 0) = false := by simpa using h0
    rw [e0, if_pos h0]; rfl
theorem g_round2 (hn : 5000 ≤ n) (p : Nat) (hp : p ≤ s.length) (hs : s.length ≤ 1000) :
    F.graphite_Parse.L2_graphite_cut_1.step n rec k0 kr (p : Int) 2 true b0 b1 b2 b3 b4 b5 b6 b7 nm kd vs rt ts tm c a s i0 i1 i2 i3 =
      (if ¬ (timeR (seg 32 (s.drop p))).2.1.1 = 0 then kr b0 b1 b2 b3 b4 b5 b6 b7 nm kd vs rt ts tm 20 (p : Int) s i0 i1 i2 i3
      else if 32 ∈ s.drop p then kr b0 b1 b2 b3 b4 b5 b6 b7 nm kd vs rt ts (timeR (seg 32 (s.drop p))).1 11 ((p + (seg 32 (s.drop p)).length : Nat) : Int) s i0 i1 i2 i3
      else rec ((p + (seg 32 (s.drop p)).length + 1 : Nat) : Int) 3 false b0 b1 b2 b3 b4 b5 b6 b7 nm kd vs rt ts (timeR (seg 32 (s.drop p))).1 c a s i0 i1 i2 i3) := by
  unfold F.graphite_Parse.L2_graphite_cut_1.step
  have hl := seg_le 32 (s.drop p)
  simp only [List.length_drop] at hl
  rw [cond_true, sub_tail hp, some_bind', cut_eq n 32 (by simp; omega), some_bind']
  have g1 : ((2 : Int) == 0) = false := rfl
  have g2 : ((2 : Int) == 1) = false := rfl
  simp only [g1, g2, cond_false]
  have w1 : IntKind.wrap .i64 ((p : Int) + ((seg 32 (s.drop p)).length : Int)) = ((p + (seg 32 (s.drop p)).length : Nat) : Int) := by rw [wrap_in (by omega)]; omega
  have w2 : IntKind.wrap .i64 ((p : Int) + (IntKind.wrap .i64 (((seg 32 (s.drop p)).length : Int) + (1 : Int)))) = ((p + (seg 32 (s.drop p)).length + 1 : Nat) : Int) := by rw [wrap_in (x := ((seg 32 (s.drop p)).length : Int) + 1) (by omega), wrap_in (by omega)]; omega
  have w3 : IntKind.wrap .i64 ((2 : Int) + 1) = 3 := rfl
  rw [time_eq n _ (by omega) (by omega), some_bind', faultN_both (fun h => parseNum_at h), w1, w2, w3]
  by_cases h0 : (timeR (seg 32 (s.drop p))).2.1.1 = 0
  · have e0 : ((timeR (seg 32 (s.drop p))).2.1.1 == 0) = true := by simp [h0]
    have d2 : decide ((2 : Int) < 2) = false := rfl
    rw [e0, Bool.not_true, cond_false, if_neg (fun h => h h0), d2]
    by_cases hm : 32 ∈ s.drop p
    · rw [decide_eq_true hm, if_pos hm]; rfl
    · rw [decide_eq_false hm, if_neg hm]; rfl
  · have e0 : ((timeR (seg 32 (s.drop p))).2.1.1 == 0) = false := by simpa using h0
    rw [e0, if_pos h0]; rfl
end
theorem grParse_eq (n : Nat) (hn : 5000 ≤ n) (s : List UInt8) (hs : s.length ≤ 1000) : F.graphite_Parse n s = some (grParse s) := by
  unfold F.graphite_Parse
  generalize hk0 : (fun (e6_b0_0 : List UInt8) (e6_b0_1 : Int) (e6_b0_2 : List DecL) (e6_b0_3 : Int) (e6_b0_4 : List TagL) (e6_b0_5 e6_b1_0 e6_b1_1 : Int) (e6_b2_0 : List UInt8) (e6_b2_1 : Int) (e6_b2_2 : List DecL) (e6_b2_3 : Int) (e6_b2_4 : List TagL) (e6_b2_5 e6_b3_0 e6_b3_1 : Int) (e6_b4_0 : List UInt8) (e6_k0 e6_k1 e6_k2 e6_k3 : Nat) =>
      bif !((e6_b3_0 == (0 : Int)) && (e6_b3_1 == (0 : Int))) then
        some (((([], (0 : Int), [], (0 : Int), [], (0 : Int), ()), (e6_b3_0, e6_b3_1, ()), ()) : MetR))
      else
        some (((e6_b2_0, e6_b2_1, e6_b2_2, e6_b2_3, e6_b2_4, e6_b2_5, ()), (e6_b3_0, e6_b3_1, ()), ()))) = k0
  have hbad : ∀ (b0 : List UInt8) (b1 : Int) (b2 : List DecL) (b3 : Int) (b4 : List TagL) (b5 b6 b7 : Int) (nm : List UInt8) (kd : Int) (vs : List DecL) (rt : Int) (ts : List TagL) (tm c a : Int) (s : List UInt8) (i0 i1 i2 i3 : Nat), ¬ c = 0 → k0 b0 b1 b2 b3 b4 b5 b6 b7 nm kd vs rt ts tm c a s i0 i1 i2 i3 = some (badM c a) := by
    intro b0 b1 b2 b3 b4 b5 b6 b7 nm kd vs rt ts tm c a s i0 i1 i2 i3 hc
    rw [← hk0]
    simp only
    rw [beq_eq_false_iff_ne.2 hc]; rfl
  have hok : ∀ (b0 : List UInt8) (b1 : Int) (b2 : List DecL) (b3 : Int) (b4 : List TagL) (b5 b6 b7 : Int) (nm : List UInt8) (kd : Int) (vs : List DecL) (rt : Int) (ts : List TagL) (tm : Int) (s : List UInt8) (i0 i1 i2 i3 : Nat), k0 b0 b1 b2 b3 b4 b5 b6 b7 nm kd vs rt ts tm 0 0 s i0 i1 i2 i3 = some ((nm, kd, vs, rt, ts, tm, ()), (0, 0, ()), ()) := by
    intro b0 b1 b2 b3 b4 b5 b6 b7 nm kd vs rt ts tm s i0 i1 i2 i3
    rw [← hk0]; rfl
  obtain ⟨q, hq⟩ : ∃ q, n = q + 1 + 1 + 1 + 1 := ⟨n - 4, by omega⟩
  have st : ∀ m p i b b0 b1 b2 b3 b4 b5 b6 b7 nm kd vs rt ts tm c a s i0 i1 i2 i3, F.graphite_Parse.L2_graphite_cut_1 n k0 k0 (m + 1) p i b b0 b1 b2 b3 b4 b5 b6 b7 nm kd vs rt ts tm c a s i0 i1 i2 i3 = F.graphite_Parse.L2_graphite_cut_1.step n (F.graphite_Parse.L2_graphite_cut_1 n k0 k0 m) k0 k0 p i b b0 b1 b2 b3 b4 b5 b6 b7 nm kd vs rt ts tm c a s i0 i1 i2 i3 := fun _ _ _ _ _ _ _ _ _ _ _ _ _ _ _ _ _ _ _ _ _ _ _ _ _ => rfl
  have key : F.graphite_Parse.L2_graphite_cut_1 n k0 k0 (q + 1 + 1 + 1 + 1) 0 0 true [] 0 [] 0 [] 0 0 0 [] 2 [] 1000000 [] 0 0 0 s 0 0 0 0 = some (grParse s) := by
    have hl := seg_le 32 s
    have r0 := g_round0 n (F.graphite_Parse.L2_graphite_cut_1 n k0 k0 (q + 1 + 1 + 1)) k0 k0 [] 0 [] 0 [] 0 0 0 [] 2 [] 1000000 [] 0 0 0 s 0 0 0 0 hn 0 (by omega) hs
    rw [st]
    refine r0.trans ?_
    rw [List.drop_zero, Nat.zero_add]
    unfold grParse
    by_cases h1 : nameOK (seg 32 s) = false
    · rw [if_pos h1, if_pos h1]; exact hbad _ _ _ _ _ _ _ _ _ _ _ _ _ _ _ _ _ _ _ _ _ (by decide)
    rw [if_neg h1, if_neg h1]
    by_cases h2 : ¬ 32 ∈ s
    · rw [if_pos h2, if_pos h2]; exact hbad _ _ _ _ _ _ _ _ _ _ _ _ _ _ _ _ _ _ _ _ _ (by decide)
    rw [if_neg h2, if_neg h2]
    have hlt := seg_lt (Classical.not_not.1 h2)
    generalize hA : (seg 32 s).length = A at *
    have hl2 := seg_le 32 (s.drop (A + 1))
    simp only [List.length_drop] at hl2
    rw [st, g_round1 n _ k0 k0 _ _ _ _ _ _ _ _ _ _ _ _ _ _ _ _ s _ _ _ _ hn (A + 1) (by omega) hs]
    unfold valueG
    by_cases h3 : ¬ (parseR (seg 32 (s.drop (A + 1)))).2.1.1 = 0
    · rw [if_pos h3, if_pos h3]; exact hbad _ _ _ _ _ _ _ _ _ _ _ _ _ _ _ _ _ _ _ _ _ (by decide)
    rw [if_neg h3, if_neg h3]
    by_cases h4 : ¬ 32 ∈ s.drop (A + 1)
    · rw [if_pos h4, if_pos h4]; exact hbad _ _ _ _ _ _ _ _ _ _ _ _ _ _ _ _ _ _ _ _ _ (by decide)
    rw [if_neg h4, if_neg h4]
    have hlt2 := seg_lt (Classical.not_not.1 h4)
    simp only [List.length_drop] at hlt2
    have hd2 : (s.drop (A + 1)).drop ((seg 32 (s.drop (A + 1))).length + 1) = s.drop (A + 1 + (seg 32 (s.drop (A + 1))).length + 1) := by rw [List.drop_drop]; rfl
    rw [hd2]
    generalize hB : A + 1 + (seg 32 (s.drop (A + 1))).length = B at *
    rw [st, g_round2 n _ k0 k0 _ _ _ _ _ _ _ _ _ _ _ _ _ _ _ _ s _ _ _ _ hn (B + 1) (by omega) hs]
    unfold timeS
    by_cases h5 : ¬ (timeR (seg 32 (s.drop (B + 1)))).2.1.1 = 0
    · rw [if_pos h5, if_pos h5]; exact hbad _ _ _ _ _ _ _ _ _ _ _ _ _ _ _ _ _ _ _ _ _ (by decide)
    rw [if_neg h5, if_neg h5]
    by_cases h6 : 32 ∈ s.drop (B + 1)
    · rw [if_pos h6, if_pos h6]; exact hbad _ _ _ _ _ _ _ _ _ _ _ _ _ _ _ _ _ _ _ _ _ (by decide)
    rw [if_neg h6, if_neg h6, st, g_end]
    exact hok _ _ _ _ _ _ _ _ _ _ _ _ _ _ _ _ _ _ _
  rw [← hq] at key
  exact key
theorem time_ref (n : Nat) (hn : 100 ≤ n) (s : List UInt8) (hs : s.length ≤ 1000000) (hl : s.length < n) : F.ref05_Time n s = some (timeR s) := by
  unfold F.ref05_Time
  rw [parse_ref n hn s _ _ hs hl, some_bind']
theorem wrong12 (n : Nat) (c a : Int) : F.ref12_wrong n c a = some (badM c a) := rfl
theorem refGr_eq (n : Nat) (hn : 5000 ≤ n) (s : List UInt8) (hs : s.length ≤ 1000) : F.ref12_Parse n s = some (grParse s) := by
  unfold F.ref12_Parse grParse
  have f0 : F.ref10_Find n s (0 : Int) (32 : Int) = some (((seg 32 s).length : Nat) : Int) := by
    have := find_eq n 32 s (by omega) (by omega) 0 (by omega)
    rw [List.drop_zero, Nat.zero_add] at this
    exact this
  have hl := seg_le 32 s
  have s0 : sub s (0 : Int) (((seg 32 s).length : Nat) : Int) = some (seg 32 s) := by
    have := sub_seg (s := s) (c := 32) (p := 0) (by omega)
    rw [List.drop_zero, Nat.zero_add] at this
    exact this
  have e0 : ((((seg 32 s).length : Nat) : Int) == (s.length : Int)) = !decide (32 ∈ s) := by
    have := seg_end (s := s) (c := 32) (p := 0) (by omega)
    rw [List.drop_zero, Nat.zero_add] at this
    exact this
  simp only [f0, some_bind', s0, refName_eq n hn _ (by omega : (seg 32 s).length ≤ 1000), e0, wrong12]
  by_cases h1 : nameOK (seg 32 s) = false
  · rw [if_pos h1, h1]; rfl
  rw [if_neg h1]
  have h1' : nameOK (seg 32 s) = true := by simpa using h1
  rw [h1', Bool.not_true, cond_false]
  by_cases h2 : 32 ∈ s
  · have hlt := seg_lt h2
    rw [if_neg (fun h => h h2), decide_eq_true h2, Bool.not_true, cond_false, wrap_succ (by omega)]
    generalize hA : (seg 32 s).length = A at *
    have hl2 := seg_le 32 (s.drop (A + 1))
    simp only [List.length_drop] at hl2
    unfold valueG
    rw [show (32 : Int) = ((32 : UInt8).toNat : Int) from rfl, find_eq n 32 s (by omega) (by omega) (A + 1) (by omega), some_bind', sub_seg (by omega), some_bind', refparse_eq n hn _ (by omega), some_bind', seg_end (by omega)]
    by_cases h3 : (parseR (seg 32 (s.drop (A + 1)))).2.1.1 = 0
    · have e3 : ((parseR (seg 32 (s.drop (A + 1)))).2.1.1 == 0) = true := by simp [h3]
      rw [if_neg (fun h => h h3), e3, Bool.not_true, cond_false]
      by_cases h4 : 32 ∈ s.drop (A + 1)
      · have hlt2 := seg_lt h4
        simp only [List.length_drop] at hlt2
        have hd2 : (s.drop (A + 1)).drop ((seg 32 (s.drop (A + 1))).length + 1) = s.drop (A + 1 + (seg 32 (s.drop (A + 1))).length + 1) := by rw [List.drop_drop]; rfl
        rw [if_neg (fun h => h h4), decide_eq_true h4, Bool.not_true, cond_false, wrap_succ (by omega), hd2]
        generalize hB : A + 1 + (seg 32 (s.drop (A + 1))).length = B at *
        have hl3 := seg_le 32 (s.drop (B + 1))
        simp only [List.length_drop] at hl3
        unfold timeS
        rw [find_eq n 32 s (by omega) (by omega) (B + 1) (by omega), some_bind', sub_seg (by omega), some_bind', time_ref n (by omega) _ (by omega) (by omega), some_bind']
        by_cases h5 : (timeR (seg 32 (s.drop (B + 1)))).2.1.1 = 0
        · have e5 : ((timeR (seg 32 (s.drop (B + 1)))).2.1.1 == 0) = true := by simp [h5]
          rw [if_neg (fun h => h h5), e5, Bool.not_true, cond_false]
          by_cases h6 : 32 ∈ s.drop (B + 1)
          · have := seg_lt h6
            simp only [List.length_drop] at this
            rw [if_pos h6, bif_pos (by omega)]
          · rw [if_neg h6, bif_neg (by rw [seg_all h6]; simp; omega)]
        · have e5 : ((timeR (seg 32 (s.drop (B + 1)))).2.1.1 == 0) = false := by simpa using h5
          rw [if_pos h5, e5]; rfl
      · rw [if_pos h4, decide_eq_false h4]; rfl
    · have e3 : ((parseR (seg 32 (s.drop (A + 1)))).2.1.1 == 0) = false := by simpa using h3
      rw [if_pos h3, e3]; rfl
  · rw [if_pos h2, decide_eq_false h2]; rfl
end Go.AM
set_option linter.unusedVariables false
set_option linter.unusedSimpArgs false
namespace Go.AM
def lineG (m : MetD) : List UInt8 := m.1 ++ [32] ++ valL m.2.2.1 ++ [32] ++ Lib.decDigits m.2.2.2.2.2.1.toNat
def lineGR (m : MetD) : List UInt8 × Int × Unit := if expM m 3 = 0 then (lineG m, 0, ()) else ([], expM m 3, ())
theorem saidG_facts {m : MetD} (h : expM m 3 = 0) : ∃ nm d t, m = (nm, 2, [d], 1000000, [], t, ()) ∧ nameOK nm = true ∧ decC d = 0 ∧ 1 ≤ t ∧ t ≤ 1099511627776 := by
  obtain ⟨nm, k, vs, r, ts, t, _⟩ := m
  unfold expM at h
  rw [if_neg (by omega)] at h
  by_cases h0 : chkM (nm, k, vs, r, ts, t, ()) = 0
  · rw [if_pos h0] at h
    have hs : saysG (nm, k, vs, r, ts, t, ()) = true := by
      cases e : saysM (nm, k, vs, r, ts, t, ()) 3
      · rw [e] at h; cases h
      · exact e
    obtain ⟨c1, c2, c3, c4, c5, c6⟩ := chk_zero h0
    simp only at c1 c2 c3 c4 c5 c6
    unfold saysG at hs
    simp only [Bool.and_eq_true, Bool.not_eq_true', beq_iff_eq, beq_eq_false_iff_ne] at hs
    obtain ⟨hb, ht, hk⟩ := hs
    subst hk
    unfold bareM at hb
    simp only [Bool.and_eq_true, decide_eq_true_eq] at hb
    obtain ⟨hv, hg⟩ := hb
    have hg' : ts = [] := List.length_eq_zero_iff.1 hg
    subst hg'
    match vs, hv with
    | [d], _ =>
      unfold valsB at c3
      unfold rateB at c4
      unfold timeB at c6
      simp only [Bool.and_eq_true, decide_eq_true_eq, List.all_cons, List.all_nil, Bool.and_true, beq_iff_eq, Bool.or_eq_true, Bool.not_eq_true', beq_eq_false_iff_ne] at c3 c4 c6
      have hr : r = 1000000 := by
        rcases c4.2.2 with h | h
        · exact absurd rfl h
        · exact h
      subst hr
      exact ⟨nm, d, t, rfl, c1, c3.2.2, by omega, c6.2⟩
  · rw [if_neg h0] at h; exact absurd h h0
theorem dd_time {t : Int} (h1 : 1 ≤ t) (h2 : t ≤ 1099511627776) : (Lib.decDigits t.toNat).length ≤ 13 := dd_length_le (by omega) (by omega)
theorem timeR_dd {t : Int} (h1 : 1 ≤ t) (h2 : t ≤ 1099511627776) : timeR (Lib.decDigits t.toNat) = numR t 0 0 := by
  show parseNum _ _ _ = _
  rw [parse_dd t.toNat (by omega), if_neg (by omega), show ((t.toNat : Nat) : Int) = t from by omega]
theorem lineG_eq (n : Nat) (hn : 5000 ≤ n) (m : MetD) (hm : MetOK m) : F.graphite_Line n m = some (lineGR m) := by
  unfold F.graphite_Line lineGR
  have he : F.expr_Metric n (m.1, m.2.1, m.2.2.1, m.2.2.2.1, m.2.2.2.2.1, m.2.2.2.2.2.1, ()) (3 : Int) = some (expM m 3) := expm_eq n hn m hm 3
  rw [he, some_bind']
  by_cases h0 : expM m 3 = 0
  · rw [if_pos h0]
    obtain ⟨nm, d, t, rfl, hnm, hd, t1, t2⟩ := saidG_facts h0
    have hdo : DecLOK d := hm.2.1.2 d (by simp)
    have hn1 := hm.1
    simp only at hn1
    have ht := textD_le hdo hd
    have hi : idx [d] (0 : Int) = some d := rfl
    have hnt : numText t = (Lib.decDigits t.toNat, 0, ()) := by unfold numText; rw [if_neg (by omega)]
    have hl := dd_time t1 t2
    rw [h0]
    simp only [some_bind', hi, decText_eq n hn hdo hd, text_num n t (by omega), hnt]
    unfold lineG valL
    simp only [beq_self_eq_true, Bool.not_true, cond_false]
    rw [bif_pos (by rw [strMax_eq]; omega), bif_pos (by rw [strMax_eq]; simp; omega), bif_pos (by rw [strMax_eq]; simp; omega), bif_pos (by rw [strMax_eq]; simp; omega)]
  · rw [beq_eq_false_iff_ne.2 h0, if_neg h0]; rfl
theorem refLineG_eq (n : Nat) (hn : 5000 ≤ n) (m : MetD) (hm : MetOK m) (h0 : expM m 3 = 0) : F.ref12_Line n m = some (lineG m) := by
  unfold F.ref12_Line F.ref05_Text
  obtain ⟨nm, d, t, rfl, hnm, hd, t1, t2⟩ := saidG_facts h0
  have hdo : DecLOK d := hm.2.1.2 d (by simp)
  have hn1 := hm.1
  simp only at hn1
  have ht := textD_le hdo hd
  have hi : idx [d] (0 : Int) = some d := rfl
  have hl := dd_time t1 t2
  have hdg : F.ref05_Digits n (IntKind.wrap .u64 t) = some (Lib.decDigits t.toNat) := by
    rw [IntWalk.u64_in _ (by omega)]
    have := digits_ref n (by omega) t.toNat (by omega)
    rw [show ((t.toNat : Nat) : Int) = t from by omega] at this
    exact this
  simp only [hi, some_bind', decText_ref n hn hdo hd, hdg]
  unfold lineG valL
  rw [bif_pos (by rw [strMax_eq]; omega), bif_pos (by rw [strMax_eq]; simp; omega), bif_pos (by rw [strMax_eq]; simp; omega), bif_pos (by rw [strMax_eq]; simp; omega)]
theorem awake12 (n : Nat) (hn : 5000 ≤ n) : F.law12_awake n = some true := by
  unfold F.law12_awake
  have d15 : Lib.decDigits 15 = [49, 53] := dd_inv (l := [49, 53]) rfl ⟨by simp, by simp⟩
  have dT : Lib.decDigits 1700000000 = [49, 55, 48, 48, 48, 48, 48, 48, 48, 48] := dd_inv (l := [49, 55, 48, 48, 48, 48, 48, 48, 48, 48]) rfl ⟨by simp, by simp⟩
  have c15 : checkR true 15 (-1) = 0 := by unfold checkR; rw [d15]; rfl
  have t15 : textD true 15 (-1) = [45, 49, 46, 53] := by unfold textD wideW; rw [d15]; rfl
  have q1 : grParse [97, 46, 98, 32, 45, 49, 46, 53, 48, 32, 49, 55, 48, 48, 48, 48, 48, 48, 48, 48] = OkG [97, 46, 98] (true, 15, -1) 1700000000 := by kernel_rfl
  have q2 : grParse [97, 32, 49, 32, 48] = badM 20 4 := by kernel_rfl
  have q3 : grParse [97, 32, 32, 49, 32, 53] = badM 17 2 := by kernel_rfl
  have q4 : grParse [97, 32, 49, 32, 53, 32] = badM 11 5 := by kernel_rfl
  have hok : MetOK ([97, 46, 98], 2, [(true, 15, -1)], 1000000, [], 1700000000, ()) := ⟨by decide, ⟨by decide, fun d hd => by
    have : d = (true, 15, -1) := by simpa using hd
    subst this
    exact ⟨trivial, by decide, by decide⟩⟩, by decide, fun t ht => by simp at ht⟩
  have hx : expM ([97, 46, 98], 2, [(true, 15, -1)], 1000000, [], 1700000000, ()) 3 = 0 := by
    have hv : valsB [(true, 15, -1)] = true := by
      unfold valsB
      have : decC (true, 15, -1) = 0 := c15
      simp [this]
    unfold expM chkM
    simp only [hv]
    rfl
  have hl : F.graphite_Line n ([97, 46, 98], 2, [(true, 15, -1)], 1000000, [], 1700000000, ()) = some ([97, 46, 98, 32, 45, 49, 46, 53, 32, 49, 55, 48, 48, 48, 48, 48, 48, 48, 48], 0, ()) := by
    rw [lineG_eq n hn _ hok]
    unfold lineGR
    rw [if_pos hx]
    unfold lineG valL
    have t15' : textD true (15 : Int).toNat (-1) = [45, 49, 46, 53] := t15
    simp only [t15', show (1700000000 : Int).toNat = 1700000000 from rfl, dT]
    rfl
  rw [grParse_eq n hn _ (by simp), grParse_eq n hn _ (by simp), grParse_eq n hn _ (by simp), grParse_eq n hn _ (by simp), q1, q2, q3, q4]
  simp only [some_bind', hl]
  rfl
theorem graphite_lines (n : Nat) (hn : 5000 ≤ n) (m : MetD) (hw : MetWf m) (hl : m.2.2.2.2.1.length ≤ 140737488351232) : F.law12_GraphiteLines n m = some true := by
  unfold F.law12_GraphiteLines
  have hs : F.law10_Small n (m.1, m.2.1, m.2.2.1, m.2.2.2.1, m.2.2.2.2.1, m.2.2.2.2.2.1, ()) = some (smallB m) := small_eq n hn m hl
  rw [hs, some_bind', awake12 n hn]
  by_cases h : smallB m = true
  · have hm := (small_ok hw h).1
    have h1 : F.graphite_Line n (m.1, m.2.1, m.2.2.1, m.2.2.2.1, m.2.2.2.2.1, m.2.2.2.2.2.1, ()) = some (lineGR m) := lineG_eq n hn m hm
    have h2 : F.ref09_Metric n (m.1, m.2.1, m.2.2.1, m.2.2.2.1, m.2.2.2.2.1, m.2.2.2.2.2.1, ()) (3 : Int) = some (expM m 3) := expm_ref n hn m hm 3
    rw [h, Bool.not_true, cond_false, h1, some_bind', h2, some_bind']
    unfold lineGR
    by_cases h0 : expM m 3 = 0
    · have h3 : F.ref12_Line n (m.1, m.2.1, m.2.2.1, m.2.2.2.1, m.2.2.2.2.1, m.2.2.2.2.2.1, ()) = some (lineG m) := refLineG_eq n hn m hm h0
      rw [h3, h0, if_pos rfl]
      simp
    · rw [if_neg h0, beq_eq_false_iff_ne.2 h0]
      simp
  · have h : smallB m = false := by simpa using h
    rw [h]; rfl
theorem gr_three {a b : List UInt8} (ha : (32 : UInt8) ∉ a) (hb : (32 : UInt8) ∉ b) (u : List UInt8) : grParse (a ++ 32 :: (b ++ 32 :: u)) =
    if nameOK a = false then badM 15 0 else if ¬ (parseR b).2.1.1 = 0 then badM 17 ((a.length + 1 : Nat) : Int) else timeS a ((parseR b).1.1, (parseR b).1.2.1, (parseR b).1.2.2.1) u (a.length + 1 + b.length + 1) := by
  unfold grParse
  have h1 : seg 32 (a ++ 32 :: (b ++ 32 :: u)) = a := seg_app ha _
  have h2 : (32 : UInt8) ∈ a ++ 32 :: (b ++ 32 :: u) := by simp
  have h3 : (a ++ 32 :: (b ++ 32 :: u)).drop (a.length + 1) = b ++ 32 :: u := by rw [← List.drop_drop]; simp
  rw [h1, h3, if_neg (show ¬ ¬ (32 : UInt8) ∈ a ++ 32 :: (b ++ 32 :: u) from fun h => h h2)]
  unfold valueG
  have g1 : seg 32 (b ++ 32 :: u) = b := seg_app hb _
  have g2 : (32 : UInt8) ∈ b ++ 32 :: u := by simp
  have g3 : (b ++ 32 :: u).drop (b.length + 1) = u := by rw [← List.drop_drop]; simp
  rw [g1, g3, if_neg (show ¬ ¬ (32 : UInt8) ∈ b ++ 32 :: u from fun h => h g2)]
theorem nameG_free {s : List UInt8} (h : nameOK s = true) : (32 : UInt8) ∉ s := by
  rw [nameOK_eq] at h
  simp only [Bool.and_eq_true, List.all_eq_true] at h
  intro hm
  have := h.1 32 hm
  revert this
  decide
theorem textD_free32 (neg : Bool) (c : Nat) (e : Int) : (32 : UInt8) ∉ textD neg c e := by
  intro h
  rcases textD_bytes neg c e _ h with h | h | h
  · exact absurd h.1 (by decide)
  · exact absurd h (by decide)
  · exact absurd h (by decide)
theorem digs_free32 {l : List UInt8} (h : Digs l) : (32 : UInt8) ∉ l := fun hm => absurd (List.all_eq_true.1 h _ hm) (by decide)
theorem gr_cases (s : List UInt8) : (∃ c a : Int, grParse s = badM c a ∧ c ≠ 0 ∧ 0 ≤ a ∧ a ≤ s.length) ∨
    (∃ name value time d, s = name ++ 32 :: (value ++ 32 :: time) ∧ nameOK name = true ∧ (32 : UInt8) ∉ name ∧ (32 : UInt8) ∉ value ∧ (32 : UInt8) ∉ time ∧ parseR value = ((d.1, d.2.1, d.2.2, ()), (0, 0, ()), ()) ∧ (timeR time).2.1.1 = 0 ∧ grParse s = OkG name d (timeR time).1) := by
  unfold grParse
  have hl := seg_le 32 s
  by_cases h1 : nameOK (seg 32 s) = false
  · rw [if_pos h1]
    exact Or.inl ⟨15, 0, rfl, by decide, by omega, by omega⟩
  rw [if_neg h1]
  by_cases h2 : ¬ 32 ∈ s
  · rw [if_pos h2]
    exact Or.inl ⟨11, _, rfl, by decide, by omega, by omega⟩
  rw [if_neg h2]
  have h2' := Classical.not_not.1 h2
  have hsp := seg_split h2'
  have hfr := seg_free 32 s
  have hlen := congrArg List.length hsp
  simp only [List.length_append, List.length_cons] at hlen
  generalize seg 32 s = name at *
  generalize s.drop (name.length + 1) = t at *
  unfold valueG
  have hl2 := seg_le 32 t
  by_cases h3 : ¬ (parseR (seg 32 t)).2.1.1 = 0
  · rw [if_pos h3]
    exact Or.inl ⟨17, _, rfl, by decide, by omega, by omega⟩
  rw [if_neg h3]
  by_cases h4 : ¬ 32 ∈ t
  · rw [if_pos h4]
    exact Or.inl ⟨11, _, rfl, by decide, by omega, by omega⟩
  rw [if_neg h4]
  have h4' := Classical.not_not.1 h4
  have hsp2 := seg_split h4'
  have hfr2 := seg_free 32 t
  have hlen2 := congrArg List.length hsp2
  simp only [List.length_append, List.length_cons] at hlen2
  generalize seg 32 t = value at *
  generalize t.drop (value.length + 1) = u at *
  unfold timeS
  have hl3 := seg_le 32 u
  by_cases h5 : ¬ (timeR (seg 32 u)).2.1.1 = 0
  · rw [if_pos h5]
    exact Or.inl ⟨20, _, rfl, by decide, by omega, by omega⟩
  rw [if_neg h5]
  by_cases h6 : 32 ∈ u
  · rw [if_pos h6]
    exact Or.inl ⟨11, _, rfl, by decide, by omega, by omega⟩
  rw [if_neg h6]
  rw [seg_all h6] at h5 ⊢
  have h3' := Classical.not_not.1 h3
  have hat := parseR_at h3'
  refine Or.inr ⟨name, value, u, ((parseR value).1.1, (parseR value).1.2.1, (parseR value).1.2.2.1), by rw [← hsp2, ← hsp], by simpa using h1, hfr, hfr2, h6, ?_, Classical.not_not.1 h5, rfl⟩
  generalize parseR value = z at h3' hat
  obtain ⟨⟨a, b, c, _⟩, ⟨x, y, _⟩, _⟩ := z
  simp only at h3' hat
  subst h3' hat
  rfl
theorem graphite_parses (n : Nat) (hn : 5000 ≤ n) (s : List UInt8) : F.law12_GraphiteParses n s = some true := by
  unfold F.law12_GraphiteParses
  rw [awake12 n hn]
  by_cases h : (s.length : Int) > 600
  · rw [bif_pos h]; rfl
  rw [bif_neg h, grParse_eq n hn s (by omega), refGr_eq n hn s (by omega)]
  rcases gr_cases s with ⟨c, a, e, _⟩ | ⟨name, value, time, d, _, _, _, _, _, _, _, e⟩
  · rw [e]
    simp only [some_bind', refequal_refl n hn ([], 0, [], 0, [], 0, ()) (by simp) (by simp)]
    simp
  · rw [e]
    simp only [some_bind', refequal_refl n hn (name, 2, [d], 1000000, [], (timeR time).1, ()) (by simp) (by simp)]
    simp
theorem backG_line {m : MetD} (hm : MetOK m) (h : expM m 3 = 0) : grParse (lineG m) = (m, (0, 0, ()), ()) := by
  obtain ⟨nm, d, t, rfl, hnm, hd, t1, t2⟩ := saidG_facts h
  have hdo : DecLOK d := hm.2.1.2 d (by simp)
  obtain ⟨neg, c, e, rfl, hc, he⟩ := decL_nat hdo
  have hd' : checkR neg c e = 0 := hd
  have hp := parse_text neg c hc e hd'
  have hvl : valL [(neg, (c : Int), e)] = textD neg c e := rfl
  have e1 : lineG (nm, 2, [(neg, (c : Int), e)], 1000000, [], t, ()) = nm ++ 32 :: (textD neg c e ++ 32 :: Lib.decDigits t.toNat) := by
    unfold lineG
    rw [hvl]; simp
  have hfr := digs_free32 (dd_digs t.toNat)
  rw [e1, gr_three (nameG_free hnm) (textD_free32 neg c e), if_neg (by simp [hnm]), hp, if_neg (by simp)]
  unfold timeS
  rw [seg_all hfr, timeR_dd t1 t2, if_neg (show ¬ ¬ (numR t 0 0).2.1.1 = 0 from fun h => h rfl), if_neg hfr]
  rfl
theorem parseG_said {s : List UInt8} (hs : s.length ≤ 1000) {name value time : List UInt8} {d : DecL} (h0 : s = name ++ 32 :: (value ++ 32 :: time)) (hn : nameOK name = true) (hp : parseR value = ((d.1, d.2.1, d.2.2, ()), (0, 0, ()), ())) (ht : (timeR time).2.1.1 = 0) :
    MetOK (name, 2, [d], 1000000, [], (timeR time).1, ()) ∧ expM (name, 2, [d], 1000000, [], (timeR time).1, ()) 3 = 0 ∧ chkM (name, 2, [d], 1000000, [], (timeR time).1, ()) = 0 ∧ (lineG (name, 2, [d], 1000000, [], (timeR time).1, ())).length ≤ s.length := by
  obtain ⟨neg, c, e, q1, q2, q3, q4⟩ := parse_ok (s := value) (by rw [hp])
  have hd : d = (neg, (c : Int), e) := by
    rw [hp] at q1
    have w1 : d.1 = neg := congrArg (fun r : ParseR => r.1.1) q1
    have w2 : d.2.1 = (c : Int) := congrArg (fun r : ParseR => r.1.2.1) q1
    have w3 : d.2.2 = e := congrArg (fun r : ParseR => r.1.2.2.1) q1
    exact Prod.ext w1 (Prod.ext w2 w3)
  subst hd
  obtain ⟨t1, t2⟩ := text_short q1
  obtain ⟨b1, b2, b3, b4, b5, b6, b7⟩ := parse_back ht
  have hdd : Lib.decDigits (val time) = time := dd_inv b6 b7
  have hlen := congrArg List.length h0
  simp at hlen
  have hd0 : decC (neg, (c : Int), e) = 0 := q4
  have e2 : valsB [(neg, (c : Int), e)] = true := by unfold valsB; simp [hd0]
  have e4 : timeB (timeR time).1 = true := by
    unfold timeB
    rw [b2]
    simp only [Bool.and_eq_true, decide_eq_true_eq]
    omega
  have hck : chkM (name, 2, [(neg, (c : Int), e)], 1000000, [], (timeR time).1, ()) = 0 := by
    unfold chkM
    simp only [hn, e2, e4]
    rfl
  refine ⟨⟨?_, ⟨by simp, fun d' hd' => ?_⟩, by simp, fun t ht => by simp at ht⟩, ?_, hck, ?_⟩
  · show name.length ≤ 1000; omega
  · have : d' = (neg, (c : Int), e) := by simpa using hd'
    subst this
    rw [two64_eq] at q2
    refine ⟨trivial, ⟨?_, ?_⟩, q3.1, q3.2⟩
    · show (0 : Int) ≤ (c : Int); omega
    · show (c : Int) ≤ 18446744073709551615; omega
  · unfold expM
    rw [if_neg (by omega), if_pos hck]
    have : saysM (name, 2, [(neg, (c : Int), e)], 1000000, [], (timeR time).1, ()) 3 = true := by
      unfold saysM
      rw [if_neg (by omega), if_pos rfl]
      unfold saysG bareM
      have : ((timeR time).1 == 0) = false := by rw [b2, beq_eq_false_iff_ne]; omega
      simp only [this]
      rfl
    rw [this]; rfl
  · unfold lineG
    have : valL [(neg, (c : Int), e)] = textD neg c e := rfl
    simp only [this, b2]
    rw [show ((val time : Nat) : Int).toNat = val time from by omega, hdd]
    simp
    omega
theorem backG10 (n : Nat) (hn : 5000 ≤ n) (s : List UInt8) (hs : s.length ≤ 600) : F.law12_GraphiteBack.C10 n (fun b => some b) s = some true := by
  unfold F.law12_GraphiteBack.C10
  rw [grParse_eq n hn s (by omega), awake12 n hn]
  rcases gr_cases s with ⟨c, a, e, hc, ha, hal⟩ | ⟨name, value, time, d, h0, hn', _, _, _, hp, ht, e⟩
  · have e1 : (c == 0) = false := by simpa using hc
    rw [e]
    simp only [some_bind', e1, Bool.false_and, Bool.not_false, cond_true]
    rw [equal_eq n hn ([], 0, [], 0, [], 0, ()) _ (by simp) (by simp), eqM_pos rfl, bif_pos ha, bif_pos hal]
    rfl
  · obtain ⟨hm, hx, hck, hl⟩ := parseG_said (by omega) h0 hn' hp ht
    have hb := backG_line hm hx
    have hll : (lineG (name, 2, [d], 1000000, [], (timeR time).1, ())).length ≤ 1000 := by omega
    rw [e]
    simp only [some_bind', beq_self_eq_true, Bool.and_self, Bool.not_true, cond_false]
    have h1 := lineG_eq n hn _ hm
    have h2 : F.metric_Is n (name, 2, [d], 1000000, [], (timeR time).1, ()) = some true := by
      unfold F.metric_Is
      simp only [metcheck_eq n hn _ hm, some_bind', hck, tagIs_nil n (by omega)]
      rfl
    have h3 := expm_eq n hn _ hm 3
    unfold lineGR at h1
    rw [if_pos hx] at h1
    rw [h1, some_bind']
    simp only
    rw [grParse_eq n hn _ hll, hb]
    simp only [some_bind', h2, h3, hx, cond_true, beq_self_eq_true, Bool.and_self]
    rw [equal_eq n hn (name, 2, [d], 1000000, [], (timeR time).1, ()) _ (by simp) (by simp), eqM_pos rfl, some_bind', cond_true, bif_pos (by omega)]
theorem lineG_le {m : MetD} (hm : MetOK m) (h : expM m 3 = 0) (hl : m.1.length ≤ 300) : (lineG m).length ≤ 400 := by
  obtain ⟨nm, d, t, rfl, hnm, hd, t1, t2⟩ := saidG_facts h
  have hdo : DecLOK d := hm.2.1.2 d (by simp)
  have h1 := textD_le hdo hd
  have h2 := dd_time t1 t2
  have h5 : valL [d] = textD d.1 d.2.1.toNat d.2.2 := rfl
  simp only at hl
  unfold lineG
  simp only [h5]
  simp
  omega
theorem graphite_back (n : Nat) (hn : 5000 ≤ n) (m : MetD) (s : List UInt8) (hw : MetWf m) (hl : m.2.2.2.2.1.length ≤ 140737488351232) : F.law12_GraphiteBack n m s = some true := by
  unfold F.law12_GraphiteBack
  have hsm : F.law10_Small n (m.1, m.2.1, m.2.2.1, m.2.2.2.1, m.2.2.2.2.1, m.2.2.2.2.2.1, ()) = some (smallB m) := small_eq n hn m hl
  rw [hsm, some_bind', awake12 n hn]
  by_cases h : smallB m = true
  · obtain ⟨hm, hnl⟩ := small_ok hw h
    rw [h, Bool.not_true, cond_false]
    by_cases h6 : (s.length : Int) > 600
    · rw [bif_pos h6]; rfl
    rw [bif_neg h6]
    have h1 : F.graphite_Line n (m.1, m.2.1, m.2.2.1, m.2.2.2.1, m.2.2.2.2.1, m.2.2.2.2.2.1, ()) = some (lineGR m) := lineG_eq n hn m hm
    have h2 : F.expr_Metric n (m.1, m.2.1, m.2.2.1, m.2.2.2.1, m.2.2.2.2.1, m.2.2.2.2.2.1, ()) (3 : Int) = some (expM m 3) := expm_eq n hn m hm 3
    have h3 := backG10 n hn s (by omega)
    rw [h1, some_bind', h2]
    unfold lineGR
    by_cases h0 : expM m 3 = 0
    · rw [if_pos h0]
      have hb := backG_line hm h0
      have hle := lineG_le hm h0 hnl
      simp only [beq_self_eq_true, Bool.not_true, cond_false]
      rw [grParse_eq n hn _ (by omega), hb]
      have he := equal_eq n hn m m hm.2.1.1 hm.2.2.1
      rw [eqM_pos rfl] at he
      have he' : F.metric_Equal n (m.1, m.2.1, m.2.2.1, m.2.2.2.1, m.2.2.2.2.1, m.2.2.2.2.2.1, ()) (m.1, m.2.1, m.2.2.1, m.2.2.2.1, m.2.2.2.2.1, m.2.2.2.2.2.1, ()) = some true := he
      simp only [some_bind', he', beq_self_eq_true, Bool.and_self, Bool.not_true, cond_false]
      exact h3
    · rw [if_neg h0]
      have e0 : (expM m 3 == 0) = false := by simpa using h0
      simp only [e0, Bool.not_false, cond_true, beq_self_eq_true, Bool.not_true, cond_false, some_bind']
      exact h3
  · have h : smallB m = false := by simpa using h
    rw [h]; rfl
end Go.AM
set_option linter.unusedVariables false
set_option linter.unusedSimpArgs false
namespace Go.AM
theorem app_inj {c : UInt8} {a a' x y : List UInt8} (ha : c ∉ a) (ha' : c ∉ a') (h : a ++ c :: x = a' ++ c :: y) : a = a' ∧ x = y := by
  have h1 := congrArg (seg c) h
  rw [seg_app ha, seg_app ha'] at h1
  subst h1
  exact ⟨rfl, (List.cons.inj (List.append_cancel_left h)).2⟩
theorem count_free {a : List UInt8} (h : (32 : UInt8) ∉ a) : a.count 32 = 0 := List.count_eq_zero.2 h
theorem val_lt_more {a b : List UInt8} (hd : Digs (a ++ b)) (hb : b ≠ []) (h1 : 1 ≤ val a) : val a < val (a ++ b) := by
  rw [val_append]
  have hl : 0 < b.length := List.length_pos_iff.2 hb
  have : 10 ^ 1 ≤ 10 ^ b.length := Nat.pow_le_pow_right (by omega) hl
  have h2 : val a * 10 ≤ val a * 10 ^ b.length := Nat.mul_le_mul_left _ (by simpa using this)
  omega
theorem graphite_cut (n : Nat) (hn : 5000 ≤ n) (m : MetD) (left : Int) (s : List UInt8) (hw : MetWf m) (hl : m.2.2.2.2.1.length ≤ 140737488351232) : F.law12_GraphiteCut n m left s = some true := by
  unfold F.law12_GraphiteCut
  have hsm : F.law10_Small n (m.1, m.2.1, m.2.2.1, m.2.2.2.1, m.2.2.2.2.1, m.2.2.2.2.2.1, ()) = some (smallB m) := small_eq n hn m hl
  rw [hsm, some_bind', awake12 n hn]
  by_cases h : smallB m = true
  · obtain ⟨hm, hnl⟩ := small_ok hw h
    rw [h, Bool.not_true, cond_false]
    by_cases h6 : (s.length : Int) > 100
    · rw [bif_pos h6]; rfl
    rw [bif_neg h6]
    have h1 : F.graphite_Line n (m.1, m.2.1, m.2.2.1, m.2.2.2.1, m.2.2.2.2.1, m.2.2.2.2.2.1, ()) = some (lineGR m) := lineG_eq n hn m hm
    rw [h1, some_bind']
    unfold lineGR
    by_cases h0 : expM m 3 = 0
    · rw [if_pos h0]
      have hle := lineG_le hm h0 hnl
      simp only [beq_self_eq_true, Bool.not_true, cond_false]
      rw [bif_pos (by rw [strMax_eq]; omega), bif_pos (by rw [strMax_eq]; simp; omega), grParse_eq n hn _ (by simp; omega), some_bind']
      obtain ⟨nm, d, t, rfl, hnm, hd, t1, t2⟩ := saidG_facts h0
      have hdo : DecLOK d := hm.2.1.2 d (by simp)
      obtain ⟨neg, c, e, rfl, hc, he⟩ := decL_nat hdo
      have hd' : checkR neg c e = 0 := hd
      have hp := parse_text neg c hc e hd'
      have hvl : valL [(neg, (c : Int), e)] = textD neg c e := rfl
      have e1 : lineG (nm, 2, [(neg, (c : Int), e)], 1000000, [], t, ()) = nm ++ 32 :: (textD neg c e ++ 32 :: Lib.decDigits t.toNat) := by
        unfold lineG
        rw [hvl]; simp
      have hnf := nameG_free hnm
      have hvf := textD_free32 neg c e
      have htd := dd_digs t.toNat
      have htf := digs_free32 htd
      have htv : val (Lib.decDigits t.toNat) = t.toNat := dd_val _
      have hread := timeR_dd t1 t2
      generalize textD neg c e = V at *
      generalize Lib.decDigits t.toNat = T at *
      have p1 : grParse ((lineG (nm, 2, [(neg, (c : Int), e)], 1000000, [], t, ()) ++ [32]) ++ s) = badM 11 ((lineG (nm, 2, [(neg, (c : Int), e)], 1000000, [], t, ())).length : Int) := by
        have e2 : (lineG (nm, 2, [(neg, (c : Int), e)], 1000000, [], t, ()) ++ [32]) ++ s = nm ++ 32 :: (V ++ 32 :: (T ++ 32 :: s)) := by rw [e1]; simp
        rw [e2, gr_three hnf hvf, if_neg (by simp [hnm]), hp, if_neg (by simp)]
        unfold timeS
        rw [seg_app htf, hread, if_neg (show ¬ ¬ (numR t 0 0).2.1.1 = 0 from fun h => h rfl), if_pos (by simp), e1]
        congr 2
        simp
        omega
      rw [p1]
      simp only [beq_self_eq_true, Bool.and_self, Bool.not_true, cond_false]
      by_cases c1 : left < 0
      · rw [bif_pos c1]; rfl
      rw [bif_neg c1]
      by_cases c2 : left ≥ ((lineG (nm, 2, [(neg, (c : Int), e)], 1000000, [], t, ())).length : Int)
      · rw [bif_pos c2]; rfl
      rw [bif_neg c2]
      obtain ⟨q, rfl⟩ : ∃ q : Nat, left = q := ⟨left.toNat, by omega⟩
      rw [e1] at c2 hle ⊢
      generalize hL : nm ++ 32 :: (V ++ 32 :: T) = L at *
      have s1 : sub L (0 : Int) (q : Int) = some (L.take q) := by
        have := sub_nat L 0 q (by omega) (by omega)
        rw [List.drop_zero] at this
        exact this
      have s2 : sub L (q : Int) (L.length : Int) = some (L.drop q) := sub_tail (by omega)
      have hlen : (L.take q).length = q := by simp; omega
      have hdlen : (L.drop q).length = L.length - q := by simp
      have p3 : ∃ c a : Int, grParse ((L.take q ++ [32]) ++ L.drop q) = badM c a ∧ c ≠ 0 := by
        rcases gr_cases ((L.take q ++ [32]) ++ L.drop q) with ⟨c, a, e, hc, _⟩ | ⟨name, value, time, d, g0, _, g2, g3, g4, _⟩
        · exact ⟨c, a, e, hc⟩
        · exfalso
          have q1 : ((L.take q ++ [32]) ++ L.drop q).count 32 = 2 := by
            rw [g0, List.count_append, List.count_cons, List.count_append, List.count_cons, count_free g2, count_free g3, count_free g4]; rfl
          have q2 : L.count 32 = 2 := by
            rw [← hL, List.count_append, List.count_cons, List.count_append, List.count_cons, count_free hnf, count_free hvf, count_free htf]; rfl
          have q3 : L.count 32 = (L.take q).count 32 + (L.drop q).count 32 := by
            rw [← List.count_append, List.take_append_drop]
          rw [List.count_append, List.count_append] at q1
          have q4 : ([32] : List UInt8).count 32 = 1 := rfl
          omega
      obtain ⟨c', a', p3, hc'⟩ := p3
      have e3 : (c' == 0) = false := by simpa using hc'
      rw [s1, some_bind', grParse_eq n hn _ (by rw [hlen]; omega)]
      have fin : ((some (L.take q)).bind fun x11 => bif decide (x11.length + 1 ≤ strMax) then (sub L (q : Int) (L.length : Int)).bind fun x12 => bif decide (((x11 ++ ([32])).length) + x12.length ≤ strMax) then
                                  (F.graphite_Parse n ((x11 ++ ([32])) ++ x12)).bind fun y13 => bif !((y13.2.1.1 == (0 : Int)) && (y13.2.1.2.1 == (0 : Int))) then (some true).bind fun y14 => some (y14) else some (false)
                                else none else none) = some true := by
        rw [s2]
        simp only [some_bind']
        rw [bif_pos (by rw [strMax_eq, hlen]; omega), bif_pos (by rw [strMax_eq, List.length_append, hlen, hdlen]; simp; omega), grParse_eq n hn _ (by rw [List.length_append, List.length_append, hlen, hdlen]; simp; omega), p3]
        simp only [some_bind', e3, Bool.false_and, Bool.not_false, cond_true]
      rcases gr_cases (L.take q) with ⟨c2', a2, e, hc2, ha, hal⟩ | ⟨name, value, time, d2, g0, _, g2, g3, g4, g5, g6, e⟩
      · have e4 : (c2' == 0) = false := by simpa using hc2
        rw [hlen] at hal
        rw [e]
        simp only [some_bind', e4, Bool.false_and, Bool.not_false, cond_true, cond_false]
        rw [bif_neg (by omega)]
        exact fin
      · have hspl : L = name ++ 32 :: (value ++ 32 :: (time ++ L.drop q)) := by
          have := List.take_append_drop q L
          rw [g0] at this
          exact this.symm.trans (by simp)
        rw [← hL] at hspl
        obtain ⟨n1, n2⟩ := app_inj hnf g2 hspl
        obtain ⟨v1, v2⟩ := app_inj hvf g3 n2
        obtain ⟨b1, b2, b3, b4, b5, b6, b7⟩ := parse_back g6
        have hlt : val time < val T := by
          rw [hL] at v2
          rw [v2]
          refine val_lt_more (by rw [← v2]; exact htd) ?_ (by omega)
          intro hh
          have := congrArg List.length hh
          rw [hdlen] at this
          simp at this
          omega
        have hnlt : ¬ ((timeR time).1 ≥ t) := by rw [b2]; omega
        have hne : (name == nm) = true := by rw [n1]; simp
        rw [e]
        simp only [some_bind', beq_self_eq_true, Bool.and_self, Bool.not_true, cond_true, cond_false, hne]
        rw [bif_neg hnlt]
        exact fin
    · rw [if_neg h0]
      have e0 : (expM m 3 == 0) = false := by simpa using h0
      simp only [e0, Bool.not_false, cond_true, beq_self_eq_true]
      rfl
  · have h : smallB m = false := by simpa using h
    rw [h]; rfl
end Go.AM
namespace Go.Proofs.YtglkcdjgnmegmaaGreatDoor.graphiteCut
open Go.ChangeShapes Go.WideShapes Go.ChangeAt Go.RowKit Go.AM
theorem own : ownKnob Tryz.prog.godebug = none := by kernel_rfl
theorem goes : LawGoes Tryz.prog SI 5 [(.agg [.str, (.int .i64), (.sl (.agg [.bool, (.int .u64), (.int .i64)])), (.int .i64), (.sl (.agg [.str, .str])), (.int .i64)]), (.int .i64), .str] := fun x hx w vals hI hr =>
  ok5 _ ((x.1.1, x.1.2.1, x.1.2.2.1, x.1.2.2.2.1, x.1.2.2.2.2.1, x.1.2.2.2.2.2, ()), x.2.1, x.2.2.1, ()) true (graphite_cut 5000 (by omega) (x.1.1, x.1.2.1, x.1.2.2.1, x.1.2.2.2.1, x.1.2.2.2.2.1, x.1.2.2.2.2.2, ()) x.2.1 x.2.2.1 hx.1.2.2.1.2 hx.1.2.2.2.2.1.1) w (AllD w) vals (WOf.of hI) hr (fun b o h => h)
noncomputable def laidWorld (os : Os) : World := laidOf Tryz.prog os [layTab 6 Rows.laid_math_bits_deBruijn32tab, layTab 7 Rows.laid_math_bits_deBruijn64tab, layTab 1 Rows.laid_internal_strconv_uint64pow10, layTab 3 Rows.laid_unicode_utf8_acceptRanges, layErr 5 190 192 Rows.laid_strconv_ErrRange, layErr 4 190 192 Rows.laid_strconv_ErrSyntax, layTab 2 Rows.laid_unicode_utf8_first]
theorem laid_met (os : Os) (args : Array Value) : laidMet Tryz.prog Rows.graphiteCutRow.laid ((laidWorld os).forCall (fun _ _ => 0) ⟨#[], args, []⟩).memory :=
  (LaidIn.of_run [6, 7, 1, 3, 5, 4, 2, (World.holding Tryz.prog os ⟨#[], #[], []⟩).heap.size, (World.holding Tryz.prog os ⟨#[], #[], []⟩).heap.size + 1] 8 (by kernel_rfl) (by kernel_rfl) (by kernel_rfl) (by kernel_rfl)).met
theorem witness_row (os : Os) {H : Type} (enc : TypeId × Value → H) :
    (OpenSpec.ofChange Rows.graphiteCutSpec).preRow enc Tryz.prog Tryz.f5 Rows.graphiteCutRow.domain false Rows.graphiteCutRow.laid ((laidWorld os).forCall (fun _ _ => 0) ⟨#[], #[.agg #[.string .empty, .int .i64 0, .slice none 0 0, .int .i64 0, .slice none 0 0, .int .i64 0], .int .i64 0, .string .empty], []⟩).memory #[.agg #[.string .empty, .int .i64 0, .slice none 0 0, .int .i64 0, .slice none 0 0, .int .i64 0], .int .i64 0, .string .empty] := by
  have hw : (DataW.whole enc Tryz.prog ((laidWorld os).forCall (fun _ _ => 0) ⟨#[], #[.agg #[.string .empty, .int .i64 0, .slice none 0 0, .int .i64 0, .slice none 0 0, .int .i64 0], .int .i64 0, .string .empty], []⟩).memory Tryz.f5.params.toList Rows.graphiteCutSpec.vars false (#[.agg #[.string .empty, .int .i64 0, .slice none 0 0, .int .i64 0, .slice none 0 0, .int .i64 0], .int .i64 0, .string .empty] : Array Value).toList 8).map (fun x => (x.1, x.2.1)) =
      some ([.agg [.lit (.string []), .lit (.int .i64 0), .nil, .lit (.int .i64 0), .nil, .lit (.int .i64 0)], .lit (.int .i64 0), .lit (.string [])], []) := by kernel_rfl
  obtain ⟨⟨x1, x2, x3⟩, hx, hx1⟩ := Option.map_eq_some_iff.1 hw
  simp only [Prod.mk.injEq] at hx1
  obtain ⟨rfl, rfl⟩ := hx1
  exact OpenSpec.preRow_of_cond 8 hx (by kernel_rfl) (fun k hk => by cases hk) (by kernel_rfl) (laid_met os _)
set_option maxRecDepth 100000 in
theorem lifted (os : Os) (started : os.Started) (H : Type) (enc : TypeId × Value → H) (F : Stop.Interp) :
    ReturnsInHanded {} Tryz.checked os 5 .any ((OpenSpec.ofChange Rows.graphiteCutSpec).preRow enc Tryz.prog Tryz.f5 Rows.graphiteCutRow.domain false Rows.graphiteCutRow.laid) (((OpenSpec.ofChange Rows.graphiteCutSpec).at F).post enc Tryz.prog Tryz.f5 false true false false) := by
  refine returnsInHanded_of_row (C := Tryz.checked) (s := OpenSpec.ofChange Rows.graphiteCutSpec) own started (by kernel_rfl) Tryz.func5
    (witness_row_atRef (enc := enc) (C := Tryz.checked) false (laidWorld os) #[.agg #[.string .empty, .int .i64 0, .slice none 0 0, .int .i64 0, .slice none 0 0, .int .i64 0], .int .i64 0, .string .empty] rfl (by kernel_rfl) (by kernel_rfl) (by kernel_rfl) (witness_row os enc)) ?_
  intro W base args ds gs before hval hW _ _ hw hL hO _
  exact law_calls (s := Rows.graphiteCutSpec) (n := 8) (by kernel_rfl) Tryz.func5 (by kernel_rfl) (by decide) (by kernel_rfl) rfl Tryz.underlying4 rfl (fun ds h => by match ds, h with | [_, _, _], _ => rfl) goes hval hW hw ⟨hL, hO⟩
theorem said : Rows.GraphiteCutSaid :=
  OpenClaim.holds_of_cond 5 Tryz.f5 rfl rfl rfl rfl rfl rfl rfl ⟨rfl, rfl, rfl, rfl, rfl⟩ rfl rfl rfl rfl rfl (by kernel_rfl) Tryz.func5 (by kernel_rfl)
    (of_decide_eq_true (by kernel_rfl)) (by unfold Func.isWrapper; first | (rw [if_pos (by decide +kernel)]; kernel_rfl) | (rw [if_neg (by decide +kernel)]; exact ⟨rfl, rfl⟩))
    (fun os started H enc _ F => by rw [OpenClaim.pre_eq_preRow]; exact lifted os started H enc F)
theorem plain (f : FuncId) (fn : Func) (hf : Tryz.pinned.checked.prog.funcNamed "forebay/forebaylaw12.GraphiteCut" = some f) (hfn : Tryz.pinned.checked.prog.funcs[f]? = some fn) :
    true = Tryz.pinned.checked.prog.looks [] ∧ ∀ (j : Nat) t, fn.params[j]? = some t → Tryz.pinned.checked.prog.wantsStandIn t = false := by
  obtain rfl : f = 5 := Option.some.inj ((show Tryz.prog.funcNamed "forebay/forebaylaw12.GraphiteCut" = some 5 by kernel_rfl).symm.trans hf) |>.symm
  obtain rfl : fn = Tryz.f5 := (Option.some.inj (Tryz.func5.symm.trans hfn)).symm
  refine ⟨by kernel_rfl, fun j t ht => ?_⟩
  have hm : t ∈ ([25, 3, 9] : List TypeId) := by
    rw [Tryz.params5] at ht
    have := Array.mem_of_getElem? ht
    simpa using this
  have all : ∀ x ∈ ([25, 3, 9] : List TypeId), Tryz.prog.wantsStandIn x = false := fun x hx => by
    have h : ([25, 3, 9] : List TypeId).all (fun x => Tryz.prog.wantsStandIn x == false) = true := by kernel_rfl
    simpa using List.all_eq_true.1 h x hx
  exact all t hm
theorem proved : Rows.GraphiteCutCardSaid :=
  Claim7.holds_tied_plain_at .later [] _ _ _ _ said (fun _ h => by cases h) (by kernel_rfl) (fun _ h => by cases h) graphiteCut_row_tie rfl ⟨rfl, rfl⟩ (by kernel_rfl) rfl plain (by kernel_rfl)
end Go.Proofs.YtglkcdjgnmegmaaGreatDoor.graphiteCut
