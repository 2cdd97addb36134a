/- Zeros around a value, and behind a rate, and a rate of 1, turn nothing of what is parsed. -/
import Derived.Test.YtihjdbcmbpoifaaGreatDoorQ4
import Derived.Test.YtihjdbcmbpoifaaGreatDoorCards
import Derived.Test.YtihjdbcmbpoifaaGreatDoorTie
import Derived.OpenShut
import Derived.KernelRfl
set_option linter.unusedVariables false
set_option linter.unusedSimpArgs false
namespace Go.AM
theorem digits03_go (n : Nat) : ∀ (m u : Nat), u < 18446744073709551616 → Lib.nDigits u ≤ m → F.ref03_Digits.go n m (u : Int) = some (Lib.decDigits u) := by
  intro m
  induction m with
  | zero =>
    intro u _ h
    have := Lib.nDigits_pos u
    omega
  | succ m ih =>
    intro u hu h
    have one : ∀ d : Nat, d < 10 → sub ([48, 49, 50, 51, 52, 53, 54, 55, 56, 57] : List UInt8) (d : Int) ((d + 1 : Nat) : Int) = some [UInt8.ofNat (48 + d)] := by
      intro d hd
      rw [sub_nat _ _ _ (by omega) (by simp; omega)]
      have := (by decide : ∀ d : Fin 10, (([48, 49, 50, 51, 52, 53, 54, 55, 56, 57] : List UInt8).take (d.val + 1)).drop d.val = [UInt8.ofNat (48 + d.val)]) ⟨d, hd⟩
      rw [this]
    show (bif decide ((u : Int) < 10) then _ else _) = _
    by_cases h1 : u < 10
    · rw [bif_pos (by omega), show IntKind.wrap .u64 ((u : Int) + 1) = ((u + 1 : Nat) : Int) from by rw [IntWalk.u64_in _ (by omega)]; omega, one u h1, some_bind', dd_small h1]
    · rw [bif_neg (by omega)]
      have e1 : (u : Int).tdiv 10 = ((u / 10 : Nat) : Int) := rfl
      have e2 : (u : Int).tmod 10 = ((u % 10 : Nat) : Int) := rfl
      have hN := Lib.nDigits_big h1
      rw [e1, e2, IntWalk.u64_in _ (by omega), ih (u / 10) (by omega) (by omega), some_bind', show IntKind.wrap .u64 (((u % 10 : Nat) : Int) + 1) = ((u % 10 + 1 : Nat) : Int) from by rw [IntWalk.u64_in _ (by omega)]; omega, one (u % 10) (by omega), some_bind', dd_big h1, bif_pos]
      have := Lib.nDigits_le20 (u / 10) (by omega)
      rw [dd_length, strMax_eq]
      simp; omega
theorem digits03 (n : Nat) (hn : 20 ≤ n) (u : Nat) (hu : u < two64) : F.ref03_Digits n (u : Int) = some (Lib.decDigits u) := by
  unfold F.ref03_Digits
  exact digits03_go n n u hu (Nat.le_trans (Lib.nDigits_le20 u hu) hn)
def lz (d : List UInt8) : List UInt8 := d.dropWhile (· == 48)
theorem lz_rep (d : List UInt8) : d = List.replicate (d.length - (lz d).length) 48 ++ lz d := by
  induction d with
  | nil => rfl
  | cons b d ih =>
    unfold lz at ih ⊢
    by_cases h : b = 48
    · subst h
      have e : ((48 : UInt8) :: d).dropWhile (· == 48) = d.dropWhile (· == 48) := by simp [List.dropWhile_cons]
      have hl : (d.dropWhile (· == 48)).length ≤ d.length := (List.dropWhile_sublist _).length_le
      rw [e, List.length_cons, show d.length + 1 - (d.dropWhile (· == 48)).length = (d.length - (d.dropWhile (· == 48)).length) + 1 from by omega, List.replicate_succ, List.cons_append, ← ih]
    · have e : (b :: d).dropWhile (· == 48) = b :: d := by simp [List.dropWhile_cons, h]
      rw [e]
      simp
theorem lz_head {d : List UInt8} {x : UInt8} (h : (lz d).head? = some x) : x ≠ 48 := by
  have := List.head?_dropWhile_not (p := fun b : UInt8 => b == 48) (l := d)
  unfold lz at h
  rw [h] at this
  simpa using this
theorem lz_val (d : List UInt8) : val (lz d) = val d := by
  conv => rhs; rw [lz_rep d]
  rw [val_zeros_left]
theorem lz_digs {d : List UInt8} (h : Digs d) : Digs (lz d) := by
  rw [lz_rep d, digs_append] at h
  exact h.2
theorem lz_le (d : List UInt8) : (lz d).length ≤ d.length := (List.dropWhile_sublist _).length_le
theorem u8_48 (x : UInt8) : ((x.toNat : Int) == 48) = decide (x = 48) := by
  by_cases h : x = 48
  · subst h; rfl
  · have : ¬ (x.toNat : Int) = 48 := fun hh => h (u8_ext (by simp; omega))
    rw [beq_eq_false_iff_ne.2 this, decide_eq_false h]
theorem lead_loop (n : Nat) (X : Type) (k0 : Bool → (List UInt8) → Int → Bool → Int → Int → Option X) (neg b : Bool) (e x y : Int) : ∀ (d : List UInt8) (m : Nat), d.length < m → d.length < 4611686018427387904 → F.ref03_Make.L1 n k0 m neg d e b x y = k0 neg (lz d) e b x y := by
  intro d
  induction d with
  | nil =>
    intro m hm _
    obtain ⟨m, rfl⟩ : ∃ q, m = q + 1 := ⟨m - 1, by omega⟩
    rfl
  | cons c d ih =>
    intro m hm hl
    obtain ⟨m, rfl⟩ : ∃ q, m = q + 1 := ⟨m - 1, by omega⟩
    show F.ref03_Make.L1.step n (F.ref03_Make.L1 n k0 m) k0 neg (c :: d) e b x y = _
    unfold F.ref03_Make.L1.step
    have ei : idx (c :: d) (0 : Int) = some c := rfl
    rw [bif_pos (by simp), ei, some_bind', u8_48]
    have hsub : sub (c :: d) 1 (((c :: d).length : Nat) : Int) = some d := by
      have := sub_nat (c :: d) 1 (c :: d).length (by simp) (by simp)
      rw [List.take_length] at this
      exact this
    by_cases h : c = 48
    · subst h
      rw [decide_eq_true rfl, cond_true, hsub, some_bind', ih m (by simp at hm; omega) (by simp at hl; omega)]
      congr 1
    · rw [decide_eq_false h, cond_false]
      unfold lz
      have e' : (c :: d).dropWhile (· == 48) = c :: d := by simp [List.dropWhile_cons, h]
      rw [e']
theorem last_rep (a : List UInt8) (j : Nat) : idx (a ++ List.replicate (j + 1) (48 : UInt8)) (((a ++ List.replicate (j + 1) (48 : UInt8)).length : Int) - 1) = some 48 ∧ sub (a ++ List.replicate (j + 1) (48 : UInt8)) 0 (((a ++ List.replicate (j + 1) (48 : UInt8)).length : Int) - 1) = some (a ++ List.replicate j 48) := by
  rw [List.replicate_succ', ← List.append_assoc]
  have hlen : (a ++ List.replicate j (48 : UInt8) ++ [48]).length = a.length + j + 1 := by simp; omega
  refine ⟨?_, ?_⟩
  · rw [idx_pred (by omega), ← List.getLast?_eq_getElem?]; simp
  · have := sub_nat (a ++ List.replicate j (48 : UInt8) ++ [48]) 0 (a.length + j) (by omega) (by rw [hlen]; omega)
    rw [hlen, show (((a.length + j + 1 : Nat) : Int) - 1) = ((a.length + j : Nat) : Int) from by omega]
    refine this.trans ?_
    rw [List.drop_zero, List.take_append_of_le_length (by simp), List.take_of_length_le (by simp)]
theorem last_not {a : List UInt8} (ha : a ≠ []) (hl : ∀ x, a.getLast? = some x → x ≠ 48) : ∃ x, idx a ((a.length : Int) - 1) = some x ∧ x ≠ 48 := by
  have hp : 0 < a.length := List.length_pos_iff.2 ha
  rw [idx_pred hp, ← List.getLast?_eq_getElem?]
  cases e : a.getLast? with
  | none => simp at e; exact absurd e ha
  | some x => exact ⟨x, rfl, hl x e⟩
theorem trail_loop (n : Nat) (X : Type) (k2 : Bool → (List UInt8) → Int → Bool → Int → Int → Option X) (neg b : Bool) (x y : Int) (a : List UInt8) (ha : a ≠ []) (hl : ∀ x, a.getLast? = some x → x ≠ 48) (hal : a.length ≤ 100000) : ∀ (z m : Nat) (e : Int), z < m → z ≤ 100000 → -2000000 ≤ e → e ≤ 2000 →
    ∃ j, j ≤ z ∧ F.ref03_Make.L7 n k2 m neg (a ++ List.replicate z 48) e b x y = k2 neg (a ++ List.replicate j 48) (e + z - j) b x y ∧ (j = 0 ∨ 18 ≤ e + z - j) ∧ (e + z - j ≤ 18 ∨ j = z) := by
  intro z
  induction z with
  | zero =>
    intro m e hm hz he1 he2
    obtain ⟨m, rfl⟩ : ∃ q, m = q + 1 := ⟨m - 1, by omega⟩
    refine ⟨0, Nat.le_refl _, ?_, Or.inl rfl, Or.inr rfl⟩
    show F.ref03_Make.L7.step n _ k2 _ _ _ _ _ _ = _
    unfold F.ref03_Make.L7.step
    obtain ⟨c, c1, c2⟩ := last_not ha hl
    have hp : 0 < a.length := List.length_pos_iff.2 ha
    have hw : IntKind.wrap .i64 ((a.length : Int) - 1) = (a.length : Int) - 1 := wrap_in (by omega)
    rw [List.replicate_zero, List.append_nil, hw, c1, some_bind', u8_48, decide_eq_false c2, cond_false, show e + ((0 : Nat) : Int) - ((0 : Nat) : Int) = e from by omega]
    cases decide (e < 18) <;> rfl
  | succ z ih =>
    intro m e hm hz he1 he2
    obtain ⟨m, rfl⟩ : ∃ q, m = q + 1 := ⟨m - 1, by omega⟩
    have hstep : F.ref03_Make.L7 n k2 (m + 1) neg (a ++ List.replicate (z + 1) 48) e b x y = F.ref03_Make.L7.step n (F.ref03_Make.L7 n k2 m) k2 neg (a ++ List.replicate (z + 1) 48) e b x y := rfl
    rw [hstep]
    unfold F.ref03_Make.L7.step
    by_cases h18 : e < 18
    · obtain ⟨l1, l2⟩ := last_rep a z
      have hlen : (a ++ List.replicate (z + 1) (48 : UInt8)).length = a.length + z + 1 := by simp; omega
      have hw : IntKind.wrap .i64 (((a ++ List.replicate (z + 1) (48 : UInt8)).length : Int) - 1) = ((a ++ List.replicate (z + 1) (48 : UInt8)).length : Int) - 1 := wrap_in (by omega)
      rw [bif_pos h18, hw, l1, some_bind', u8_48, decide_eq_true rfl, cond_true, l2, some_bind', wrap_in (by omega)]
      obtain ⟨j, j1, j2, j3, j4⟩ := ih m (e + 1) (by omega) (by omega) (by omega) (by omega)
      refine ⟨j, by omega, ?_, ?_, ?_⟩
      · rw [j2]
        congr 1
        omega
      · rcases j3 with j3 | j3
        · exact Or.inl j3
        · exact Or.inr (by omega)
      · exact Or.inl (by omega)
    · rw [bif_neg h18]
      refine ⟨z + 1, Nat.le_refl _, ?_, Or.inr (by omega), Or.inr rfl⟩
      congr 1
      omega
theorem pad_loop (n : Nat) (X : Type) (k4 : Bool → (List UInt8) → Int → Bool → Int → Int → Option X) (neg b : Bool) (x y : Int) : ∀ (d m : Nat) (a : List UInt8), d < m → a.length + d ≤ 1000000 → F.ref03_Make.L10 n k4 m neg a (18 + (d : Int)) b x y = k4 neg (a ++ List.replicate d 48) 18 b x y := by
  intro d
  induction d with
  | zero =>
    intro m a hm hl
    obtain ⟨m, rfl⟩ : ∃ q, m = q + 1 := ⟨m - 1, by omega⟩
    show F.ref03_Make.L10.step n _ k4 _ _ _ _ _ _ = _
    unfold F.ref03_Make.L10.step
    rw [bif_neg (by omega), List.replicate_zero, List.append_nil]
    rfl
  | succ d ih =>
    intro m a hm hl
    obtain ⟨m, rfl⟩ : ∃ q, m = q + 1 := ⟨m - 1, by omega⟩
    show F.ref03_Make.L10.step n (F.ref03_Make.L10 n k4 m) k4 _ _ _ _ _ _ = _
    unfold F.ref03_Make.L10.step
    rw [bif_pos (by omega), bif_pos (by rw [strMax_eq]; omega), wrap_in (by omega), show 18 + ((d + 1 : Nat) : Int) - 1 = 18 + (d : Int) from by omega, ih m _ (by omega) (by simp; omega), List.append_assoc, List.replicate_succ]
    rfl
theorem pad_no (n : Nat) (X : Type) (k4 : Bool → (List UInt8) → Int → Bool → Int → Int → Option X) (neg b : Bool) (x y : Int) (m : Nat) (hm : 0 < m) (a : List UInt8) (E : Int) (h : ¬ E > 18) : F.ref03_Make.L10 n k4 m neg a E b x y = k4 neg a E b x y := by
  obtain ⟨m, rfl⟩ : ∃ q, m = q + 1 := ⟨m - 1, by omega⟩
  show F.ref03_Make.L10.step n (F.ref03_Make.L10 n k4 m) k4 _ _ _ _ _ _ = _
  unfold F.ref03_Make.L10.step
  rw [bif_neg h]
theorem val_ge {d : List UInt8} (hd : Digs d) (hne : d ≠ []) (hh : ∀ x, d.head? = some x → x ≠ 48) : 10 ^ (d.length - 1) ≤ val d := by
  cases d with
  | nil => exact absurd rfl hne
  | cons b d =>
    obtain ⟨h1, h2⟩ := digs_cons.1 hd
    have h0 : dv b ≠ 0 := fun h0 => hh b rfl (dv_inj h1 (b := 48) rfl h0)
    rw [val_cons]
    have := Nat.le_mul_of_pos_left (10 ^ d.length) (show 0 < dv b by omega)
    simp
    omega
theorem fits_eq (n : Nat) {d : List UInt8} (hd : Digs d) (hne : d ≠ []) (hh : ∀ x, d.head? = some x → x ≠ 48) : F.ref03_Fits n d = some (decide (val d < two64)) := by
  unfold F.ref03_Fits
  have hlt := val_lt hd
  have hge := val_ge hd hne hh
  have hp : 0 < d.length := List.length_pos_iff.2 hne
  rw [two64_eq]
  by_cases h1 : d.length < 20
  · have : 10 ^ d.length ≤ 10 ^ 19 := Nat.pow_le_pow_right (by omega) (by omega)
    have h2 : val d < 18446744073709551616 := by omega
    rw [bif_pos (by omega), decide_eq_true h2]
  rw [bif_neg (by omega)]
  by_cases h2 : d.length = 20
  · have e : ((d.length : Int) == 20) = true := by rw [h2]; rfl
    rw [e, cond_true]
    have hm : Digs [49, 56, 52, 52, 54, 55, 52, 52, 48, 55, 51, 55, 48, 57, 53, 53, 49, 54, 49, 53] := rfl
    have hv : val [49, 56, 52, 52, 54, 55, 52, 52, 48, 55, 51, 55, 48, 57, 53, 53, 49, 54, 49, 53] = 18446744073709551615 := rfl
    rw [less_val hd hm h2, hv]
    congr 1
    by_cases h3 : val d < 18446744073709551615
    · simp [h3]; omega
    · by_cases h4 : val d = 18446744073709551615
      · have : d = [49, 56, 52, 52, 54, 55, 52, 52, 48, 55, 51, 55, 48, 57, 53, 53, 49, 54, 49, 53] := val_inj hd hm h2 (h4.trans hv.symm)
        rw [decide_eq_false h3, this, beq_self_eq_true, hv]
        rfl
      · have hne' : ¬ d = [49, 56, 52, 52, 54, 55, 52, 52, 48, 55, 51, 55, 48, 57, 53, 53, 49, 54, 49, 53] := fun hh => h4 (by rw [hh]; exact hv)
        rw [decide_eq_false h3, beq_eq_false_iff_ne.2 hne', decide_eq_false (show ¬ val d < 18446744073709551616 by omega)]
        rfl
  · have e : ((d.length : Int) == 20) = false := by
      have : ¬ (d.length : Int) = 20 := by omega
      simpa using this
    have : 10 ^ 20 ≤ 10 ^ (d.length - 1) := Nat.pow_le_pow_right (by omega) (by omega)
    rw [e, cond_false, decide_eq_false (by omega)]
theorem value03_loop (n : Nat) (X : Type) (k0 : Int → Option X) (s : List UInt8) (hs : s.length < 4611686018427387904) (hv : val s < two64) : ∀ (r : List UInt8) (k m : Nat), s.drop k = r → r.length < m → Digs r →
    F.ref03_Value.L3 n k0 m s (val (s.take k) : Int) (k : Int) = k0 (val s) := by
  intro r
  induction r with
  | nil =>
    intro k m hk hm hd
    have hk := drop_nil' hk
    obtain ⟨m, rfl⟩ : ∃ q, m = q + 1 := ⟨m - 1, by omega⟩
    show F.ref03_Value.L3.step n _ k0 s _ k = _
    unfold F.ref03_Value.L3.step
    rw [bif_neg (by omega), List.take_of_length_le hk]
  | cons x r ih =>
    intro k m hk hm hd
    obtain ⟨h1, h2, h3⟩ := drop_cons hk
    obtain ⟨d1, d2⟩ := digs_cons.1 hd
    have hx := isDig_iff.1 d1
    obtain ⟨m, rfl⟩ : ∃ q, m = q + 1 := ⟨m - 1, by omega⟩
    show F.ref03_Value.L3.step n (F.ref03_Value.L3 n k0 m) k0 s _ k = _
    unfold F.ref03_Value.L3.step
    have htk : s.take (k + 1) = s.take k ++ [x] := by rw [List.take_add_one, h2]; rfl
    have hvk : val (s.take (k + 1)) = val (s.take k) * 10 + dv x := by rw [htk, val_snoc]
    have hsv : val (s.take (k + 1)) ≤ val s := by
      have e : s = s.take (k + 1) ++ s.drop (k + 1) := (List.take_append_drop _ _).symm
      have h5 : val s = val (s.take (k + 1)) * 10 ^ (s.drop (k + 1)).length + val (s.drop (k + 1)) := by
        conv => lhs; rw [e]
        rw [val_append]
      have := Nat.le_mul_of_pos_right (val (s.take (k + 1))) (Nat.pow_pos (n := (s.drop (k + 1)).length) (show 0 < 10 by omega))
      omega
    have hdl := dv_lt d1
    rw [two64_eq] at hv
    have hdx : IntKind.wrap .u64 (IntKind.wrap .u8 ((x.toNat : Int) - 48)) = (dv x : Int) := by
      have h8 : IntKind.wrap .u8 ((x.toNat : Int) - 48) = (x.toNat : Int) - 48 := IntWalk.u8_in _ (by omega)
      rw [h8, IntWalk.u64_in _ (by omega)]; unfold dv; omega
    rw [bif_pos (by omega), idx_nat, h2, some_bind', hdx, IntWalk.u64_in (10 * (val (s.take k) : Int)) (by omega), IntWalk.u64_in _ (by omega), wrap_succ (by omega), show 10 * (val (s.take k) : Int) + (dv x : Int) = (val (s.take (k + 1)) : Int) from by omega]
    exact ih (k + 1) m h3 (by simp at hm; omega) d2
theorem value03 (n : Nat) (s : List UInt8) (hs : s.length < 4611686018427387904) (hn : s.length < n) (hd : Digs s) (hv : val s < two64) : F.ref03_Value n s = some (val s : Int) :=
  value03_loop n _ _ s hs hv s 0 n rfl hn hd
theorem make_eq (n : Nat) (hn : 5000 ≤ n) (neg : Bool) (d : List UInt8) (hd : Digs d) (hl : d.length ≤ 1000) (e : Int) : F.ref03_Make n neg d e = some ((valR neg d e).1, (valR neg d e).2.1 == 0, ()) := by
  unfold F.ref03_Make
  rw [lead_loop n _ _ neg false e 0 0 d n (by omega) (by omega)]
  have hlz := lz_le d
  by_cases h0 : val d = 0
  · have : lz d = [] := by
      refine Classical.byContradiction fun hne => ?_
      have := val_ge (lz_digs hd) hne (fun x => lz_head)
      rw [lz_val, h0] at this
      have := Nat.pow_pos (n := (lz d).length - 1) (show 0 < 10 by omega)
      omega
    unfold valR
    rw [if_pos h0, this]
    rfl
  have hne : lz d ≠ [] := fun hh => by have := lz_val d; rw [hh] at this; exact h0 this.symm
  have e0 : (lz d == []) = false := by simpa using hne
  simp only [e0, cond_false]
  have hD := lz_digs hd
  have hv0 : val (lz d) ≠ 0 := by rw [lz_val]; exact h0
  have hcore := core_trz hD hv0
  have hvt := val_trz (lz d)
  generalize hzz : (lz d).length - (trz (lz d)).length = z at hvt
  have hR : valR neg d e = normR neg (val (trz (lz d))) (e + z) := valR_core hd hcore (by rw [← lz_val]; exact hvt) neg e
  rw [hR]
  have hc0 : 0 < val (trz (lz d)) := by omega
  have hnot : ∀ w, 20 ≤ w → ¬ val (trz (lz d)) * 10 ^ w < two64 := by
    intro w hw
    have h1 : 10 ^ 20 ≤ 10 ^ w := Nat.pow_le_pow_right (by omega) hw
    have h2 := Nat.le_mul_of_pos_left (10 ^ w) hc0
    rw [two64_eq]
    omega
  by_cases hbig : e > 1000
  · rw [bif_pos hbig]
    unfold normR
    rw [if_neg (by omega), if_neg (hnot _ (by omega))]
    rfl
  rw [bif_neg hbig]
  by_cases hlow : e < -1000000
  · rw [bif_pos hlow]
    unfold normR
    rw [if_pos (by omega)]
    rfl
  rw [bif_neg hlow]
  have hpad := trz_pad (lz d)
  rw [hzz] at hpad
  have hne' : trz (lz d) ≠ [] := fun hh => hv0 ((trz_nil hD).1 hh)
  have htl := trz_le (lz d)
  have hhead : ∀ (k : Nat) x, (trz (lz d) ++ List.replicate k 48).head? = some x → x ≠ 48 := by
    intro k x hx
    cases e : trz (lz d) with
    | nil => exact absurd e hne'
    | cons b r =>
      rw [e] at hx
      have hb : b = x := by simpa using hx
      refine lz_head (d := d) ?_
      rw [hpad, e, ← hb]; rfl
  have fin : ∀ (k : Nat) (E : Int), k ≤ 3000 →
      (bif decide (E < (-18 : Int)) then some (((false, (0 : Int), (0 : Int), ()), false, ()))
                else
                  (F.ref03_Fits n (trz (lz d) ++ List.replicate k 48)).bind fun y8 =>
                    bif !y8 then
                      some (((false, (0 : Int), (0 : Int), ()), false, ()))
                    else
                      (F.ref03_Value n (trz (lz d) ++ List.replicate k 48)).bind fun y9 =>
                        some (((neg, y9, E, ()), true, ())))
      = some (if E < -18 then ((false, (0 : Int), (0 : Int), ()), false, ()) else if val (trz (lz d)) * 10 ^ k < two64 then ((neg, ((val (trz (lz d)) * 10 ^ k : Nat) : Int), E, ()), true, ()) else ((false, (0 : Int), (0 : Int), ()), false, ())) := by
    intro k E hk
    by_cases hE : E < -18
    · rw [bif_pos hE, if_pos hE]
    · rw [bif_neg hE, if_neg hE]
      have hdk : Digs (trz (lz d) ++ List.replicate k 48) := digs_append.2 ⟨trz_digs hD, digs_rep _⟩
      have hlk : (trz (lz d) ++ List.replicate k (48 : UInt8)).length = (trz (lz d)).length + k := by simp
      rw [fits_eq n hdk (by simp [hne']) (hhead k), some_bind', val_zeros_right]
      by_cases hf : val (trz (lz d)) * 10 ^ k < two64
      · rw [decide_eq_true hf, if_pos hf, value03 n _ (by omega) (by omega) hdk (by rw [val_zeros_right]; exact hf), some_bind', val_zeros_right]
        rfl
      · rw [decide_eq_false hf, if_neg hf]; rfl
  obtain ⟨j, j1, j2, j3, j4⟩ := trail_loop n (DecD × Bool × Unit) (fun e6_0 e6_1 e6_2 e6_b0_0 e6_b0_1 e6_b0_2 =>
            F.ref03_Make.L10 n
              (fun e7_0 e7_1 e7_2 e7_b0_0 e7_b0_1 e7_b0_2 =>
                bif decide (e7_2 < (-18 : Int)) then
                  some (((false, (0 : Int), (0 : Int), ()), false, ()))
                else
                  (F.ref03_Fits n e7_1).bind fun y8 =>
                    bif !y8 then
                      some (((false, (0 : Int), (0 : Int), ()), false, ()))
                    else
                      (F.ref03_Value n e7_1).bind fun y9 =>
                        some (((e7_0, y9, e7_2, ()), true, ()))) n e6_0 e6_1 e6_2 e6_b0_0 e6_b0_1 e6_b0_2) neg false 0 0 (trz (lz d)) hne' (fun x => trz_last) (by omega) z n e (by omega) (by omega) (by omega) (by omega)
  rw [← hpad] at j2
  refine j2.trans ?_
  unfold normR
  by_cases hE : e + z - j > 18
  · obtain ⟨q, hq⟩ : ∃ q : Nat, e + z - j = 18 + (q : Int) := ⟨(e + z - j - 18).toNat, by omega⟩
    rw [hq, pad_loop n _ _ neg false 0 0 q n _ (by omega) (by simp; omega), List.append_assoc, List.replicate_append_replicate, fin (j + q) 18 (by omega), if_neg (by omega), if_neg (show ¬ e + (z : Int) < -18 by omega), show (e + z - 18).toNat = j + q from by omega]
    by_cases hf : val (trz (lz d)) * 10 ^ (j + q) < two64
    · rw [if_pos hf, if_pos hf, if_neg (by omega)]; rfl
    · rw [if_neg hf, if_neg hf]; rfl
  · rw [pad_no n _ _ neg false 0 0 n (by omega) _ _ hE, fin j _ (by omega)]
    by_cases h18 : e + z < -18
    · rw [if_pos (by omega), if_pos h18]; rfl
    · rw [if_neg (by omega), if_neg h18, show (e + z - 18).toNat = j from by omega]
      by_cases hf : val (trz (lz d)) * 10 ^ j < two64
      · rw [if_pos hf, if_pos hf]
        congr 4
        by_cases hh : e + z ≤ 18
        · rw [if_pos hh]
          have : j = 0 ∨ e + z = 18 := by omega
          congr 1
          omega
        · rw [if_neg hh]
          congr 1
          omega
      · rw [if_neg hf, if_neg hf]; rfl
end Go.AM
set_option linter.unusedVariables false
set_option linter.unusedSimpArgs false
namespace Go.AM
abbrev FaultR := Int × Int × Unit
abbrev ParseR := DecD × FaultR × Unit
theorem headOr {s : List UInt8} {c : UInt8} : (s.head? = some c) ∨ ¬ (s.head? = some c) := Classical.em _
theorem hasPrefix_one (n : Nat) (s : List UInt8) (c : UInt8) : F.strings_HasPrefix n s [c] = some (decide (s.head? = some c)) := by
  unfold F.strings_HasPrefix F.stringslite_HasPrefix
  cases s with
  | nil => rfl
  | cons b s =>
    have e : sub (b :: s) (0 : Int) ((([c] : List UInt8).length : Nat) : Int) = some [b] := sub_nat (b :: s) 0 1 (by omega) (by simp)
    rw [bif_pos (by simp; omega), e, some_bind', some_bind']
    by_cases h : b = c
    · subst h; simp
    · simp [h]
def tw (s : List UInt8) : List UInt8 := s.takeWhile isDig
theorem tw_digs (s : List UInt8) : Digs (tw s) := List.all_takeWhile
theorem tw_split (s : List UInt8) : s = tw s ++ s.drop (tw s).length := by
  induction s with
  | nil => rfl
  | cons b s ih =>
    unfold tw at ih ⊢
    by_cases h : isDig b = true
    · simp only [List.takeWhile_cons, h, if_true, List.length_cons, List.drop_succ_cons, List.cons_append]
      rw [← ih]
    · simp [List.takeWhile_cons, h]
theorem tw_le (s : List UInt8) : (tw s).length ≤ s.length := (List.takeWhile_sublist _).length_le
theorem tw_stop (s : List UInt8) {x : UInt8} (h : (s.drop (tw s).length).head? = some x) : isDig x = false := by
  induction s with
  | nil => simp at h
  | cons b s ih =>
    unfold tw at ih h
    by_cases hb : isDig b = true
    · simp only [List.takeWhile_cons, hb, if_true, List.length_cons, List.drop_succ_cons] at h
      exact ih h
    · simp only [List.takeWhile_cons, hb, if_false] at h
      have : b = x := by simpa using h
      rw [← this]; simpa using hb
theorem tw_append {a t : List UInt8} (ha : Digs a) (ht : ∀ x, t.head? = some x → isDig x = false) : tw (a ++ t) = a := by
  induction a with
  | nil =>
    cases t with
    | nil => rfl
    | cons x t =>
      have := ht x rfl
      simp [tw, List.takeWhile_cons, this]
  | cons b a ih =>
    obtain ⟨h1, h2⟩ := digs_cons.1 ha
    have := ih h2
    unfold tw at this ⊢
    simp [List.takeWhile_cons, h1, this]
theorem digits_loop (n : Nat) (X : Type) (k0 : Int → (List UInt8) → Int → Int → Int → Option X) (v3 b0 b1 : Int) (s : List UInt8) (hs : s.length < 4611686018427387904) : ∀ (r : List UInt8) (k m : Nat), s.drop k = r → k ≤ s.length → r.length < m →
    F.dec_look.L2_dec_look_1 n k0 m v3 s b0 b1 (k : Int) = k0 v3 s b0 b1 ((k + (tw r).length : Nat) : Int) := by
  intro r
  induction r with
  | nil =>
    intro k m hk hkl hm
    have := drop_nil' hk
    obtain ⟨m, rfl⟩ : ∃ q, m = q + 1 := ⟨m - 1, by omega⟩
    show F.dec_look.L2_dec_look_1.step n _ k0 _ _ _ _ _ = _
    unfold F.dec_look.L2_dec_look_1.step
    rw [bif_neg (by omega)]
    rfl
  | cons x r ih =>
    intro k m hk hkl hm
    obtain ⟨h1, h2, h3⟩ := drop_cons hk
    obtain ⟨m, rfl⟩ : ∃ q, m = q + 1 := ⟨m - 1, by omega⟩
    show F.dec_look.L2_dec_look_1.step n (F.dec_look.L2_dec_look_1 n k0 m) k0 _ _ _ _ _ = _
    unfold F.dec_look.L2_dec_look_1.step
    rw [bif_pos (by omega), idx_nat, h2, some_bind', some_bind']
    unfold tw at ih ⊢
    by_cases hd : isDig x = true
    · have hx := isDig_iff.1 hd
      rw [bif_pos (by omega), bif_pos (by omega), wrap_succ (by omega), ih (k + 1) m h3 (by omega) (by simp at hm; omega)]
      simp only [List.takeWhile_cons, hd, if_true, List.length_cons]
      congr 2
      omega
    · simp only [List.takeWhile_cons, hd, if_false]
      by_cases h48 : 48 ≤ x.toNat
      · have : ¬ x.toNat ≤ 57 := fun h => hd (isDig_iff.2 ⟨h48, h⟩)
        rw [bif_pos (by omega), bif_neg (by omega)]
        rfl
      · rw [bif_neg (by omega)]
        rfl
def p0 (s : List UInt8) : Nat := if s.head? = some 45 then 1 else 0
def p1q (q : Nat) (s : List UInt8) : Nat := q + (tw (s.drop q)).length
def p3q (q : Nat) (s : List UInt8) : Nat := p1q q s + 1 + (tw (s.drop (p1q q s + 1))).length
theorem p0_le (s : List UInt8) : p0 s ≤ s.length := by
  unfold p0
  cases s with
  | nil => simp
  | cons b s => split <;> simp
theorem p1_le {q : Nat} {s : List UInt8} (hq : q ≤ s.length) : p1q q s ≤ s.length := by
  have h2 := tw_le (s.drop q)
  simp at h2
  unfold p1q
  omega
theorem drop_lt {s : List UInt8} {k : Nat} {x : UInt8} (h : (s.drop k).head? = some x) : k < s.length := by
  cases e : s.drop k with
  | nil => rw [e] at h; simp at h
  | cons b r =>
    have := congrArg List.length e
    simp at this
    omega
theorem p3_le {q : Nat} {s : List UInt8} (h : (s.drop (p1q q s)).head? = some 46) : p3q q s ≤ s.length := by
  have h1 := drop_lt h
  have h2 := tw_le (s.drop (p1q q s + 1))
  simp at h2
  unfold p3q
  omega
def endR (right : Prop) [Decidable right] (at' : Nat) (len : Nat) : FaultR :=
  if right ∧ at' = len then (0, 0, ()) else if at' = len then (11, (at' : Int), ()) else (14, (at' : Int), ())
def lookQ (q : Nat) (s : List UInt8) : FaultR :=
  if q < p1q q s ∧ (s.drop (p1q q s)).head? = some 46 then endR (p1q q s + 1 < p3q q s) (p3q q s) s.length else endR (q < p1q q s) (p1q q s) s.length
def lookR (s : List UInt8) : FaultR := lookQ (p0 s) s
theorem end_eq (a b : Nat) (at' len : Nat) : (bif decide ((at' : Int) > (a : Int)) then
      bif (at' : Int) == (len : Int) then some (((0 : Int), (0 : Int), ())) else bif (at' : Int) == (len : Int) then some (((11 : Int), (at' : Int), ())) else some (((14 : Int), (at' : Int), ()))
    else bif (at' : Int) == (len : Int) then some (((11 : Int), (at' : Int), ())) else some (((14 : Int), (at' : Int), ()))) = some (endR (a < at') at' len) := by
  unfold endR
  by_cases h1 : at' = len
  · have e : ((at' : Int) == (len : Int)) = true := by simp [h1]
    rw [e]
    by_cases h2 : a < at'
    · rw [bif_pos (by omega), if_pos ⟨h2, h1⟩]; rfl
    · rw [bif_neg (by omega), if_neg (fun h => h2 h.1), if_pos h1]; rfl
  · have e : ((at' : Int) == (len : Int)) = false := by
      have : ¬ (at' : Int) = (len : Int) := by omega
      simpa using this
    rw [e, if_neg (fun h => h1 h.2), if_neg h1]
    simp only [cond_false]
    cases decide ((at' : Int) > (a : Int)) <;> rfl
theorem look_tail (n : Nat) (s : List UInt8) (hs : s.length < 4000000000000000000) (hn : s.length < n) (q : Nat) (hq : q ≤ s.length) :
    F.dec_look.L2_dec_look_1 n
        (fun e4_3 e4_b0_0 e4_b1_0 e4_b1_1 e4_b2_0 =>
          bif decide (e4_b2_0 > e4_3) then
            (sub e4_b0_0 e4_b2_0 (e4_b0_0.length : Int)).bind fun x5 =>
              (F.strings_HasPrefix n x5 ([46])).bind fun y6 =>
                bif y6 then
                  F.dec_look.L2_dec_look_1 n
                    (fun e7_3 e7_b0_0 e7_b1_0 e7_b1_1 e7_b2_0 =>
                      bif decide (e7_b2_0 > e7_3) then
                        bif e7_b2_0 == (e7_b0_0.length : Int) then
                          some (((0 : Int), (0 : Int), ()))
                        else
                        bif e7_b2_0 == (e7_b0_0.length : Int) then
                          some (((11 : Int), e7_b2_0, ()))
                        else
                          some (((14 : Int), e7_b2_0, ()))
                      else
                      bif e7_b2_0 == (e7_b0_0.length : Int) then
                        some (((11 : Int), e7_b2_0, ()))
                      else
                        some (((14 : Int), e7_b2_0, ()))) n (IntKind.wrap .i64 (e4_b2_0 + (1 : Int))) e4_b0_0 e4_b1_0 e4_b1_1 (IntKind.wrap .i64 (e4_b2_0 + (1 : Int)))
                else
                bif decide (e4_b2_0 > e4_3) then
                  bif e4_b2_0 == (e4_b0_0.length : Int) then
                    some (((0 : Int), (0 : Int), ()))
                  else
                  bif e4_b2_0 == (e4_b0_0.length : Int) then
                    some (((11 : Int), e4_b2_0, ()))
                  else
                    some (((14 : Int), e4_b2_0, ()))
                else
                bif e4_b2_0 == (e4_b0_0.length : Int) then
                  some (((11 : Int), e4_b2_0, ()))
                else
                  some (((14 : Int), e4_b2_0, ()))
          else
          bif decide (e4_b2_0 > e4_3) then
            bif e4_b2_0 == (e4_b0_0.length : Int) then
              some (((0 : Int), (0 : Int), ()))
            else
            bif e4_b2_0 == (e4_b0_0.length : Int) then
              some (((11 : Int), e4_b2_0, ()))
            else
              some (((14 : Int), e4_b2_0, ()))
          else
          bif e4_b2_0 == (e4_b0_0.length : Int) then
            some (((11 : Int), e4_b2_0, ()))
          else
            some (((14 : Int), e4_b2_0, ()))) n (q : Int) s (0 : Int) (0 : Int) (q : Int)
    = some (lookQ q s) := by
  rw [digits_loop n _ _ _ _ _ s (by omega) (s.drop q) q n rfl hq (by simp; omega)]
  have hkl : p1q q s ≤ s.length := p1_le hq
  show (bif decide (((p1q q s : Nat) : Int) > (q : Int)) then _ else _) = _
  unfold lookQ
  have hk3 : p3q q s = p1q q s + 1 + (tw (s.drop (p1q q s + 1))).length := rfl
  have hsh : q + (tw (s.drop q)).length = p1q q s := rfl
  simp only [hsh]
  generalize p3q q s = k3 at hk3 ⊢
  clear hsh
  generalize p1q q s = k at hkl hk3 ⊢
  subst hk3
  have hE := end_eq q 0 k s.length
  rw [hE]
  by_cases h1 : q < k
  · rw [bif_pos (by omega)]
    have hsub : sub s (k : Int) (s.length : Int) = some (s.drop k) := by
      have := sub_nat s k s.length hkl (Nat.le_refl _)
      rw [List.take_length] at this
      exact this
    rw [hsub, some_bind', hasPrefix_one, some_bind']
    by_cases h2 : (s.drop k).head? = some 46
    · have hlt : k < s.length := by
        cases e : s.drop k with
        | nil => rw [e] at h2; simp at h2
        | cons b r =>
          have := congrArg List.length e
          simp at this
          omega
      rw [decide_eq_true h2, cond_true, if_pos ⟨h1, h2⟩, wrap_succ (by omega), digits_loop n _ _ _ _ _ s (by omega) (s.drop (k + 1)) (k + 1) n rfl (by omega) (by simp; omega)]
      exact end_eq (k + 1) 0 _ s.length
    · rw [decide_eq_false h2, cond_false, if_neg (fun h => h2 h.2)]
  · rw [bif_neg (by omega), if_neg (fun h => h1 h.1)]
theorem look_eq (n : Nat) (s : List UInt8) (hs : s.length < 4000000000000000000) (hn : s.length < n) : F.dec_look n s = some (lookR s) := by
  unfold F.dec_look
  rw [hasPrefix_one, some_bind']
  by_cases h : s.head? = some 45
  · have hp : p0 s = 1 := by unfold p0; rw [if_pos h]
    rw [decide_eq_true h, cond_true]
    have hq : 1 ≤ s.length := by have := p0_le s; omega
    have := look_tail n s hs hn 1 hq
    refine this.trans ?_
    unfold lookR
    rw [hp]
  · have hp : p0 s = 0 := by unfold p0; rw [if_neg h]
    rw [decide_eq_false h, cond_false]
    have := look_tail n s hs hn 0 (by omega)
    refine this.trans ?_
    unfold lookR
    rw [hp]
end Go.AM
set_option linter.unusedVariables false
set_option linter.unusedSimpArgs false
namespace Go.AM
def outR (r : DecR) : ParseR := if r.2.1 = 0 then (r.1, (0, 0, ()), ()) else ((false, 0, 0, ()), (r.2.1, 0, ()), ())
def badR (f : FaultR) : ParseR := ((false, 0, 0, ()), f, ())
def aheadD (s : List UInt8) : List UInt8 := tw (s.drop (p0 s))
def behindD (s : List UInt8) : List UInt8 := if (s.drop (p1q (p0 s) s)).head? = some 46 then tw (s.drop (p1q (p0 s) s + 1)) else []
def negD (s : List UInt8) : Bool := decide (s.head? = some 45)
def parseR (s : List UInt8) : ParseR :=
  if (lookR s).1 = 0 then outR (valR (negD s) (aheadD s ++ behindD s) (-((behindD s).length : Int))) else badR (lookR s)
theorem valR_code (neg : Bool) (d : List UInt8) (e : Int) : (valR neg d e).2.1 = 0 ∨ (valR neg d e).2.1 = 10 ∧ (valR neg d e).1 = (false, 0, 0, ()) := by
  unfold valR zeroD normR
  by_cases h : val d = 0
  · rw [if_pos h]; exact Or.inl rfl
  · rw [if_neg h]
    split
    · exact Or.inr ⟨rfl, rfl⟩
    · split
      · exact Or.inl rfl
      · exact Or.inr ⟨rfl, rfl⟩
theorem valR_same {d d' : List UInt8} (hd : Digs d) (hd' : Digs d') (h : val d = val d') (neg : Bool) (e : Int) : valR neg d e = valR neg d' e := by
  by_cases h0 : val d = 0
  · unfold valR
    rw [if_pos h0, if_pos (h ▸ h0)]
  · obtain ⟨c0, z, h1, h2⟩ := ten_split (val d) (by omega)
    rw [valR_core hd h2 h1, valR_core hd' h2 (h ▸ h1)]
theorem valR_big {d : List UInt8} (hd : Digs d) (h : two64 ≤ val d) (ht : trz d = d) (neg : Bool) (e : Int) : valR neg d e = ((false, 0, 0, ()), 10, ()) := by
  have h0 : val d ≠ 0 := by rw [two64_eq] at h; omega
  have hc := core_trz hd h0
  rw [ht] at hc
  rw [valR_core hd hc (z := 0) (by simp)]
  unfold normR
  split
  · rfl
  · rw [if_neg]
    have := Nat.le_mul_of_pos_right (val d) (Nat.pow_pos (n := (e + ((0 : Nat) : Int) - 18).toNat) (show 0 < 10 by omega))
    omega
theorem digit03 (n : Nat) (x : UInt8) : F.ref03_digit n (x.toNat : Int) = some (isDig x) := by
  unfold F.ref03_digit isDig
  by_cases h : 48 ≤ x.toNat
  · rw [bif_pos (by omega)]; simp [h]; omega
  · rw [bif_neg (by omega)]; simp [h]
theorem behind_loop (n : Nat) (X : Type) (k0 : (List UInt8) → Bool → (List UInt8) → Int → Bool → Bool → Int → Int → Int → Int → Option X) (kr : Bool → Int → Int → Int → Int → Option X) (s : List UInt8) (neg : Bool) (pt : Nat) (hs : s.length ≤ 1000000) :
    ∀ (r : List UInt8) (k m : Nat) (d : List UInt8) (must : Bool), s.drop k = r → k ≤ s.length → r.length < m → d.length ≤ k →
    F.ref03_Parse.L8 n k0 kr m s neg (k : Int) d (pt : Int) must false 0 0 0 0 =
      if k + (tw r).length = s.length then k0 s neg (d ++ tw r) (pt : Int) (must && decide ((tw r).length = 0)) false 0 0 0 0 else kr false 0 0 14 ((k + (tw r).length : Nat) : Int) := by
  intro r
  induction r with
  | nil =>
    intro k m d must hk hkl hm hd
    have := drop_nil' hk
    obtain ⟨m, rfl⟩ : ∃ q, m = q + 1 := ⟨m - 1, by omega⟩
    show F.ref03_Parse.L8.step n _ k0 kr _ _ _ _ _ _ _ _ _ _ _ = _
    unfold F.ref03_Parse.L8.step
    have e : tw ([] : List UInt8) = [] := rfl
    rw [bif_neg (by omega), e, List.length_nil, if_pos (by omega), List.append_nil]
    simp
  | cons x r ih =>
    intro k m d must hk hkl hm hd
    obtain ⟨h1, h2, h3⟩ := drop_cons hk
    obtain ⟨m, rfl⟩ : ∃ q, m = q + 1 := ⟨m - 1, by omega⟩
    show F.ref03_Parse.L8.step n (F.ref03_Parse.L8 n k0 kr m) k0 kr _ _ _ _ _ _ _ _ _ _ _ = _
    unfold F.ref03_Parse.L8.step
    rw [bif_pos (by omega), idx_nat, h2, some_bind', digit03, some_bind', some_bind', wrap_succ (by omega)]
    by_cases hx : isDig x = true
    · have hsub : sub s (k : Int) ((k + 1 : Nat) : Int) = some [x] := by
        rw [sub_nat s k (k + 1) (by omega) (by omega), List.take_add_one, h2]
        have : (s.take k).length = k := by simp; omega
        simp [List.drop_append, this]
      have e : tw (x :: r) = x :: tw r := by unfold tw; simp [List.takeWhile_cons, hx]
      rw [hx, cond_true, hsub, some_bind', bif_pos (by rw [strMax_eq]; simp; omega), ih (k + 1) m (d ++ [x]) false h3 (by omega) (by simp at hm; omega) (by simp; omega), e, List.length_cons, List.append_assoc]
      have e1 : k + 1 + (tw r).length = k + ((tw r).length + 1) := by omega
      rw [e1]
      simp
    · have hx' : isDig x = false := by simpa using hx
      have e : tw (x :: r) = [] := by unfold tw; simp [List.takeWhile_cons, hx']
      have hpt : decide ((pt : Int) < 0) = false := by simp
      rw [hx', cond_false, hpt, cond_false, e, List.length_nil, if_neg (by omega)]
      cases ((x.toNat : Int) == 46) <;> rfl
theorem ahead_loop (n : Nat) (X : Type) (k0 : (List UInt8) → Bool → (List UInt8) → Int → Bool → Bool → Int → Int → Int → Int → Option X) (kr : Bool → Int → Int → Int → Int → Option X) (s : List UInt8) (neg : Bool) (hs : s.length ≤ 1000000) :
    ∀ (r : List UInt8) (k m : Nat) (d : List UInt8) (must : Bool), s.drop k = r → k ≤ s.length → r.length < m → d.length ≤ k →
    F.ref03_Parse.L8 n k0 kr m s neg (k : Int) d (-1) must false 0 0 0 0 =
      if k + (tw r).length = s.length then k0 s neg (d ++ tw r) (-1) (must && decide ((tw r).length = 0)) false 0 0 0 0
      else if (s.drop (k + (tw r).length)).head? = some 46 ∧ (must && decide ((tw r).length = 0)) = false then
        (if k + (tw r).length + 1 + (tw (s.drop (k + (tw r).length + 1))).length = s.length then
          k0 s neg ((d ++ tw r) ++ tw (s.drop (k + (tw r).length + 1))) ((d ++ tw r).length : Int) (decide ((tw (s.drop (k + (tw r).length + 1))).length = 0)) false 0 0 0 0
         else kr false 0 0 14 ((k + (tw r).length + 1 + (tw (s.drop (k + (tw r).length + 1))).length : Nat) : Int))
      else kr false 0 0 14 ((k + (tw r).length : Nat) : Int) := by
  intro r
  induction r with
  | nil =>
    intro k m d must hk hkl hm hd
    have := drop_nil' hk
    obtain ⟨m, rfl⟩ : ∃ q, m = q + 1 := ⟨m - 1, by omega⟩
    show F.ref03_Parse.L8.step n _ k0 kr _ _ _ _ _ _ _ _ _ _ _ = _
    unfold F.ref03_Parse.L8.step
    have e : tw ([] : List UInt8) = [] := rfl
    rw [bif_neg (by omega), e, List.length_nil, if_pos (by omega), List.append_nil]
    simp
  | cons x r ih =>
    intro k m d must hk hkl hm hd
    obtain ⟨h1, h2, h3⟩ := drop_cons hk
    obtain ⟨m, rfl⟩ : ∃ q, m = q + 1 := ⟨m - 1, by omega⟩
    show F.ref03_Parse.L8.step n (F.ref03_Parse.L8 n k0 kr m) k0 kr _ _ _ _ _ _ _ _ _ _ _ = _
    unfold F.ref03_Parse.L8.step
    rw [bif_pos (by omega), idx_nat, h2, some_bind', digit03, some_bind', some_bind', wrap_succ (by omega)]
    by_cases hx : isDig x = true
    · have hsub : sub s (k : Int) ((k + 1 : Nat) : Int) = some [x] := by
        rw [sub_nat s k (k + 1) (by omega) (by omega), List.take_add_one, h2]
        have : (s.take k).length = k := by simp; omega
        simp [List.drop_append, this]
      have e : tw (x :: r) = x :: tw r := by unfold tw; simp [List.takeWhile_cons, hx]
      rw [hx, cond_true, hsub, some_bind', bif_pos (by rw [strMax_eq]; simp; omega), ih (k + 1) m (d ++ [x]) false h3 (by omega) (by simp at hm; omega) (by simp; omega), e, List.length_cons, List.append_assoc]
      have e1 : k + 1 + (tw r).length = k + ((tw r).length + 1) := by omega
      rw [e1]
      simp
    · have hx' : isDig x = false := by simpa using hx
      have e : tw (x :: r) = [] := by unfold tw; simp [List.takeWhile_cons, hx']
      have hpt : decide ((-1 : Int) < 0) = true := rfl
      rw [hx', cond_false, hpt, cond_true, e, List.length_nil, if_neg (by omega)]
      simp only [Nat.add_zero, hk, List.append_nil]
      by_cases h46 : x = 46
      · subst h46
        have e2 : ((((46 : UInt8).toNat : Nat) : Int) == 46) = true := rfl
        rw [e2, cond_true]
        cases must
        · simp only [Bool.not_false, cond_true, Bool.false_and, List.head?_cons, and_self, if_true]
          have hb := behind_loop n X k0 kr s neg d.length hs (s.drop (k + 1)) (k + 1) m d true rfl (by omega) (by rw [h3]; simp at hm; omega) (by omega)
          rw [hb]
          simp
        · simp
      · have e2 : ((x.toNat : Int) == 46) = false := by
          have : ¬ (x.toNat : Int) = 46 := fun hh => h46 (u8_ext (by simp; omega))
          simpa using this
        rw [e2, cond_false, if_neg]
        rintro ⟨q, _⟩
        exact h46 (by simpa using q)
theorem make_out (n : Nat) (hn : 5000 ≤ n) (neg : Bool) (d : List UInt8) (hd : Digs d) (hl : d.length ≤ 1000) (e : Int) :
    ((F.ref03_Make n neg d e).bind fun y7 =>
                bif !y7.2.1 then
                  some (((false, (0 : Int), (0 : Int), ()), ((10 : Int), (0 : Int), ()), ()))
                else
                  some (((y7.1.1, y7.1.2.1, y7.1.2.2.1, ()), ((0 : Int), (0 : Int), ()), ()))) = some (outR (valR neg d e)) := by
  rw [make_eq n hn neg d hd hl e, some_bind']
  unfold outR
  rcases valR_code neg d e with h | ⟨h1, h2⟩
  · rw [h, if_pos rfl]; rfl
  · rw [h1, if_neg (by decide)]; rfl
theorem refparse_core (n : Nat) (hn : 5000 ≤ n) (s : List UInt8) (hs : s.length ≤ 1000) (neg : Bool) (q : Nat) (hq : q ≤ s.length) :
    F.ref03_Parse.L8 n
          (fun e6_0 e6_4 e6_6 e6_7 e6_8 e6_b0_0 e6_b0_1 e6_b0_2 e6_b1_0 e6_b1_1 =>
            bif e6_8 then
              some (((false, (0 : Int), (0 : Int), ()), ((11 : Int), (e6_0.length : Int), ()), ()))
            else
            bif decide (e6_7 ≥ (0 : Int)) then
              (F.ref03_Make n e6_4 e6_6 (IntKind.wrap .i64 (e6_7 - (e6_6.length : Int)))).bind fun y7 =>
                bif !y7.2.1 then
                  some (((false, (0 : Int), (0 : Int), ()), ((10 : Int), (0 : Int), ()), ()))
                else
                  some (((y7.1.1, y7.1.2.1, y7.1.2.2.1, ()), ((0 : Int), (0 : Int), ()), ()))
            else
              (F.ref03_Make n e6_4 e6_6 (0 : Int)).bind fun y8 =>
                bif !y8.2.1 then
                  some (((false, (0 : Int), (0 : Int), ()), ((10 : Int), (0 : Int), ()), ()))
                else
                  some (((y8.1.1, y8.1.2.1, y8.1.2.2.1, ()), ((0 : Int), (0 : Int), ()), ())))
          (fun e9_b0_0 e9_b0_1 e9_b0_2 e9_b1_0 e9_b1_1 =>
            some (((e9_b0_0, e9_b0_1, e9_b0_2, ()), (e9_b1_0, e9_b1_1, ()), ()))) n s neg (q : Int) [] (-1 : Int) true false (0 : Int) (0 : Int) (0 : Int) (0 : Int)
    = some (if (lookQ q s).1 = 0 then outR (valR neg (tw (s.drop q) ++ (if (s.drop (p1q q s)).head? = some 46 then tw (s.drop (p1q q s + 1)) else [])) (-(((if (s.drop (p1q q s)).head? = some 46 then tw (s.drop (p1q q s + 1)) else [] : List UInt8).length : Nat) : Int))) else badR (lookQ q s)) := by
  rw [ahead_loop n _ _ _ s neg (by omega) (s.drop q) q n [] true rfl hq (by simp; omega) (by simp)]
  have hp1 : q + (tw (s.drop q)).length = p1q q s := rfl
  have hp3 : p1q q s + 1 + (tw (s.drop (p1q q s + 1))).length = p3q q s := rfl
  have hA : (tw (s.drop q)).length ≤ 1000 := by have := tw_le (s.drop q); simp at this; omega
  have hB : (tw (s.drop (p1q q s + 1))).length ≤ 1000 := by have := tw_le (s.drop (p1q q s + 1)); simp at this; omega
  have hAB : (tw (s.drop q)).length + (tw (s.drop (p1q q s + 1))).length ≤ 1000 := by
    have h1 := tw_le (s.drop q)
    have h2 := tw_le (s.drop (p1q q s + 1))
    simp at h1 h2
    omega
  rw [hp1, hp3]
  simp only [List.nil_append, Bool.true_and]
  have look : ∀ f : FaultR, lookQ q s = f → (¬ f.1 = 0) → some (badR f) = some (if (lookQ q s).1 = 0 then outR (valR neg (tw (s.drop q) ++ (if (s.drop (p1q q s)).head? = some 46 then tw (s.drop (p1q q s + 1)) else [])) (-(((if (s.drop (p1q q s)).head? = some 46 then tw (s.drop (p1q q s + 1)) else [] : List UInt8).length : Nat) : Int))) else badR (lookQ q s)) := by
    intro f hf h0
    rw [hf, if_neg h0]
  by_cases hend : p1q q s = s.length
  ·
    have hdrop : s.drop (p1q q s) = [] := List.drop_eq_nil_of_le (by omega)
    have hno : ¬ ((s.drop (p1q q s)).head? = some 46) := by rw [hdrop]; simp
    rw [if_pos hend]
    by_cases hz : (tw (s.drop q)).length = 0
    · have hl : lookQ q s = (11, (s.length : Int), ()) := by
        unfold lookQ endR
        rw [if_neg (fun h => hno h.2), if_neg (fun h => by have := h.1; omega), if_pos hend, hend]
      rw [decide_eq_true hz, cond_true]
      exact look _ hl (by show ¬ (11 : Int) = 0; decide)
    · have hh : ¬ (-1 : Int) ≥ 0 := by omega
      have hl : lookQ q s = (0, 0, ()) := by
        unfold lookQ endR
        rw [if_neg (fun h => hno h.2), if_pos ⟨by omega, hend⟩]
      rw [decide_eq_false hz, cond_false, bif_neg hh, hl, if_pos rfl, if_neg hno, List.append_nil]
      exact make_out n hn neg _ (tw_digs _) hA 0
  · rw [if_neg hend]
    by_cases hpt : (s.drop (p1q q s)).head? = some 46
    · by_cases hz : (tw (s.drop q)).length = 0
      · have hl : lookQ q s = (14, (p1q q s : Int), ()) := by
          unfold lookQ endR
          rw [if_neg (fun h => by have := h.1; omega), if_neg (fun h => hend h.2), if_neg hend]
        rw [if_neg (by simp [hz])]
        exact look _ hl (by show ¬ (14 : Int) = 0; decide)
      · rw [if_pos ⟨hpt, by simp [hz]⟩]
        have hpp : q < p1q q s ∧ (s.drop (p1q q s)).head? = some 46 := ⟨by omega, hpt⟩
        by_cases h3 : p3q q s = s.length
        · rw [if_pos h3]
          by_cases hb : (tw (s.drop (p1q q s + 1))).length = 0
          · have hl : lookQ q s = (11, (s.length : Int), ()) := by
              unfold lookQ endR
              rw [if_pos hpp, if_neg (fun h => by have := h.1; omega), if_pos h3, h3]
            rw [decide_eq_true hb, cond_true]
            exact look _ hl (by show ¬ (11 : Int) = 0; decide)
          · have hl : lookQ q s = (0, 0, ()) := by
              unfold lookQ endR
              rw [if_pos hpp, if_pos ⟨by omega, h3⟩]
            rw [decide_eq_false hb, cond_false, bif_pos (by omega), hl, if_pos rfl, if_pos hpt]
            have hw : IntKind.wrap .i64 (((tw (s.drop q)).length : Int) - ((tw (s.drop q) ++ tw (s.drop (p1q q s + 1))).length : Int)) = -(((tw (s.drop (p1q q s + 1))).length : Nat) : Int) := by
              rw [List.length_append, wrap_in (by omega)]; omega
            rw [hw]
            exact make_out n hn neg _ (digs_append.2 ⟨tw_digs _, tw_digs _⟩) (by rw [List.length_append]; exact hAB) _
        · have hl : lookQ q s = (14, (p3q q s : Int), ()) := by
            unfold lookQ endR
            rw [if_pos hpp, if_neg (fun h => h3 h.2), if_neg h3]
          rw [if_neg h3]
          exact look _ hl (by show ¬ (14 : Int) = 0; decide)
    · have hl : lookQ q s = (14, (p1q q s : Int), ()) := by
        unfold lookQ endR
        rw [if_neg (fun h => hpt h.2), if_neg (fun h => hend h.2), if_neg hend]
      rw [if_neg (fun h => hpt h.1)]
      exact look _ hl (by show ¬ (14 : Int) = 0; decide)
theorem refparse_eq (n : Nat) (hn : 5000 ≤ n) (s : List UInt8) (hs : s.length ≤ 1000) : F.ref03_Parse n s = some (parseR s) := by
  unfold F.ref03_Parse
  cases s with
  | nil => exact refparse_core n hn [] hs false 0 (by simp)
  | cons b s =>
    have ei : idx (b :: s) (0 : Int) = some b := rfl
    rw [bif_pos (by simp), ei, some_bind']
    by_cases h : b = 45
    · subst h
      have e2 : ((((45 : UInt8).toNat : Nat) : Int) == 45) = true := rfl
      rw [e2, cond_true]
      exact refparse_core n hn (45 :: s) hs true 1 (by simp)
    · have e2 : ((b.toNat : Int) == 45) = false := by
        have : ¬ (b.toNat : Int) = 45 := fun hh => h (u8_ext (by simp; omega))
        simpa using this
      rw [e2, cond_false]
      have hp : p0 (b :: s) = 0 := by unfold p0; rw [if_neg (by simpa using h)]
      have hneg : negD (b :: s) = false := by unfold negD; simpa using h
      have := refparse_core n hn (b :: s) hs false 0 (by simp)
      refine this.trans ?_
      unfold parseR lookR behindD aheadD
      rw [hp, hneg]
end Go.AM
set_option linter.unusedVariables false
set_option linter.unusedSimpArgs false
namespace Go.AM
theorem coef_loop (n : Nat) (X : Type) (k0 : Bool → Int → Int → Int → Int → Int → Int → Bool → Int → Int → Option X) (s : List UInt8) (hs : s.length < 4611686018427387904) (b : Bool) (x1 x2 x3 x4 x5 x6 : Int) (neg : Bool) (E : Int) : ∀ (r : List UInt8) (k m : Nat), s.drop k = r → k ≤ s.length → r.length < m → Digs r → val (s.take k) < two64 →
    F.dec_Parse.L14 n k0 m s (s.length : Int) (k : Int) b x1 x2 x3 x4 x5 x6 neg (val (s.take k) : Int) E = if val s < two64 then k0 b x1 x2 x3 x4 x5 x6 neg (val s) E else k0 b x1 x2 x3 x4 x5 x6 neg 1 (-19) := by
  intro r
  induction r with
  | nil =>
    intro k m hk hkl hm hd hv
    have hk := drop_nil' hk
    obtain ⟨m, rfl⟩ : ∃ q, m = q + 1 := ⟨m - 1, by omega⟩
    show F.dec_Parse.L14.step n _ k0 _ _ _ _ _ _ _ _ _ _ _ _ _ = _
    unfold F.dec_Parse.L14.step
    rw [List.take_of_length_le hk] at hv ⊢
    rw [bif_neg (by omega), if_pos hv]
  | cons x r ih =>
    intro k m hk hkl hm hd hv
    obtain ⟨h1, h2, h3⟩ := drop_cons hk
    obtain ⟨d1, d2⟩ := digs_cons.1 hd
    have hx := isDig_iff.1 d1
    obtain ⟨m, rfl⟩ : ∃ q, m = q + 1 := ⟨m - 1, by omega⟩
    show F.dec_Parse.L14.step n (F.dec_Parse.L14 n k0 m) k0 _ _ _ _ _ _ _ _ _ _ _ _ _ = _
    unfold F.dec_Parse.L14.step
    have htk : s.take (k + 1) = s.take k ++ [x] := by rw [List.take_add_one, h2]; rfl
    have hvk : val (s.take (k + 1)) = val (s.take k) * 10 + dv x := by rw [htk, val_snoc]
    have hsv : val (s.take (k + 1)) ≤ val s := by
      have e : s = s.take (k + 1) ++ s.drop (k + 1) := (List.take_append_drop _ _).symm
      have h5 : val s = val (s.take (k + 1)) * 10 ^ (s.drop (k + 1)).length + val (s.drop (k + 1)) := by
        conv => lhs; rw [e]
        rw [val_append]
      have := Nat.le_mul_of_pos_right (val (s.take (k + 1))) (Nat.pow_pos (n := (s.drop (k + 1)).length) (show 0 < 10 by omega))
      omega
    have hdl := dv_lt d1
    have hdx : IntKind.wrap .u64 (IntKind.wrap .u8 ((x.toNat : Int) - 48)) = (dv x : Int) := by
      have h8 : IntKind.wrap .u8 ((x.toNat : Int) - 48) = (x.toNat : Int) - 48 := IntWalk.u8_in _ (by omega)
      rw [h8, IntWalk.u64_in _ (by omega)]; unfold dv; omega
    rw [bif_pos (by omega), idx_nat, h2, some_bind', hdx, times_eq n _ _ hv (by rw [two64_eq]; omega), some_bind', ← hvk, wrap_succ (by omega)]
    by_cases hf : val (s.take (k + 1)) < two64
    · simp only [hf, decide_true, Bool.not_true, cond_false, Nat.mod_eq_of_lt hf]
      exact ih (k + 1) m h3 (by omega) (by simp at hm; omega) d2 hf
    · simp only [hf, decide_false, Bool.not_false, cond_true]
      rw [if_neg (by omega)]
theorem cutPrefix_one (n : Nat) (s : List UInt8) : F.strings_CutPrefix n s [45] = some (s.drop (p0 s), negD s, ()) := by
  unfold F.strings_CutPrefix F.stringslite_CutPrefix
  have hp : F.stringslite_HasPrefix n s [45] = some (decide (s.head? = some 45)) := by
    have := hasPrefix_one n s 45
    unfold F.strings_HasPrefix at this
    cases e : F.stringslite_HasPrefix n s [45] with
    | none => rw [e] at this; cases this
    | some b => rw [e] at this; exact this
  rw [hp, some_bind']
  unfold p0 negD
  by_cases h : s.head? = some 45
  · have hl : 1 ≤ s.length := by cases s with | nil => simp at h | cons => simp
    have hsub : sub s ((([45] : List UInt8).length : Nat) : Int) (s.length : Int) = some (s.drop 1) := by
      have := sub_nat s 1 s.length hl (Nat.le_refl _)
      rw [List.take_length] at this
      exact this
    rw [decide_eq_true h, Bool.not_true, cond_false, hsub, if_pos h]
    rfl
  · rw [decide_eq_false h, Bool.not_false, cond_true, if_neg h]
    rfl
theorem idxByte_app {a t : List UInt8} (ha : Digs a) : Lib.indexByte (a ++ 46 :: t) 46 = (a.length : Int) := by
  induction a with
  | nil => simp [Lib.indexByte]
  | cons b a ih =>
    obtain ⟨h1, h2⟩ := digs_cons.1 ha
    have hb : ¬ b = 46 := fun h => by subst h; simp [isDig] at h1
    have := ih h2
    simp only [List.cons_append, Lib.indexByte, beq_iff_eq, hb, if_false, this]
    have hne : ¬ (a.length : Int) = -1 := by omega
    simp [hne]
theorem idxByte_no {a : List UInt8} (ha : Digs a) : Lib.indexByte a 46 = -1 := by
  induction a with
  | nil => rfl
  | cons b a ih =>
    obtain ⟨h1, h2⟩ := digs_cons.1 ha
    have hb : ¬ b = 46 := fun h => by subst h; simp [isDig] at h1
    simp [Lib.indexByte, hb, ih h2]
theorem look_ok {s : List UInt8} (h : (lookR s).1 = 0) : lookR s = (0, 0, ()) ∧ aheadD s ≠ [] ∧
    ((s.drop (p0 s) = aheadD s ∧ behindD s = []) ∨ (s.drop (p0 s) = aheadD s ++ 46 :: behindD s ∧ behindD s ≠ [])) := by
  unfold lookR lookQ at h ⊢
  have split := tw_split (s.drop (p0 s))
  rw [List.drop_drop] at split
  have hle := p1_le (p0_le s)
  by_cases hp : p0 s < p1q (p0 s) s ∧ (s.drop (p1q (p0 s) s)).head? = some 46
  · rw [if_pos hp] at h ⊢
    unfold endR at h ⊢
    by_cases h3 : p1q (p0 s) s + 1 < p3q (p0 s) s ∧ p3q (p0 s) s = s.length
    · rw [if_pos h3]
      refine ⟨rfl, ?_, Or.inr ?_⟩
      · intro hh
        have : (tw (s.drop (p0 s))).length = 0 := by unfold aheadD at hh; rw [hh]; rfl
        have := hp.1
        unfold p1q at this
        omega
      · have hb : behindD s = tw (s.drop (p1q (p0 s) s + 1)) := by unfold behindD; rw [if_pos hp.2]
        have h2 := tw_split (s.drop (p1q (p0 s) s + 1))
        rw [List.drop_drop] at h2
        have h4 : s.drop (p1q (p0 s) s + 1 + (tw (s.drop (p1q (p0 s) s + 1))).length) = [] := List.drop_eq_nil_of_le (by
          have h5 := h3.2
          unfold p3q at h5
          omega)
        rw [h4, List.append_nil] at h2
        have h5 : s.drop (p1q (p0 s) s) = 46 :: s.drop (p1q (p0 s) s + 1) := by
          cases e : s.drop (p1q (p0 s) s) with
          | nil => rw [e] at hp; simp at hp
          | cons c r =>
            rw [e] at hp
            have hc : c = 46 := by simpa using hp.2
            subst hc
            obtain ⟨_, _, g3⟩ := drop_cons e
            rw [g3]
        refine ⟨?_, ?_⟩
        · rw [split]
          have : s.drop (p0 s + (tw (s.drop (p0 s))).length) = s.drop (p1q (p0 s) s) := rfl
          rw [this, h5, hb, ← h2]
          rfl
        · rw [hb]
          intro hh
          have h6 := h3.1
          unfold p3q at h6
          rw [hh] at h6
          simp at h6
    · rw [if_neg h3] at h
      split at h <;> cases h
  · rw [if_neg hp] at h ⊢
    unfold endR at h ⊢
    by_cases h3 : p0 s < p1q (p0 s) s ∧ p1q (p0 s) s = s.length
    · rw [if_pos h3]
      have hd : s.drop (p1q (p0 s) s) = [] := List.drop_eq_nil_of_le (by omega)
      refine ⟨rfl, ?_, Or.inl ⟨?_, ?_⟩⟩
      · intro hh
        have : (tw (s.drop (p0 s))).length = 0 := by unfold aheadD at hh; rw [hh]; rfl
        have := h3.1
        unfold p1q at this
        omega
      · have : s.drop (p0 s + (tw (s.drop (p0 s))).length) = s.drop (p1q (p0 s) s) := rfl
        rw [this, hd, List.append_nil] at split
        exact split
      · unfold behindD
        rw [hd]
        simp
    · rw [if_neg h3] at h
      split at h <;> cases h
theorem behind_digs (s : List UInt8) : Digs (behindD s) := by
  unfold behindD
  split
  · exact tw_digs _
  · rfl
theorem cut_point (n : Nat) {s : List UInt8} (hs : s.length ≤ 1000) (h : (lookR s).1 = 0) : ∃ f, F.strings_Cut n (s.drop (p0 s)) [46] = some (aheadD s, behindD s, f, ()) := by
  obtain ⟨_, _, h3⟩ := look_ok h
  unfold F.strings_Cut F.stringslite_Cut O.index1
  rcases h3 with ⟨a, b⟩ | ⟨a, b⟩
  · have hi : Lib.indexByte (aheadD s) 46 = -1 := idxByte_no (tw_digs _)
    rw [a, b]
    simp only [some_bind']
    rw [hi]
    exact ⟨false, rfl⟩
  · have hl : (aheadD s ++ 46 :: behindD s).length ≤ 1000 := by rw [← a]; simp; omega
    have hl2 : (aheadD s).length + ((behindD s).length + 1) ≤ 1000 := by simpa using hl
    have hi : Lib.indexByte (aheadD s ++ 46 :: behindD s) 46 = ((aheadD s).length : Int) := idxByte_app (tw_digs _)
    rw [a]
    simp only [some_bind']
    rw [hi]
    have s1 : sub (aheadD s ++ 46 :: behindD s) 0 ((aheadD s).length : Int) = some (aheadD s) := by
      have := sub_nat (aheadD s ++ 46 :: behindD s) 0 (aheadD s).length (by omega) (by simp)
      rw [List.drop_zero, List.take_left'] at this
      · exact this
      · rfl
    have hdr : (aheadD s ++ 46 :: behindD s).drop ((aheadD s).length + 1) = behindD s := by
      rw [List.drop_append, List.drop_eq_nil_of_le (by omega), List.nil_append, show (aheadD s).length + 1 - (aheadD s).length = 1 from by omega]
      rfl
    have s2 : sub (aheadD s ++ 46 :: behindD s) (((aheadD s).length + 1 : Nat) : Int) ((aheadD s ++ 46 :: behindD s).length : Int) = some (behindD s) := by
      have := sub_nat (aheadD s ++ 46 :: behindD s) ((aheadD s).length + 1) (aheadD s ++ 46 :: behindD s).length (by simp) (Nat.le_refl _)
      rw [List.take_length, hdr] at this
      exact this
    have hw : IntKind.wrap .i64 (((aheadD s).length : Int) + ((([46] : List UInt8).length : Nat) : Int)) = (((aheadD s).length + 1 : Nat) : Int) := wrap_succ (by omega)
    rw [bif_pos (by omega), s1, some_bind', hw, s2]
    exact ⟨true, rfl⟩
theorem trimR_eq (n : Nat) {s : List UInt8} (h : s.length ≤ 1000) : O.trimR n s [48] = some (trz s) := by
  unfold O.trimR
  have hb : (Nat.blt (48 : UInt8).toNat 128 && Nat.ble s.length big47) = true := by
    rw [Bool.and_eq_true, Nat.ble_eq]
    exact ⟨rfl, by unfold big47; omega⟩
  simp only [hb, cond_true, trimR_trz]
theorem trimL_eq (n : Nat) {s : List UInt8} (h : s.length ≤ 1000) : O.trimL n s [48] = some (lz s) := by
  unfold O.trimL
  have hb : (Nat.blt (48 : UInt8).toNat 128 && Nat.ble s.length big47) = true := by
    rw [Bool.and_eq_true, Nat.ble_eq]
    exact ⟨rfl, by unfold big47; omega⟩
  simp only [hb, cond_true]
  rfl
theorem trz_trz (d : List UInt8) : trz (trz d) = trz d := trz_self (fun x hx => trz_last hx)
theorem valR_lz (neg : Bool) {d : List UInt8} (hd : Digs d) (e : Int) : valR neg (lz d) e = valR neg d e := valR_same (lz_digs hd) hd (lz_val d) neg e
theorem coef_out (n : Nat) (hn : 5000 ≤ n) (neg : Bool) (d : List UInt8) (hd : Digs d) (hl : d.length ≤ 1000) (E : Int) (hE : -100000 ≤ E ∧ E ≤ 100000) (ht : trz d = d) (x1 x2 x3 x4 x5 x6 : Int) :
    F.dec_Parse.L14 n
                        (fun e9_b0_0 e9_b0_1 e9_b0_2 e9_b1_0 e9_b1_1 e9_b2_0 e9_b2_1 e9_b3_0 e9_b3_1 e9_b3_2 =>
                          (F.dec_Normal n (e9_b3_0, e9_b3_1, e9_b3_2, ())).bind fun y10 =>
                            bif !(y10.2.1 == (0 : Int)) then
                              some (((false, (0 : Int), (0 : Int), ()), (y10.2.1, (0 : Int), ()), ()))
                            else
                              some (((y10.1.1, y10.1.2.1, y10.1.2.2.1, ()), ((0 : Int), (0 : Int), ()), ()))) n d (d.length : Int) (0 : Int) false x1 x2 x3 x4 x5 x6 neg (0 : Int) E
    = some (outR (valR neg d E)) := by
  refine (coef_loop n _ _ d (by omega) false x1 x2 x3 x4 x5 x6 neg E d 0 n rfl (by omega) (by omega) hd (by rw [List.take_zero, val_nil, two64_eq]; omega)).trans ?_
  have out : ∀ r : DecR, (r.2.1 = 0 ∨ r.2.1 = 10 ∧ r.1 = (false, 0, 0, ())) → ((some r).bind fun y10 =>
                            bif !(y10.2.1 == (0 : Int)) then
                              some (((false, (0 : Int), (0 : Int), ()), (y10.2.1, (0 : Int), ()), ()))
                            else
                              some (((y10.1.1, y10.1.2.1, y10.1.2.2.1, ()), ((0 : Int), (0 : Int), ()), ()))) = some (outR r) := by
    intro r hr
    rw [some_bind']
    unfold outR
    rcases hr with h | ⟨h1, h2⟩
    · rw [h, if_pos rfl]; rfl
    · rw [h1, if_neg (by decide)]; rfl
  by_cases hv : val d < two64
  · rw [if_pos hv, normal_eq n (by omega) neg _ hv E (by omega), valR_same (dd_digs _) hd (dd_val _)]
    exact out _ (valR_code neg d E)
  · have h19 := normal_eq n (by omega) neg 1 (by decide) (-19) (by omega)
    have hb := valR_big hd (by omega) ht neg E
    rw [if_neg hv, show (1 : Int) = ((1 : Nat) : Int) from rfl, h19, hb]
    have e1 : valR neg (Lib.decDigits 1) (-19) = ((false, 0, 0, ()), 10, ()) := by
      rw [valR_core (dd_digs 1) (c0 := 1) (z := 0) (by decide) (by rw [dd_val])]
      unfold normR
      rw [if_pos (by omega)]
    rw [e1]
    exact out _ (Or.inr ⟨rfl, rfl⟩)
theorem decparse_eq (n : Nat) (hn : 5000 ≤ n) (s : List UInt8) (hs : s.length ≤ 1000) : F.dec_Parse n s = some (parseR s) := by
  unfold F.dec_Parse
  rw [look_eq n s (by omega) (by omega), some_bind']
  by_cases h : (lookR s).1 = 0
  · obtain ⟨h1, h2, h3⟩ := look_ok h
    obtain ⟨f, hcut⟩ := cut_point n hs h
    have e0 : (!((0 : Int) == 0 && (0 : Int) == 0)) = false := rfl
    rw [h1]
    simp only [e0, cond_false]
    rw [cutPrefix_one, some_bind']
    simp only [hcut, some_bind']
    have ha : Digs (aheadD s) := tw_digs _
    have hb := behind_digs s
    have hlen : (aheadD s).length + (behindD s).length ≤ 1000 := by
      have hd : (s.drop (p0 s)).length ≤ 1000 := by simp; omega
      rcases h3 with ⟨a, b⟩ | ⟨a, b⟩
      · rw [b]; rw [a] at hd; simpa using hd
      · rw [a] at hd; simp at hd; omega
    unfold parseR
    rw [if_pos h]
    generalize aheadD s = a at *
    generalize behindD s = b at *
    have htb := trz_le b
    rw [trimR_eq n (by omega), some_bind', bif_pos (by rw [strMax_eq]; omega), trimL_eq n (by simp; omega), some_bind']
    have hab : Digs (a ++ trz b) := digs_append.2 ⟨ha, trz_digs hb⟩
    have hall := lz_le (a ++ trz b)
    have hallL : (lz (a ++ trz b)).length ≤ a.length + (trz b).length := by simpa using hall
    have hts := trz_le (lz (a ++ trz b))
    rw [trimR_eq n (by omega), some_bind']
    have hval : valR (negD s) (lz (a ++ trz b)) (-((trz b).length : Int)) = valR (negD s) (a ++ b) (-(b.length : Int)) := by
      rw [valR_lz _ hab]
      have hpad := trz_pad b
      conv => rhs; rw [hpad]
      rw [← List.append_assoc, valR_zeros_right _ hab]
      congr 1
      simp
      omega
    have hD := lz_digs hab
    have hw : IntKind.wrap .i64 (0 - ((trz b).length : Int)) = -((trz b).length : Int) := by rw [wrap_in (by omega)]; omega
    rw [hw]
    by_cases hz : (trz b).length = 0
    · have ez : (-((trz b).length : Int) == 0) = true := by simp [hz]
      rw [ez, cond_true]
      by_cases hsh : (trz (lz (a ++ trz b))).length < (lz (a ++ trz b)).length
      · have hw2 : IntKind.wrap .i64 (((lz (a ++ trz b)).length : Int) - ((trz (lz (a ++ trz b))).length : Int)) = (((lz (a ++ trz b)).length - (trz (lz (a ++ trz b))).length : Nat) : Int) := by rw [wrap_in (by omega)]; omega
        rw [bif_pos (by omega), hw2]
        have := coef_out n hn (negD s) _ (trz_digs hD) (by omega) (((lz (a ++ trz b)).length - (trz (lz (a ++ trz b))).length : Nat) : Int) (by omega) (trz_trz _) 0 0 0 0 0 0
        refine this.trans ?_
        congr 2
        rw [← hval, hz]
        have hpad := trz_pad (lz (a ++ trz b))
        conv => rhs; rw [hpad]
        rw [valR_zeros_right _ (trz_digs hD)]
        congr 1
        omega
      · have hq : trz (lz (a ++ trz b)) = lz (a ++ trz b) := by
          have hpad := trz_pad (lz (a ++ trz b))
          rw [show (lz (a ++ trz b)).length - (trz (lz (a ++ trz b))).length = 0 from by omega, List.replicate_zero, List.append_nil] at hpad
          exact hpad.symm
        rw [bif_neg (by omega)]
        have := coef_out n hn (negD s) _ hD (by omega) (-((trz b).length : Int)) (by omega) hq 0 0 0 0 0 0
        refine this.trans ?_
        rw [hval]
    · have ez : (-((trz b).length : Int) == 0) = false := by
        have : ¬ (-((trz b).length : Int)) = 0 := by omega
        simpa using this
      rw [ez, cond_false]
      have hq : trz (lz (a ++ trz b)) = lz (a ++ trz b) := by
        refine trz_self fun x hx => ?_
        have hrep := lz_rep (a ++ trz b)
        have hlast : (a ++ trz b).getLast? = some x := by
          rw [hrep, List.getLast?_append, hx]; rfl
        rw [List.getLast?_append] at hlast
        cases e : (trz b).getLast? with
        | none => simp at e; rw [e] at hz; simp at hz
        | some y =>
          rw [e] at hlast
          have hy : y = x := by simpa using hlast
          rw [← hy]
          exact trz_last e
      have := coef_out n hn (negD s) _ hD (by omega) (-((trz b).length : Int)) (by omega) hq 0 0 0 0 0 0
      refine this.trans ?_
      rw [hval]
  · have e : ((lookR s).1 == 0) = false := by simpa using h
    unfold parseR
    rw [if_neg h, e]
    rfl
end Go.AM
set_option linter.unusedVariables false
set_option linter.unusedSimpArgs false
namespace Go.AM
def checkR (neg : Bool) (c : Nat) (e : Int) : Int :=
  if c ≠ 0 ∧ (e < -18 ∨ e > 18) then 10 else if (valR neg (Lib.decDigits c) e).2.1 = 0 ∧ (valR neg (Lib.decDigits c) e).1 = (neg, (c : Int), e, ()) then 0 else 21
theorem decD_beq (a b : DecD) : ((a.1 == b.1) && ((a.2.1 == b.2.1) && (a.2.2.1 == b.2.2.1))) = decide (a = b) := by
  obtain ⟨a1, a2, a3, _⟩ := a
  obtain ⟨b1, b2, b3, _⟩ := b
  by_cases h : (((a1, a2, a3, ()) : DecD) = (b1, b2, b3, ()))
  · have : a1 = b1 ∧ a2 = b2 ∧ a3 = b3 := by simpa using h
    rw [decide_eq_true h]
    simp [this]
  · rw [decide_eq_false h]
    have : ¬ (a1 = b1 ∧ a2 = b2 ∧ a3 = b3) := fun hh => h (by simp [hh])
    simp only [Bool.and_eq_false_iff, beq_eq_false_iff_ne]
    by_cases g1 : a1 = b1
    · by_cases g2 : a2 = b2
      · exact Or.inr (Or.inr fun g3 => this ⟨g1, g2, g3⟩)
      · exact Or.inr (Or.inl g2)
    · exact Or.inl g1
theorem check_tail (neg : Bool) (c : Nat) (e : Int) (r : DecR) (hr : r = valR neg (Lib.decDigits c) e) :
    (bif !(r.2.1 == (0 : Int)) then some ((21 : Int)) else bif !((r.1.1 == neg) && ((r.1.2.1 == (c : Int)) && (r.1.2.2.1 == e))) then some ((21 : Int)) else some ((0 : Int)))
     = some (if (valR neg (Lib.decDigits c) e).2.1 = 0 ∧ (valR neg (Lib.decDigits c) e).1 = (neg, (c : Int), e, ()) then 0 else 21) := by
  subst hr
  have hb := decD_beq (valR neg (Lib.decDigits c) e).1 (neg, (c : Int), e, ())
  simp only at hb
  rw [hb]
  by_cases h1 : (valR neg (Lib.decDigits c) e).2.1 = 0
  · have e1 : ((valR neg (Lib.decDigits c) e).2.1 == 0) = true := by simp [h1]
    rw [e1]
    by_cases h2 : (valR neg (Lib.decDigits c) e).1 = (neg, (c : Int), e, ())
    · rw [decide_eq_true h2, if_pos ⟨h1, h2⟩]; rfl
    · rw [decide_eq_false h2, if_neg (fun h => h2 h.2)]; rfl
  · have e1 : ((valR neg (Lib.decDigits c) e).2.1 == 0) = false := by simpa using h1
    rw [e1, if_neg (fun h => h1 h.1)]; rfl
theorem check_eq (n : Nat) (hn : 100 ≤ n) (neg : Bool) (c : Nat) (hc : c < two64) (e : Int) (he : -9223372036854775808 ≤ e ∧ e ≤ 9223372036854775807) : F.dec_Check n (neg, (c : Int), e, ()) = some (checkR neg c e) := by
  unfold F.dec_Check checkR
  simp only [normal_eq n hn neg c hc e he, some_bind']
  have T := check_tail neg c e _ rfl
  by_cases h0 : c = 0
  · have e0 : (((c : Int)) == 0) = true := by simp [h0]
    rw [e0, if_neg (fun h => h.1 h0)]
    exact T
  · have e0 : (((c : Int)) == 0) = false := by simpa using h0
    rw [e0]
    simp only [Bool.not_false, cond_true]
    by_cases h1 : e < -18
    · rw [bif_pos h1, if_pos ⟨h0, Or.inl h1⟩]
    · rw [bif_neg h1]
      by_cases h2 : e > 18
      · rw [bif_pos h2, if_pos ⟨h0, Or.inr h2⟩]
      · rw [bif_neg h2, if_neg (by omega)]
        exact T
theorem dd_len64 {c : Nat} (hc : c < two64) : (Lib.decDigits c).length ≤ 20 := by rw [dd_length]; exact Lib.nDigits_le20 c hc
theorem check_ref (n : Nat) (hn : 5000 ≤ n) (neg : Bool) (c : Nat) (hc : c < two64) (e : Int) : F.ref03_Check n (neg, (c : Int), e, ()) = some (checkR neg c e) := by
  unfold F.ref03_Check checkR
  have hl := dd_len64 hc
  simp only [digits03 n (by omega) c hc, make_eq n hn neg _ (dd_digs c) (by omega) e, some_bind']
  have T := check_tail neg c e _ rfl
  have T' : (bif !((valR neg (Lib.decDigits c) e).2.1 == 0) then some (21 : Int) else bif !(((valR neg (Lib.decDigits c) e).1.1 == neg) && (((valR neg (Lib.decDigits c) e).1.2.1 == (c : Int)) && ((valR neg (Lib.decDigits c) e).1.2.2.1 == e))) then some ((21 : Int)) else some ((0 : Int))) = _ := T
  by_cases h0 : c = 0
  · have e0 : (((c : Int)) == 0) = true := by simp [h0]
    rw [e0, if_neg (fun h => h.1 h0)]
    exact T'
  · have e0 : (((c : Int)) == 0) = false := by simpa using h0
    rw [e0]
    simp only [Bool.not_false, cond_true]
    by_cases h1 : e < -18
    · rw [bif_pos h1, if_pos ⟨h0, Or.inl h1⟩]
    · rw [bif_neg h1]
      by_cases h2 : e > 18
      · rw [bif_pos h2, if_pos ⟨h0, Or.inr h2⟩]
      · rw [bif_neg h2, if_neg (by omega)]
        exact T'
theorem check_zero {neg : Bool} {c : Nat} {e : Int} (h : checkR neg c e = 0) : valR neg (Lib.decDigits c) e = ((neg, (c : Int), e, ()), 0, ()) ∧ -18 ≤ e ∧ e ≤ 18 := by
  unfold checkR at h
  by_cases h1 : c ≠ 0 ∧ (e < -18 ∨ e > 18)
  · rw [if_pos h1] at h; cases h
  rw [if_neg h1] at h
  by_cases h2 : (valR neg (Lib.decDigits c) e).2.1 = 0 ∧ (valR neg (Lib.decDigits c) e).1 = (neg, (c : Int), e, ())
  · have h3 : valR neg (Lib.decDigits c) e = ((neg, (c : Int), e, ()), 0, ()) := by
      obtain ⟨a, b⟩ := h2
      generalize valR neg (Lib.decDigits c) e = r at a b ⊢
      obtain ⟨r1, r2, _⟩ := r
      simp only at a b
      rw [a, b]
    refine ⟨h3, ?_⟩
    by_cases h0 : c = 0
    · subst h0
      unfold valR at h3
      rw [if_pos (dd_val 0)] at h3
      have : (0 : Int) = e := congrArg (fun r : DecR => r.1.2.2.1) h3
      omega
    · omega
  · rw [if_neg h2] at h; cases h
def sgn (neg : Bool) : List UInt8 := if neg then [45] else []
def wideW (c : Nat) (e : Int) : List UInt8 := List.replicate (1 - e - (Lib.decDigits c).length).toNat 48 ++ Lib.decDigits c
def textD (neg : Bool) (c : Nat) (e : Int) : List UInt8 :=
  if 0 ≤ e then sgn neg ++ (Lib.decDigits c ++ List.replicate e.toNat 48)
  else sgn neg ++ ((wideW c e).take ((wideW c e).length - e.natAbs) ++ [46] ++ (wideW c e).drop ((wideW c e).length - e.natAbs))
theorem repeatL_one (k : Nat) : Lib.repeatL [48] k = List.replicate k 48 := by
  induction k with
  | zero => rfl
  | succ k ih => rw [Lib.repeatL, ih]; rfl
theorem repeat_eq (n : Nat) {k : Int} (h : 0 ≤ k ∧ k ≤ 100000) : O.repeat' n [48] k = some (List.replicate k.toNat 48) := by
  unfold O.repeat'
  have hb : (decide (0 ≤ k) && Nat.ble k.toNat big47 && Nat.ble (([48] : List UInt8).length * k.toNat) big47) = true := by
    rw [Bool.and_eq_true, Bool.and_eq_true, Nat.ble_eq, Nat.ble_eq]
    unfold big47
    simp only [List.length_cons, List.length_nil]
    refine ⟨⟨by simp; omega, by omega⟩, by omega⟩
  rw [hb, cond_true, repeatL_one]
theorem wideW_len (c : Nat) (hc : c < two64) (e : Int) (he : -18 ≤ e ∧ e < 0) : e.natAbs < (wideW c e).length ∧ (wideW c e).length ≤ 40 ∧ Digs (wideW c e) := by
  have := dd_len64 hc
  unfold wideW
  refine ⟨?_, ?_, digs_append.2 ⟨digs_rep _, dd_digs c⟩⟩
  · simp; omega
  · simp; omega
theorem text_dec (n : Nat) (hn : 5000 ≤ n) (neg : Bool) (c : Nat) (hc : c < two64) (e : Int) (he : -9223372036854775808 ≤ e ∧ e ≤ 9223372036854775807) : F.dec_Text n (neg, (c : Int), e, ()) = some (if checkR neg c e = 0 then (textD neg c e, 0, ()) else ([], checkR neg c e, ())) := by
  unfold F.dec_Text
  simp only [check_eq n (by omega) neg c hc e he, some_bind']
  by_cases h : checkR neg c e = 0
  · obtain ⟨h1, h2, h3⟩ := check_zero h
    have hl := dd_len64 hc
    rw [h, if_pos rfl]
    have e0 : (!((0 : Int) == 0)) = false := rfl
    rw [e0, cond_false]
    have hf : O.futoa n (c : Int) 10 = some (Lib.decDigits c) := by
      unfold O.futoa
      have : (decide ((0 : Int) ≤ (c : Int)) && decide ((c : Int) < 18446744073709551616) && decide ((10 : Int) = 10)) = true := by
        rw [two64_eq] at hc
        simp; omega
      rw [this]; rfl
    rw [hf, some_bind']
    unfold textD
    by_cases hE : 0 ≤ e
    · rw [bif_pos hE, if_pos hE, repeat_eq n (by omega), some_bind', bif_pos (by rw [strMax_eq]; simp; omega)]
      cases neg
      · rfl
      · rw [cond_true, bif_pos (by rw [strMax_eq]; simp; omega)]
        rfl
    · obtain ⟨w1, w2, w3⟩ := wideW_len c hc e (by omega)
      have hmax : (if (IntKind.wrap .i64 ((IntKind.wrap .i64 ((1 : Int) - e)) - ((Lib.decDigits c).length : Int))) > (0 : Int) then (IntKind.wrap .i64 ((IntKind.wrap .i64 ((1 : Int) - e)) - ((Lib.decDigits c).length : Int))) else (0 : Int)) = (((1 - e - (Lib.decDigits c).length).toNat : Nat) : Int) := by
        rw [wrap_in (x := (1 : Int) - e) (by omega), wrap_in (by omega)]
        split <;> omega
      have hwl : (List.replicate (1 - e - (Lib.decDigits c).length).toNat (48 : UInt8)).length + (Lib.decDigits c).length = (wideW c e).length := by unfold wideW; simp
      rw [bif_neg (by omega), if_neg hE, hmax, repeat_eq n (by omega), some_bind', Int.toNat_natCast, bif_pos (by rw [strMax_eq]; omega)]
      have hww : List.replicate (1 - e - (Lib.decDigits c).length).toNat (48 : UInt8) ++ Lib.decDigits c = wideW c e := rfl
      rw [hww]
      generalize wideW c e = w at w1 w2 w3
      have hat : IntKind.wrap .i64 ((w.length : Int) + e) = ((w.length - e.natAbs : Nat) : Int) := by rw [wrap_in (by omega)]; omega
      rw [hat]
      have s1 : sub w 0 ((w.length - e.natAbs : Nat) : Int) = some (w.take (w.length - e.natAbs)) := by
        have := sub_nat w 0 (w.length - e.natAbs) (by omega) (by omega)
        rw [List.drop_zero] at this
        exact this
      have s2 : sub w ((w.length - e.natAbs : Nat) : Int) (w.length : Int) = some (w.drop (w.length - e.natAbs)) := by
        have := sub_nat w (w.length - e.natAbs) w.length (by omega) (Nat.le_refl _)
        rw [List.take_length] at this
        exact this
      rw [s1, some_bind', bif_pos (by rw [strMax_eq]; simp; omega), s2, some_bind', bif_pos (by rw [strMax_eq]; simp; omega)]
      cases neg
      · rfl
      · rw [cond_true, bif_pos (by rw [strMax_eq]; simp; omega)]
        rfl
  · have e0 : (checkR neg c e == 0) = false := by simpa using h
    rw [e0, if_neg h]
    rfl
theorem sgn_len (neg : Bool) : (sgn neg).length = if neg then 1 else 0 := by cases neg <;> rfl
theorem p0_form (neg : Bool) {a : List UInt8} (ha : Digs a) (hne : a ≠ []) (t : List UInt8) : p0 (sgn neg ++ (a ++ t)) = (sgn neg).length ∧ negD (sgn neg ++ (a ++ t)) = neg := by
  cases a with
  | nil => exact absurd rfl hne
  | cons b a =>
    obtain ⟨h1, _⟩ := digs_cons.1 ha
    have hb : ¬ b = 45 := fun h => by subst h; simp [isDig] at h1
    unfold p0 negD
    cases neg
    · simp [sgn, hb]
    · simp [sgn]
theorem parse_whole (neg : Bool) {a : List UInt8} (ha : Digs a) (hne : a ≠ []) : parseR (sgn neg ++ a) = outR (valR neg a 0) := by
  have hp := p0_form neg ha hne []
  rw [List.append_nil] at hp
  obtain ⟨h0, hneg⟩ := hp
  have hlen : 0 < a.length := List.length_pos_iff.2 hne
  have hd0 : (sgn neg ++ a).drop (sgn neg).length = a := by rw [List.drop_left']; rfl
  have htw : tw a = a := by
    have := tw_append ha (t := []) (by simp)
    rw [List.append_nil] at this
    exact this
  have h1 : p1q (sgn neg).length (sgn neg ++ a) = (sgn neg ++ a).length := by unfold p1q; rw [hd0, htw, List.length_append]
  have hdr : (sgn neg ++ a).drop (sgn neg ++ a).length = [] := List.drop_length
  have hl : lookR (sgn neg ++ a) = (0, 0, ()) := by
    unfold lookR lookQ endR
    rw [h0, h1, hdr, if_neg (by simp), if_pos ⟨by rw [List.length_append]; omega, rfl⟩]
  have hb : behindD (sgn neg ++ a) = [] := by unfold behindD; rw [h0, h1, hdr]; rfl
  have hA : aheadD (sgn neg ++ a) = a := by unfold aheadD; rw [h0, hd0, htw]
  unfold parseR
  rw [hl, if_pos rfl, hb, hA, hneg, List.append_nil]
  rfl
theorem parse_point (neg : Bool) {a b : List UInt8} (ha : Digs a) (hne : a ≠ []) (hb : Digs b) (hbn : b ≠ []) : parseR (sgn neg ++ (a ++ 46 :: b)) = outR (valR neg (a ++ b) (-(b.length : Int))) := by
  obtain ⟨h0, hneg⟩ := p0_form neg ha hne (46 :: b)
  have hlen : 0 < a.length := List.length_pos_iff.2 hne
  have hlb : 0 < b.length := List.length_pos_iff.2 hbn
  have hd0 : (sgn neg ++ (a ++ 46 :: b)).drop (sgn neg).length = a ++ 46 :: b := by rw [List.drop_left']; rfl
  have htw : tw (a ++ 46 :: b) = a := tw_append ha (by simp [isDig])
  have h1 : p1q (sgn neg).length (sgn neg ++ (a ++ 46 :: b)) = (sgn neg).length + a.length := by unfold p1q; rw [hd0, htw]
  have hdr : (sgn neg ++ (a ++ 46 :: b)).drop ((sgn neg).length + a.length) = 46 :: b := by
    rw [← List.drop_drop, hd0, List.drop_left']; rfl
  have hdr2 : (sgn neg ++ (a ++ 46 :: b)).drop ((sgn neg).length + a.length + 1) = b := by
    rw [← List.drop_drop, hdr]; rfl
  have htb : tw b = b := by
    have := tw_append hb (t := []) (by simp)
    rw [List.append_nil] at this
    exact this
  have h3 : p3q (sgn neg).length (sgn neg ++ (a ++ 46 :: b)) = (sgn neg).length + a.length + 1 + b.length := by unfold p3q; rw [h1, hdr2, htb]
  have hL : (sgn neg ++ (a ++ 46 :: b)).length = (sgn neg).length + a.length + 1 + b.length := by simp; omega
  have hl : lookR (sgn neg ++ (a ++ 46 :: b)) = (0, 0, ()) := by
    unfold lookR lookQ endR
    rw [h0, h1, hdr, if_pos ⟨by omega, rfl⟩, h3, if_pos ⟨by omega, hL.symm⟩]
  have hB : behindD (sgn neg ++ (a ++ 46 :: b)) = b := by unfold behindD; rw [h0, h1, hdr, if_pos (show (46 :: b).head? = some 46 from rfl), hdr2, htb]
  have hA : aheadD (sgn neg ++ (a ++ 46 :: b)) = a := by unfold aheadD; rw [h0, hd0, htw]
  unfold parseR
  rw [hl, if_pos rfl, hB, hA, hneg]
theorem text_len (neg : Bool) (c : Nat) (hc : c < two64) (e : Int) (he : -18 ≤ e ∧ e ≤ 18) : (textD neg c e).length ≤ 39 ∧ (0 ≤ e ∨ e < 0) := by
  have hl := dd_len64 hc
  have hs : (sgn neg).length ≤ 1 := by cases neg <;> decide
  refine ⟨?_, by omega⟩
  unfold textD
  by_cases h : 0 ≤ e
  · rw [if_pos h]; simp; omega
  · rw [if_neg h]
    obtain ⟨w1, w2, w3⟩ := wideW_len c hc e (by omega)
    have : (wideW c e).length ≤ 20 ∨ (wideW c e).length = (1 - e).toNat := by unfold wideW; simp; omega
    simp
    omega
theorem parse_text (neg : Bool) (c : Nat) (hc : c < two64) (e : Int) (h : checkR neg c e = 0) : parseR (textD neg c e) = ((neg, (c : Int), e, ()), (0, 0, ()), ()) := by
  obtain ⟨h1, h2, h3⟩ := check_zero h
  have fin : outR (valR neg (Lib.decDigits c) e) = ((neg, (c : Int), e, ()), (0, 0, ()), ()) := by rw [h1]; rfl
  unfold textD
  by_cases hE : 0 ≤ e
  · rw [if_pos hE, parse_whole neg (digs_append.2 ⟨dd_digs c, digs_rep _⟩) (by simp [dd_ne]), valR_zeros_right _ (dd_digs c), ← fin]
    congr 2
    omega
  · obtain ⟨w1, w2, w3⟩ := wideW_len c hc e (by omega)
    rw [if_neg hE]
    have hT : (wideW c e).take ((wideW c e).length - e.natAbs) ≠ [] := by
      intro hh
      have := congrArg List.length hh
      simp at this
      omega
    have hD : (wideW c e).drop ((wideW c e).length - e.natAbs) ≠ [] := by
      intro hh
      have := congrArg List.length hh
      simp at this
      omega
    rw [List.append_assoc, List.singleton_append, parse_point neg (digs_take _ w3) hT (digs_drop _ w3) hD, List.take_append_drop, ← fin]
    have hlen : ((wideW c e).drop ((wideW c e).length - e.natAbs)).length = e.natAbs := by simp; omega
    rw [hlen]
    have hv : valR neg (wideW c e) (-(e.natAbs : Int)) = valR neg (Lib.decDigits c) (-(e.natAbs : Int)) := valR_zeros_left neg (dd_digs c) _ _
    rw [hv, show (-(e.natAbs : Int)) = e from by omega]
end Go.AM
set_option linter.unusedVariables false
set_option linter.unusedSimpArgs false
namespace Go.AM
def seg (c : UInt8) (s : List UInt8) : List UInt8 := s.takeWhile (· != c)
theorem seg_cons (c b : UInt8) (s : List UInt8) : seg c (b :: s) = if b = c then [] else b :: seg c s := by
  unfold seg
  by_cases h : b = c
  · subst h; simp [List.takeWhile_cons]
  · simp [List.takeWhile_cons, h]
theorem seg_le (c : UInt8) (s : List UInt8) : (seg c s).length ≤ s.length := (List.takeWhile_sublist _).length_le
theorem seg_idx (c : UInt8) (s : List UInt8) : Lib.indexByte s c = if c ∈ s then ((seg c s).length : Int) else -1 := by
  induction s with
  | nil => simp [Lib.indexByte]
  | cons b s ih =>
    rw [seg_cons]
    simp only [Lib.indexByte, beq_iff_eq, List.mem_cons]
    by_cases h : b = c
    · subst h; simp
    · rw [if_neg h, ih]
      have h' : ¬ c = b := fun hh => h hh.symm
      by_cases hm : c ∈ s
      · rw [if_pos hm, if_pos (Or.inr hm), if_neg h]
        rw [if_neg (by omega), List.length_cons]
        omega
      · rw [if_neg hm, if_pos rfl, if_neg (by simp [h', hm])]
theorem seg_all {c : UInt8} {s : List UInt8} (h : c ∉ s) : seg c s = s := by
  induction s with
  | nil => rfl
  | cons b s ih =>
    rw [seg_cons, if_neg (fun hh => h (by simp [hh])), ih (fun hh => h (by simp [hh]))]
theorem seg_lt {c : UInt8} {s : List UInt8} (h : c ∈ s) : (seg c s).length < s.length := by
  induction s with
  | nil => simp at h
  | cons b s ih =>
    rw [seg_cons]
    by_cases hb : b = c
    · rw [if_pos hb]; simp
    · rw [if_neg hb]
      have : c ∈ s := by
        rcases List.mem_cons.1 h with rfl | h
        · exact absurd rfl hb
        · exact h
      have := ih this
      simp
      omega
theorem seg_take (c : UInt8) (s : List UInt8) : s.take (seg c s).length = seg c s := by
  induction s with
  | nil => rfl
  | cons b s ih =>
    rw [seg_cons]
    by_cases hb : b = c
    · rw [if_pos hb]; rfl
    · rw [if_neg hb]; simp [ih]
theorem cut_eq (n : Nat) (c : UInt8) {s : List UInt8} (hs : s.length ≤ 1000000) : F.strings_Cut n s [c] = some (seg c s, (if c ∈ s then s.drop ((seg c s).length + 1) else []), decide (c ∈ s), ()) := by
  unfold F.strings_Cut F.stringslite_Cut O.index1
  simp only [some_bind']
  rw [seg_idx]
  by_cases h : c ∈ s
  · have hl := seg_lt h
    have s1 : sub s 0 ((seg c s).length : Int) = some (seg c s) := by
      have := sub_nat s 0 (seg c s).length (by omega) (by omega)
      rw [List.drop_zero, seg_take] at this
      exact this
    have s2 : sub s (((seg c s).length + 1 : Nat) : Int) (s.length : Int) = some (s.drop ((seg c s).length + 1)) := by
      have := sub_nat s ((seg c s).length + 1) s.length (by omega) (Nat.le_refl _)
      rw [List.take_length] at this
      exact this
    have hw : IntKind.wrap .i64 (((seg c s).length : Int) + ((([c] : List UInt8).length : Nat) : Int)) = (((seg c s).length + 1 : Nat) : Int) := wrap_succ (by omega)
    simp only [h, if_true, decide_true]
    rw [bif_pos (by omega), s1, some_bind', hw, s2]
    rfl
  · simp only [h, if_false, decide_false]
    rw [bif_neg (by omega), seg_all h]
    rfl
abbrev KR (X : Type) := List UInt8 → List UInt8 → Int → List (Bool × Int × Int) → Int → List (List UInt8 × List UInt8) → Int → Int → Int → Option X
section
variable {X : Type} (n : Nat) (kr : KR X)
def badK' (kr : KR X) (s : List UInt8) (c a : Int) : Option X := kr s [] 0 [] 0 [] 0 c a
theorem c31_eq (c9 : Bool) (s : List UInt8) (b10 : List UInt8) (b11 : Int) (b12 : List (Bool × Int × Int)) (b13 : Int) (b14 : List (List UInt8 × List UInt8)) (b15 b20 b21 b3 : Int) (d0 : List UInt8) (d1 : Int) (d2 : List (Bool × Int × Int)) (d3 : Int) (d4 : List (List UInt8 × List UInt8)) (d5 : Int) (k0 k1 k2 k3 : Nat) :
    F.statsd_Parse.C31 n kr c9 s b10 b11 b12 b13 b14 b15 b20 b21 b3 d0 d1 d2 d3 d4 d5 k0 k1 k2 k3 = if c9 = true then badK' kr s 11 (IntKind.wrap .i64 (b3 - 1)) else kr s d0 d1 d2 d3 d4 d5 0 0 := by
  cases c9 <;> rfl
theorem c28_eq (hn : 100 ≤ n) (c9 : Bool) (kind : Int) (rate : List UInt8) (hr : rate.length ≤ 1000) (hl : rate.length < n) (at' : Int) (s : List UInt8) (b10 : List UInt8) (b11 : Int) (b12 : List (Bool × Int × Int)) (b13 : Int) (b14 : List (List UInt8 × List UInt8)) (b15 b20 b21 b3 : Int) (d0 : List UInt8) (d1 : Int) (d2 : List (Bool × Int × Int)) (d3 : Int) (d4 : List (List UInt8 × List UInt8)) (d5 : Int) (e0 : Bool) (e1 e2 f0 f1 : Int) (k0 k1 k2 k3 : Nat) :
    F.statsd_Parse.C28 n kr c9 kind rate at' s b10 b11 b12 b13 b14 b15 b20 b21 b3 d0 d1 d2 d3 d4 d5 e0 e1 e2 f0 f1 k0 k1 k2 k3 =
      if ¬ (rateR rate).2.1.1 = 0 ∨ (kind = 2 ∧ ¬ (rateR rate).1 = 1000000) then badK' kr s 18 at' else if c9 = true then badK' kr s 11 (IntKind.wrap .i64 (b3 - 1)) else kr s d0 d1 d2 (rateR rate).1 d4 d5 0 0 := by
  unfold F.statsd_Parse.C28
  rw [rate_num n hn rate (by omega) hl, some_bind']
  have c30 : ∀ (kn : Bool → List UInt8 → List UInt8 → Int → List (Bool × Int × Int) → Int → List (List UInt8 × List UInt8) → Int → Int → Int → Int → List UInt8 → Int → List (Bool × Int × Int) → Int → List (List UInt8 × List UInt8) → Int → Nat → Nat → Nat → Nat → Option X) (t : Bool) (r : Int), F.statsd_Parse.C30 n kr kn c9 at' t s b10 b11 b12 b13 b14 b15 b20 b21 b3 d0 d1 d2 r d4 d5 k0 k1 k2 k3 = if t = true then badK' kr s 18 at' else kn c9 s b10 b11 b12 b13 b14 b15 b20 b21 b3 d0 d1 d2 r d4 d5 k0 k1 k2 k3 := by
    intro kn t r
    cases t <;> rfl
  by_cases h0 : (rateR rate).2.1.1 = 0
  · have h1 := (rate_ok h0).1
    have e : (!((rateR rate).2.1.1 == 0 && (rateR rate).2.1.2.1 == 0)) = false := by rw [h0, h1]; rfl
    rw [e, cond_false]
    by_cases hk : kind = 2
    · have ek : (kind == 2) = true := by simp [hk]
      rw [ek, cond_true]
      refine (c30 _ _ _).trans ?_
      by_cases hr1 : (rateR rate).1 = 1000000
      · have e2 : (!((rateR rate).1 == 1000000)) = false := by simp [hr1]
        rw [e2, if_neg (by simp), if_neg (by simp [h0, hr1])]
        exact c31_eq n kr c9 s b10 b11 b12 b13 b14 b15 b20 b21 b3 d0 d1 d2 _ d4 d5 k0 k1 k2 k3
      · have e2 : (!((rateR rate).1 == 1000000)) = true := by simpa using hr1
        rw [e2, if_pos rfl, if_pos (Or.inr ⟨hk, hr1⟩)]
    · have ek : (kind == 2) = false := by simpa using hk
      rw [ek, cond_false]
      refine (c30 _ _ _).trans ?_
      rw [if_neg (by simp), if_neg (by simp [h0, hk])]
      exact c31_eq n kr c9 s b10 b11 b12 b13 b14 b15 b20 b21 b3 d0 d1 d2 _ d4 d5 k0 k1 k2 k3
  · have e : (!((rateR rate).2.1.1 == 0 && (rateR rate).2.1.2.1 == 0)) = true := by
      have : ((rateR rate).2.1.1 == 0) = false := by simpa using h0
      rw [this]; rfl
    rw [e, cond_true]
    refine (c30 _ _ _).trans ?_
    rw [if_pos rfl, if_pos (Or.inl h0)]
theorem sub_tail {s : List UInt8} {p : Nat} (h : p ≤ s.length) : sub s (p : Int) (s.length : Int) = some (s.drop p) := by
  have := sub_nat s p s.length h (Nat.le_refl _)
  rw [List.take_length] at this
  exact this
def rateS (kr : KR X) (s name : List UInt8) (kind : Int) (v : List (Bool × Int × Int)) (r0 : Int) (tags : List (List UInt8 × List UInt8)) (time : Int) (is3 : Bool) (p : Nat) : Option X :=
  if is3 = false then kr s name kind v r0 tags time 0 0
  else if ¬ (s.drop p).head? = some 64 then badK' kr s 11 p
  else if ¬ (rateR (seg 124 (s.drop (p + 1)))).2.1.1 = 0 ∨ (kind = 2 ∧ ¬ (rateR (seg 124 (s.drop (p + 1)))).1 = 1000000) then badK' kr s 18 ((p + 1 : Nat) : Int)
  else if 124 ∈ s.drop (p + 1) then badK' kr s 11 ((p + 1 + (seg 124 (s.drop (p + 1))).length : Nat) : Int) else kr s name kind v (rateR (seg 124 (s.drop (p + 1)))).1 tags time 0 0
theorem c21_eq (hn : 2000 ≤ n) (name : List UInt8) (is3 : Bool) (kind : Int) (s : List UInt8) (hs : s.length ≤ 1000) (b10 : List UInt8) (b11 : Int) (b12 : List (Bool × Int × Int)) (b13 : Int) (b14 : List (List UInt8 × List UInt8)) (b15 b20 b21 : Int) (p : Nat) (hp : p ≤ s.length) (d0 : List UInt8) (d1 : Int) (d2 : List (Bool × Int × Int)) (d3 : Int) (d4 : List (List UInt8 × List UInt8)) (d5 : Int) (e0 : Bool) (e1 e2 f0 f1 : Int) (k0 k1 k2 k3 : Nat) :
    F.statsd_Parse.C21 n kr name is3 kind s b10 b11 b12 b13 b14 b15 b20 b21 (p : Int) d0 d1 d2 d3 d4 d5 e0 e1 e2 f0 f1 k0 k1 k2 k3 = rateS kr s name kind [(e0, e1, e2)] d3 d4 d5 is3 p := by
  unfold F.statsd_Parse.C21 rateS
  cases is3
  · rfl
  · rw [Bool.not_true, cond_false, if_neg (by simp), sub_tail hp, some_bind', hasPrefix_one, some_bind']
    by_cases h64 : (s.drop p).head? = some 64
    · have hlt := drop_lt h64
      have hsl := seg_le 124 (s.drop (p + 1))
      have hdl : (s.drop (p + 1)).length = s.length - (p + 1) := by simp
      rw [decide_eq_true h64, Bool.not_true, cond_false, if_neg (fun h => h h64), wrap_succ (by omega), sub_tail (by omega), some_bind', cut_eq n 124 (by omega), some_bind']
      have w1 : IntKind.wrap .i64 (((p + 1 : Nat) : Int) + ((seg 124 (s.drop (p + 1))).length : Int)) = ((p + 1 + (seg 124 (s.drop (p + 1))).length : Nat) : Int) := by rw [wrap_in (by omega)]; omega
      simp only [w1]
      by_cases hm : 124 ∈ s.drop (p + 1)
      · simp only [hm, decide_true, cond_true, if_true]
        rw [wrap_succ (by omega)]
        refine (c28_eq n kr (by omega) true kind _ (by omega) (by omega) _ s b10 b11 b12 b13 b14 b15 b20 b21 _ name kind [(e0, e1, e2)] d3 d4 d5 e0 e1 e2 f0 f1 k0 k1 1 k3).trans ?_
        rw [if_pos rfl, wrap_in (by omega)]
        congr 2
        omega
      · simp only [hm, decide_false, cond_false, if_false]
        exact (c28_eq n kr (by omega) false kind _ (by omega) (by omega) _ s b10 b11 b12 b13 b14 b15 b20 b21 _ name kind [(e0, e1, e2)] d3 d4 d5 e0 e1 e2 f0 f1 k0 k1 1 k3)
    · rw [decide_eq_false h64, Bool.not_false, cond_true, if_pos h64]
      rfl
def kindS (kr : KR X) (s name : List UInt8) (word value : List UInt8) (av aw : Int) (v : List (Bool × Int × Int)) (r0 : Int) (tags : List (List UInt8 × List UInt8)) (time : Int) (is3 : Bool) (p : Nat) : Option X :=
  if kindOf word = 0 then badK' kr s 16 aw else if kindOf word = 2 ∧ value.head? = some 45 then badK' kr s 26 av else rateS kr s name (kindOf word) v r0 tags time is3 p
theorem c16_eq (hn : 2000 ≤ n) (name : List UInt8) (is3 : Bool) (value : List UInt8) (av : Int) (word : List UInt8) (aw : Int) (s : List UInt8) (hs : s.length ≤ 1000) (b10 : List UInt8) (b11 : Int) (b12 : List (Bool × Int × Int)) (b13 : Int) (b14 : List (List UInt8 × List UInt8)) (b15 b20 b21 : Int) (p : Nat) (hp : p ≤ s.length) (d0 : List UInt8) (d1 : Int) (d2 : List (Bool × Int × Int)) (d3 : Int) (d4 : List (List UInt8 × List UInt8)) (d5 : Int) (e0 : Bool) (e1 e2 f0 f1 : Int) (k0 k1 k2 k3 : Nat) :
    F.statsd_Parse.C16 n kr name is3 value av word aw s b10 b11 b12 b13 b14 b15 b20 b21 (p : Int) d0 d1 d2 d3 d4 d5 e0 e1 e2 f0 f1 k0 k1 k2 k3 = kindS kr s name word value av aw [(e0, e1, e2)] d3 d4 d5 is3 p := by
  unfold F.statsd_Parse.C16 kindS
  rw [kind_eq n (by omega), some_bind']
  unfold kindR
  by_cases h0 : kindOf word = 0
  · rw [if_pos h0, if_pos h0]; rfl
  · have e0' : (!((0 : Int) == 0)) = false := rfl
    rw [if_neg h0, if_neg h0]
    simp only [e0', cond_false]
    by_cases h2 : kindOf word = 2
    · have e2' : (kindOf word == 2) = true := by simp [h2]
      rw [e2', cond_true, hasPrefix_one, some_bind']
      by_cases h45 : value.head? = some 45
      · rw [decide_eq_true h45, cond_true, if_pos ⟨h2, h45⟩]; rfl
      · rw [decide_eq_false h45, cond_false, if_neg (fun h => h45 h.2)]
        exact c21_eq n kr hn name is3 _ s hs b10 b11 b12 b13 b14 b15 b20 b21 p hp d0 d1 d2 d3 d4 d5 e0 e1 e2 f0 f1 k0 k1 k2 k3
    · have e2' : (kindOf word == 2) = false := by simpa using h2
      rw [e2', cond_false, if_neg (fun h => h2 h.1)]
      exact c21_eq n kr hn name is3 _ s hs b10 b11 b12 b13 b14 b15 b20 b21 p hp d0 d1 d2 d3 d4 d5 e0 e1 e2 f0 f1 k0 k1 k2 k3
def nextP (c : UInt8) (s : List UInt8) (p : Nat) : Nat := p + (seg c (s.drop p)).length + (if c ∈ s.drop p then 1 else 0)
theorem nextP_le {c : UInt8} {s : List UInt8} {p : Nat} (h : p ≤ s.length) : nextP c s p ≤ s.length := by
  unfold nextP
  by_cases hm : c ∈ s.drop p
  · have := seg_lt hm
    simp at this
    rw [if_pos hm]; omega
  · have := seg_le c (s.drop p)
    simp at this
    rw [if_neg hm]; omega
def valueS (kr : KR X) (s name : List UInt8) (value : List UInt8) (av : Nat) (r0 : Int) (tags : List (List UInt8 × List UInt8)) (time : Int) (is2 : Bool) (p : Nat) : Option X :=
  if ¬ (parseR value).2.1.1 = 0 then badK' kr s 17 av else if is2 = false then badK' kr s 11 s.length
  else kindS kr s name (seg 124 (s.drop p)) value av p [((parseR value).1.1, (parseR value).1.2.1, (parseR value).1.2.2.1)] r0 tags time (decide (124 ∈ s.drop p)) (nextP 124 s p)
theorem parseR_at {s : List UInt8} (h : (parseR s).2.1.1 = 0) : (parseR s).2.1.2.1 = 0 := by
  unfold parseR outR badR at h ⊢
  split
  · rename_i h1
    rw [if_pos h1] at h
    split
    · rfl
    · rename_i h2
      rw [if_neg h2] at h
      first | done | exact absurd h h2
  · rename_i h1
    rw [if_neg h1] at h
    exact absurd h h1
theorem c10_eq (hn : 5000 ≤ n) (name : List UInt8) (is2 : Bool) (value : List UInt8) (hv : value.length ≤ 1000) (av : Nat) (s : List UInt8) (hs : s.length ≤ 1000) (b10 : List UInt8) (b11 : Int) (b12 : List (Bool × Int × Int)) (b13 : Int) (b14 : List (List UInt8 × List UInt8)) (b15 b20 b21 : Int) (p : Nat) (hp : p ≤ s.length) (d0 : List UInt8) (d1 : Int) (d2 : List (Bool × Int × Int)) (d3 : Int) (d4 : List (List UInt8 × List UInt8)) (d5 : Int) (k0 k1 k2 k3 : Nat) :
    F.statsd_Parse.C10 n kr name is2 value (av : Int) s b10 b11 b12 b13 b14 b15 b20 b21 (p : Int) d0 d1 d2 d3 d4 d5 k0 k1 k2 k3 = valueS kr s name value av d3 d4 d5 is2 p := by
  unfold F.statsd_Parse.C10 valueS
  rw [decparse_eq n hn value hv, some_bind']
  by_cases h0 : (parseR value).2.1.1 = 0
  · have e : (!((parseR value).2.1.1 == 0 && (parseR value).2.1.2.1 == 0)) = false := by rw [h0, parseR_at h0]; rfl
    rw [e, cond_false, if_neg (fun h => h h0)]
    cases is2
    · rfl
    · have hsl := seg_le 124 (s.drop p)
      have hdl : (s.drop p).length = s.length - p := by simp
      have hnl := nextP_le (c := 124) hp
      rw [Bool.not_true, cond_false, if_neg (by simp), sub_tail hp, some_bind', cut_eq n 124 (by omega), some_bind']
      have w1 : IntKind.wrap .i64 ((p : Int) + ((seg 124 (s.drop p)).length : Int)) = ((p + (seg 124 (s.drop p)).length : Nat) : Int) := by rw [wrap_in (by omega)]; omega
      simp only [w1]
      by_cases hm : 124 ∈ s.drop p
      · have hq : nextP 124 s p = p + (seg 124 (s.drop p)).length + 1 := by unfold nextP; rw [if_pos hm]
        simp only [hm, decide_true, cond_true]
        rw [wrap_succ (by omega), ← hq]
        exact c16_eq n kr (by omega) name true value _ _ _ s hs b10 b11 b12 b13 b14 b15 b20 b21 _ hnl d0 d1 d2 d3 d4 d5 _ _ _ _ _ k0 k1 k2 k3
      · have hq : nextP 124 s p = p + (seg 124 (s.drop p)).length := by unfold nextP; rw [if_neg hm]; rfl
        simp only [hm, decide_false, cond_false]
        rw [← hq]
        exact c16_eq n kr (by omega) name false value _ _ _ s hs b10 b11 b12 b13 b14 b15 b20 b21 _ hnl d0 d1 d2 d3 d4 d5 _ _ _ _ _ k0 k1 k2 k3
  · have e : (!((parseR value).2.1.1 == 0 && (parseR value).2.1.2.1 == 0)) = true := by
      have : ((parseR value).2.1.1 == 0) = false := by simpa using h0
      rw [this]; rfl
    rw [e, cond_true, if_pos h0]
    rfl
def nameS (kr : KR X) (s name : List UInt8) (r0 : Int) (tags : List (List UInt8 × List UInt8)) (time : Int) (is1 : Bool) (p : Nat) : Option X :=
  if ¬ (textF 1 name 1 200).1 = 0 then badK' kr s 15 0 else if is1 = false then badK' kr s 11 s.length
  else valueS kr s name (seg 124 (s.drop p)) p r0 tags time (decide (124 ∈ s.drop p)) (nextP 124 s p)
theorem textF_at {c : Int} {s : List UInt8} {lo hi : Int} (h : (textF c s lo hi).1 = 0) : (textF c s lo hi).2.1 = 0 := by
  unfold textF at h ⊢
  by_cases h1 : may c = false ∨ lo < 0 ∨ hi < lo
  · rw [if_pos h1]
  rw [if_neg h1] at h ⊢
  by_cases h2 : (s.length : Int) < lo
  · rw [if_pos h2] at h; cases h
  rw [if_neg h2] at h ⊢
  by_cases h3 : (s.length : Int) > hi
  · rw [if_pos h3] at h; cases h
  rw [if_neg h3] at h ⊢
  by_cases h4 : 0 ≤ badK (cls c) 0 s
  · rw [if_pos h4] at h; cases h
  rw [if_neg h4]
theorem c5_eq (hn : 5000 ≤ n) (name : List UInt8) (hnl : name.length ≤ 1000) (is1 : Bool) (s : List UInt8) (hs : s.length ≤ 1000) (b10 : List UInt8) (b11 : Int) (b12 : List (Bool × Int × Int)) (b13 : Int) (b14 : List (List UInt8 × List UInt8)) (b15 b20 b21 : Int) (p : Nat) (hp : p ≤ s.length) (d0 : List UInt8) (d1 : Int) (d2 : List (Bool × Int × Int)) (d3 : Int) (d4 : List (List UInt8 × List UInt8)) (d5 : Int) (k0 k1 k2 k3 : Nat) :
    F.statsd_Parse.C5 n kr name is1 s b10 b11 b12 b13 b14 b15 b20 b21 (p : Int) d0 d1 d2 d3 d4 d5 k0 k1 k2 k3 = nameS kr s name d3 d4 d5 is1 p := by
  unfold F.statsd_Parse.C5 nameS
  rw [text_cls n 1 name 1 200 (by omega) (by omega), some_bind']
  by_cases h0 : (textF 1 name 1 200).1 = 0
  · have e : (!((textF 1 name 1 200).1 == 0 && (textF 1 name 1 200).2.1 == 0)) = false := by rw [h0, textF_at h0]; rfl
    rw [e, cond_false, if_neg (fun h => h h0)]
    cases is1
    · rfl
    · have hsl := seg_le 124 (s.drop p)
      have hdl : (s.drop p).length = s.length - p := by simp
      have hnx := nextP_le (c := 124) hp
      rw [Bool.not_true, cond_false, if_neg (by simp), sub_tail hp, some_bind', cut_eq n 124 (by omega), some_bind']
      have w1 : IntKind.wrap .i64 ((p : Int) + ((seg 124 (s.drop p)).length : Int)) = ((p + (seg 124 (s.drop p)).length : Nat) : Int) := by rw [wrap_in (by omega)]; omega
      simp only [w1]
      by_cases hm : 124 ∈ s.drop p
      · have hq : nextP 124 s p = p + (seg 124 (s.drop p)).length + 1 := by unfold nextP; rw [if_pos hm]
        simp only [hm, decide_true, cond_true]
        rw [wrap_succ (by omega), ← hq]
        exact c10_eq n kr hn name true _ (by omega) p s hs b10 b11 b12 b13 b14 b15 b20 b21 _ hnx d0 d1 d2 d3 d4 d5 k0 k1 k2 k3
      · have hq : nextP 124 s p = p + (seg 124 (s.drop p)).length := by unfold nextP; rw [if_neg hm]; rfl
        simp only [hm, decide_false, cond_false]
        rw [← hq]
        exact c10_eq n kr hn name false _ (by omega) p s hs b10 b11 b12 b13 b14 b15 b20 b21 _ hnx d0 d1 d2 d3 d4 d5 k0 k1 k2 k3
  · have e : (!((textF 1 name 1 200).1 == 0 && (textF 1 name 1 200).2.1 == 0)) = true := by
      have : ((textF 1 name 1 200).1 == 0) = false := by simpa using h0
      rw [this]; rfl
    rw [e, cond_true, if_pos h0]
    rfl
end
abbrev MetD := List UInt8 × Int × List (Bool × Int × Int) × Int × List (List UInt8 × List UInt8) × Int × Unit
abbrev MetR := MetD × FaultR × Unit
def finK : KR MetR := fun _ a b c d e f x y => some ((a, b, c, d, e, f, ()), (x, y, ()), ())
def sdParse (s : List UInt8) : Option MetR := nameS finK s (seg 58 s) 1000000 [] 0 (decide (58 ∈ s)) (nextP 58 s 0)
theorem sdParse_eq (n : Nat) (hn : 5000 ≤ n) (s : List UInt8) (hs : s.length ≤ 1000) : F.statsd_Parse n s = sdParse s := by
  unfold F.statsd_Parse sdParse
  have h0 : sub s (0 : Int) (s.length : Int) = some s := sub_tail (s := s) (p := 0) (Nat.zero_le _)
  have hsl := seg_le 58 s
  have hnx := nextP_le (c := 58) (s := s) (p := 0) (Nat.zero_le _)
  rw [h0, some_bind', cut_eq n 58 (by omega), some_bind']
  have w1 : IntKind.wrap .i64 ((0 : Int) + ((seg 58 s).length : Int)) = (((seg 58 s).length : Nat) : Int) := by rw [wrap_in (by omega)]; omega
  simp only [w1]
  by_cases hm : 58 ∈ s
  · have hq : nextP 58 s 0 = (seg 58 s).length + 1 := by unfold nextP; rw [List.drop_zero, if_pos hm]; omega
    simp only [hm, decide_true, cond_true]
    rw [wrap_succ (by omega), ← hq]
    exact c5_eq n finK hn _ (by omega) true s hs _ _ _ _ _ _ _ _ _ hnx _ _ _ _ _ _ _ _ _ _
  · have hq : nextP 58 s 0 = (seg 58 s).length := by unfold nextP; rw [List.drop_zero, if_neg hm]; omega
    simp only [hm, decide_false, cond_false]
    rw [← hq]
    exact c5_eq n finK hn _ (by omega) false s hs _ _ _ _ _ _ _ _ _ hnx _ _ _ _ _ _ _ _ _ _
end Go.AM
set_option linter.unusedVariables false
set_option linter.unusedSimpArgs false
namespace Go.AM
abbrev DecL := Bool × Int × Int
abbrev TagL := List UInt8 × List UInt8
def DecLOK (d : DecL) : Prop := True ∧ (0 ≤ d.2.1 ∧ d.2.1 ≤ 18446744073709551615) ∧ -9223372036854775808 ≤ d.2.2 ∧ d.2.2 ≤ 9223372036854775807
def decC (d : DecL) : Int := checkR d.1 d.2.1.toNat d.2.2
theorem decL_nat {d : DecL} (h : DecLOK d) : ∃ (neg : Bool) (c : Nat) (e : Int), d = (neg, (c : Int), e) ∧ c < two64 ∧ -9223372036854775808 ≤ e ∧ e ≤ 9223372036854775807 := by
  obtain ⟨neg, c, e⟩ := d
  obtain ⟨_, ⟨h1, h2⟩, h3, h4⟩ := h
  simp only at h1 h2 h3 h4
  refine ⟨neg, c.toNat, e, ?_, ?_, h3, h4⟩
  · rw [show ((c.toNat : Nat) : Int) = c from by omega]
  · rw [two64_eq]; omega
theorem decC_nat (neg : Bool) (c : Nat) (e : Int) : decC (neg, (c : Int), e) = checkR neg c e := rfl
theorem decC_chk (n : Nat) (hn : 100 ≤ n) {d : DecL} (h : DecLOK d) : F.dec_Check n (d.1, d.2.1, d.2.2, ()) = some (decC d) := by
  obtain ⟨neg, c, e, rfl, hc, he⟩ := decL_nat h
  exact check_eq n hn neg c hc e he
theorem decC_ref (n : Nat) (hn : 5000 ≤ n) {d : DecL} (h : DecLOK d) : F.ref03_Check n (d.1, d.2.1, d.2.2, ()) = some (decC d) := by
  obtain ⟨neg, c, e, rfl, hc, he⟩ := decL_nat h
  exact check_ref n hn neg c hc e
def nameOK (s : List UInt8) : Bool := (textF 1 s 1 200).1 == 0
def tagOK (t : TagL) : Bool := ((textF 2 t.1 1 64).1 == 0) && ((textF 3 t.2 0 100).1 == 0)
theorem textF_both (c : Int) (s : List UInt8) (lo hi : Int) : (((textF c s lo hi).1 == 0) && ((textF c s lo hi).2.1 == 0)) = ((textF c s lo hi).1 == 0) := by
  by_cases h : (textF c s lo hi).1 = 0
  · rw [h, textF_at h]; rfl
  · rw [beq_eq_false_iff_ne.2 h]; rfl
theorem text4_ref (n : Nat) (hn : 100 ≤ n) (c : Int) (s : List UInt8) (lo hi : Int) (hm : may c = true) (hlo : 0 ≤ lo) (hhi : lo ≤ hi) (hs : s.length < 4611686018427387904) (hl : s.length < n) : F.ref04_Text n c s lo hi = some (textF c s lo hi) := by
  unfold F.ref04_Text textF
  rw [bad_ref n hn c s hs hl, some_bind', if_neg (by simp [hm]; omega)]
  by_cases h3 : (s.length : Int) < lo
  · rw [bif_pos h3, if_pos h3]
  · rw [bif_neg h3, if_neg h3]
    by_cases h4 : (s.length : Int) > hi
    · rw [bif_pos h4, if_pos h4]
    · rw [bif_neg h4, if_neg h4]
      by_cases h5 : 0 ≤ badK (cls c) 0 s
      · rw [bif_pos (by omega), if_pos h5]
      · rw [bif_neg (by omega), if_neg h5]
def TagLOK (t : TagL) : Prop := t.1.length ≤ 1000 ∧ t.2.length ≤ 1000
theorem tag_chk (n : Nat) (hn : 5000 ≤ n) {t : TagL} (h : TagLOK t) : F.tag_Check n (t.1, t.2, ()) = some (bif tagOK t then 0 else 19) := by
  obtain ⟨h1, h2⟩ := h
  unfold F.tag_Check tagOK
  simp only [text_cls n 2 t.1 1 64 (by omega) (by omega), text_cls n 3 t.2 0 100 (by omega) (by omega), some_bind', textF_both]
  cases ((textF 2 t.1 1 64).1 == 0) <;> cases ((textF 3 t.2 0 100).1 == 0) <;> rfl
theorem tag_ref (n : Nat) (hn : 5000 ≤ n) {t : TagL} (h : TagLOK t) : F.ref06_Check n (t.1, t.2, ()) = some (bif tagOK t then 0 else 19) := by
  obtain ⟨h1, h2⟩ := h
  unfold F.ref06_Check F.ref06_Right tagOK
  simp only [text4_ref n (by omega) 2 t.1 1 64 rfl (by omega) (by omega) (by omega) (by omega), text4_ref n (by omega) 3 t.2 0 100 rfl (by omega) (by omega) (by omega) (by omega), some_bind', textF_both]
  cases ((textF 2 t.1 1 64).1 == 0) <;> cases ((textF 3 t.2 0 100).1 == 0) <;> rfl
def kindB (k : Int) : Bool := decide (1 ≤ k) && decide (k ≤ 5)
def valsB (vs : List DecL) : Bool := decide (1 ≤ vs.length) && (decide (vs.length ≤ 64) && vs.all fun d => decC d == 0)
def rateB (k r : Int) : Bool := decide (1 ≤ r) && (decide (r ≤ 1000000) && (!(k == 2) || r == 1000000))
def tagsB (ts : List TagL) : Bool := decide (ts.length ≤ 32) && ts.all tagOK
def timeB (t : Int) : Bool := decide (0 ≤ t) && decide (t ≤ 1099511627776)
def chkM (m : MetD) : Int :=
  bif !nameOK m.1 then 15 else bif !kindB m.2.1 then 16 else bif !valsB m.2.2.1 then 17 else bif !rateB m.2.1 m.2.2.2.1 then 18 else bif !tagsB m.2.2.2.2.1 then 19 else bif !timeB m.2.2.2.2.2.1 then 20 else 0
def MetOK (m : MetD) : Prop := m.1.length ≤ 1000 ∧ (m.2.2.1.length ≤ 1000 ∧ ∀ d ∈ m.2.2.1, DecLOK d) ∧ (m.2.2.2.2.1.length ≤ 1000 ∧ ∀ t ∈ m.2.2.2.2.1, TagLOK t)
theorem vals_loop (n : Nat) (hn : 5000 ≤ n) (k0 : List UInt8 → Int → List DecL → Int → List TagL → Int → Option Bool) (kr : Int → List UInt8 → Int → List DecL → Int → List TagL → Int → Option Bool) (h0 : ∀ a b c d e f, k0 a b c d e f = some true) (hr : ∀ i a b c d e f, 0 ≤ i → kr i a b c d e f = some false) (vs : List DecL) (hs : vs.length ≤ 1000) (hok : ∀ d ∈ vs, DecLOK d) (b0 : List UInt8) (b1 : Int) (b2 : List DecL) (b3 : Int) (b4 : List TagL) (b5 : Int) : ∀ (r : List DecL) (k m : Nat), vs.drop k = r → r.length < m →
    F.metric_look_values.L2_slices_IndexFunc_api_Dec_api_Dec n k0 kr m vs (vs.length : Int) (k : Int) b0 b1 b2 b3 b4 b5 = some (r.all fun d => decC d == 0) := by
  intro r
  induction r with
  | nil =>
    intro k m hk hm
    have := drop_nil' hk
    cases m with
    | zero => simp at hm
    | succ m =>
      show F.metric_look_values.L2_slices_IndexFunc_api_Dec_api_Dec.step n _ k0 kr vs _ _ _ _ _ _ _ _ = _
      unfold F.metric_look_values.L2_slices_IndexFunc_api_Dec_api_Dec.step
      rw [bif_neg (by omega), h0]
      rfl
  | cons x r ih =>
    intro k m hk hm
    obtain ⟨h1, h2, h3⟩ := drop_cons hk
    have hx : DecLOK x := hok x (List.mem_of_getElem? h2)
    cases m with
    | zero => simp at hm
    | succ m =>
      show F.metric_look_values.L2_slices_IndexFunc_api_Dec_api_Dec.step n (F.metric_look_values.L2_slices_IndexFunc_api_Dec_api_Dec n k0 kr m) k0 kr vs _ _ _ _ _ _ _ _ = _
      unfold F.metric_look_values.L2_slices_IndexFunc_api_Dec_api_Dec.step F.metric_look_values_1
      rw [bif_pos (by omega), idx_nat, h2]
      simp only [some_bind', decC_chk n (by omega) hx, List.all_cons]
      by_cases h : decC x = 0
      · rw [h, wrap_succ (by omega), ih (k + 1) m h3 (by simp at hm; omega)]; rfl
      · rw [beq_eq_false_iff_ne.2 h]
        simp [hr]
theorem tags_loop (n : Nat) (hn : 5000 ≤ n) (k0 : List UInt8 → Int → List DecL → Int → List TagL → Int → Option Bool) (kr : Int → List UInt8 → Int → List DecL → Int → List TagL → Int → Option Bool) (h0 : ∀ a b c d e f, k0 a b c d e f = some true) (hr : ∀ i a b c d e f, 0 ≤ i → kr i a b c d e f = some false) (vs : List TagL) (hs : vs.length ≤ 1000) (hok : ∀ d ∈ vs, TagLOK d) (b0 : List UInt8) (b1 : Int) (b2 : List DecL) (b3 : Int) (b4 : List TagL) (b5 : Int) : ∀ (r : List TagL) (k m : Nat), vs.drop k = r → r.length < m →
    F.metric_look_tags.L2_slices_IndexFunc_api_Tag_api_Tag n k0 kr m vs (vs.length : Int) (k : Int) b0 b1 b2 b3 b4 b5 = some (r.all tagOK) := by
  intro r
  induction r with
  | nil =>
    intro k m hk hm
    have := drop_nil' hk
    cases m with
    | zero => simp at hm
    | succ m =>
      show F.metric_look_tags.L2_slices_IndexFunc_api_Tag_api_Tag.step n _ k0 kr vs _ _ _ _ _ _ _ _ = _
      unfold F.metric_look_tags.L2_slices_IndexFunc_api_Tag_api_Tag.step
      rw [bif_neg (by omega), h0]
      rfl
  | cons x r ih =>
    intro k m hk hm
    obtain ⟨h1, h2, h3⟩ := drop_cons hk
    have hx : TagLOK x := hok x (List.mem_of_getElem? h2)
    cases m with
    | zero => simp at hm
    | succ m =>
      show F.metric_look_tags.L2_slices_IndexFunc_api_Tag_api_Tag.step n (F.metric_look_tags.L2_slices_IndexFunc_api_Tag_api_Tag n k0 kr m) k0 kr vs _ _ _ _ _ _ _ _ = _
      unfold F.metric_look_tags.L2_slices_IndexFunc_api_Tag_api_Tag.step F.metric_look_tags_1
      rw [bif_pos (by omega), idx_nat, h2]
      simp only [some_bind', tag_chk n hn hx, List.all_cons]
      cases h : tagOK x
      · simp [hr]
      · rw [wrap_succ (by omega), ih (k + 1) m h3 (by simp at hm; omega)]; rfl
theorem mbetween_eq (n : Nat) (x lo hi : Int) : F.metric_between n x lo hi = some (decide (lo ≤ x) && decide (x ≤ hi)) := by
  unfold F.metric_between
  by_cases h : lo ≤ x
  · rw [bif_pos (by omega), decide_eq_true h]; rfl
  · rw [bif_neg (by omega), decide_eq_false h]; rfl
theorem look_name (n : Nat) (m : MetD) (h : m.1.length ≤ 1000) (hn : 5000 ≤ n) : F.metric_look_name n m = some (nameOK m.1) := by
  unfold F.metric_look_name nameOK
  rw [text_cls n 1 m.1 1 200 (by omega) (by omega), some_bind', textF_both]
theorem look_kind (n : Nat) (m : MetD) : F.metric_look_kind n m = some (kindB m.2.1) := by
  unfold F.metric_look_kind kindB
  rw [mbetween_eq]; rfl
theorem look_values (n : Nat) (hn : 5000 ≤ n) (m : MetD) (hm : MetOK m) : F.metric_look_values n m = some (valsB m.2.2.1) := by
  unfold F.metric_look_values valsB
  have L := vals_loop n hn (fun _ _ _ _ _ _ => some true) (fun e _ _ _ _ _ _ => some (!(decide (e ≥ (0 : Int))))) (fun _ _ _ _ _ _ => rfl) (fun i _ _ _ _ _ _ h => by simp [h]) _ hm.2.1.1 hm.2.1.2 m.1 m.2.1 m.2.2.1 m.2.2.2.1 m.2.2.2.2.1 m.2.2.2.2.2.1 m.2.2.1 0 n rfl (by have := hm.2.1.1; omega)
  rw [show ((0 : Nat) : Int) = (0 : Int) from rfl] at L
  rw [mbetween_eq, some_bind', L]
  have e1 : decide ((1 : Int) ≤ (m.2.2.1.length : Int)) = decide (1 ≤ m.2.2.1.length) := by apply decide_eq_decide.2; omega
  have e2 : decide ((m.2.2.1.length : Int) ≤ 64) = decide (m.2.2.1.length ≤ 64) := by apply decide_eq_decide.2; omega
  rw [e1, e2]
  cases decide (1 ≤ m.2.2.1.length) <;> cases decide (m.2.2.1.length ≤ 64) <;> rfl
theorem look_rate (n : Nat) (m : MetD) : F.metric_look_rate n m = some (rateB m.2.1 m.2.2.2.1) := by
  unfold F.metric_look_rate rateB
  rw [mbetween_eq, some_bind']
  cases decide ((1 : Int) ≤ m.2.2.2.1) <;> cases decide (m.2.2.2.1 ≤ 1000000) <;> cases (m.2.1 == 2) <;> rfl
theorem look_tags (n : Nat) (hn : 5000 ≤ n) (m : MetD) (hm : MetOK m) : F.metric_look_tags n m = some (tagsB m.2.2.2.2.1) := by
  unfold F.metric_look_tags tagsB
  have L := tags_loop n hn (fun _ _ _ _ _ _ => some true) (fun e _ _ _ _ _ _ => some (!(decide (e ≥ (0 : Int))))) (fun _ _ _ _ _ _ => rfl) (fun i _ _ _ _ _ _ h => by simp [h]) _ hm.2.2.1 hm.2.2.2 m.1 m.2.1 m.2.2.1 m.2.2.2.1 m.2.2.2.2.1 m.2.2.2.2.2.1 m.2.2.2.2.1 0 n rfl (by have := hm.2.2.1; omega)
  rw [show ((0 : Nat) : Int) = (0 : Int) from rfl] at L
  rw [L]
  have e2 : decide ((m.2.2.2.2.1.length : Int) ≤ 32) = decide (m.2.2.2.2.1.length ≤ 32) := by apply decide_eq_decide.2; omega
  rw [e2]
  cases decide (m.2.2.2.2.1.length ≤ 32) <;> rfl
theorem look_time (n : Nat) (m : MetD) : F.metric_look_time n m = some (timeB m.2.2.2.2.2.1) := by
  unfold F.metric_look_time timeB
  rw [mbetween_eq]; rfl
theorem metcheck_eq (n : Nat) (hn : 5000 ≤ n) (m : MetD) (hm : MetOK m) : F.metric_Check n m = some (chkM m) := by
  unfold F.metric_Check
  obtain ⟨q, hq⟩ : ∃ q, n = q + 7 := ⟨n - 7, by omega⟩
  have l1 := look_name n m hm.1 hn
  have l2 := look_kind n m
  have l3 := look_values n hn m hm
  have l4 := look_rate n m
  have l5 := look_tags n hn m hm
  have l6 := look_time n m
  obtain ⟨nm, k, vs, r, ts, t, _⟩ := m
  simp only at l1 l2 l3 l4 l5 l6
  have key : ∀ (X : Type) (k0 : (List UInt8) → Int → (List DecL) → Int → (List TagL) → Int → (List UInt8) → Int → (List DecL) → Int → (List TagL) → Int → Option X) (kr : Int → (List UInt8) → Int → (List DecL) → Int → (List TagL) → Int → (List UInt8) → Int → (List DecL) → Int → (List TagL) → Int → Option X),
      F.metric_Check.L3 n k0 kr (q + 7) ((((nm, k, vs, r, ts, t, ()), ()), (())), (15 : Int), (((nm, k, vs, r, ts, t, ()), ()), (())), (16 : Int), (((nm, k, vs, r, ts, t, ()), ()), (())), (17 : Int), (((nm, k, vs, r, ts, t, ()), ()), (())), (18 : Int), (((nm, k, vs, r, ts, t, ()), ()), (())), (19 : Int), (((nm, k, vs, r, ts, t, ()), ()), (())), (20 : Int), ()) 0 nm k vs r ts t nm k vs r ts t =
      (bif !nameOK nm then kr 15 nm k vs r ts t nm k vs r ts t else bif !kindB k then kr 16 nm k vs r ts t nm k vs r ts t else bif !valsB vs then kr 17 nm k vs r ts t nm k vs r ts t else bif !rateB k r then kr 18 nm k vs r ts t nm k vs r ts t
        else bif !tagsB ts then kr 19 nm k vs r ts t nm k vs r ts t else bif !timeB t then kr 20 nm k vs r ts t nm k vs r ts t else k0 nm k vs r ts t nm k vs r ts t) := by
    intro X k0 kr
    refine Eq.trans (b := (F.metric_look_name n (nm, k, vs, r, ts, t, ())).bind fun y => bif !y then kr 15 nm k vs r ts t nm k vs r ts t else
      (F.metric_look_kind n (nm, k, vs, r, ts, t, ())).bind fun y => bif !y then kr 16 nm k vs r ts t nm k vs r ts t else
      (F.metric_look_values n (nm, k, vs, r, ts, t, ())).bind fun y => bif !y then kr 17 nm k vs r ts t nm k vs r ts t else
      (F.metric_look_rate n (nm, k, vs, r, ts, t, ())).bind fun y => bif !y then kr 18 nm k vs r ts t nm k vs r ts t else
      (F.metric_look_tags n (nm, k, vs, r, ts, t, ())).bind fun y => bif !y then kr 19 nm k vs r ts t nm k vs r ts t else
      (F.metric_look_time n (nm, k, vs, r, ts, t, ())).bind fun y => bif !y then kr 20 nm k vs r ts t nm k vs r ts t else k0 nm k vs r ts t nm k vs r ts t) (by kernel_rfl) ?_
    rw [l1, l2, l3, l4, l5, l6]
    rfl
  rw [← hq] at key
  rw [key]
  unfold chkM
  simp only [bif_some]
end Go.AM
set_option linter.unusedVariables false
set_option linter.unusedSimpArgs false
namespace Go.AM
theorem cls1_word (x : UInt8) : cls 1 x = wordI (x.toNat : Int) := rfl
theorem name_step {X : Type} (n : Nat) (rec : List UInt8 → Int → Option X) (k0 : List UInt8 → Option X) (kr : Bool → Option X) (s : List UInt8) (k : Nat) (hk : k < s.length) (hs : s.length ≤ 1000) (x : UInt8) (hx : s[k]? = some x) :
    F.ref07_Name.L2.step n rec k0 kr s (k : Int) = if cls 1 x = true then rec s ((k + 1 : Nat) : Int) else kr false := by
  unfold F.ref07_Name.L2.step
  rw [bif_pos (by omega), idx_nat, hx, wrap_succ (by omega), some_bind', cls1_word]
  unfold wordI btw
  generalize hv : ((x.toNat : Nat) : Int) = v
  generalize rec s ((k + 1 : Nat) : Int) = A
  generalize kr false = B
  simp only [Bool.cond_eq_ite, Bool.not_eq_true', Bool.or_eq_true, Bool.and_eq_true, decide_eq_true_eq, beq_iff_eq, beq_eq_false_iff_ne, ne_eq]
  repeat' split
  all_goals first
    | rfl
    | (exfalso; omega)
theorem name_ref_loop (n : Nat) (X : Type) (k0 : List UInt8 → Option X) (kr : Bool → Option X) (s : List UInt8) (hs : s.length ≤ 1000) : ∀ (r : List UInt8) (k m : Nat), s.drop k = r → r.length < m →
    F.ref07_Name.L2 n k0 kr m s (k : Int) = if r.all (cls 1) = true then k0 s else kr false := by
  intro r
  induction r with
  | nil =>
    intro k m hk hm
    have := drop_nil' hk
    cases m with
    | zero => simp at hm
    | succ m =>
      show F.ref07_Name.L2.step n (F.ref07_Name.L2 n k0 kr m) k0 kr s (k : Int) = _
      unfold F.ref07_Name.L2.step
      rw [bif_neg (by omega)]
      rfl
  | cons x r ih =>
    intro k m hk hm
    obtain ⟨h1, h2, h3⟩ := drop_cons hk
    cases m with
    | zero => simp at hm
    | succ m =>
      show F.ref07_Name.L2.step n (F.ref07_Name.L2 n k0 kr m) k0 kr s (k : Int) = _
      rw [name_step n _ _ _ s k h1 hs x h2, List.all_cons]
      cases hx : cls 1 x
      · rfl
      · rw [if_pos rfl, ih (k + 1) m h3 (by simp at hm; omega)]
        rfl
theorem nameOK_eq (s : List UInt8) : nameOK s = (s.all (cls 1) && (decide (1 ≤ s.length) && decide (s.length ≤ 200))) := by
  unfold nameOK textF
  rw [if_neg (by simp [may])]
  by_cases h1 : (s.length : Int) < 1
  · rw [if_pos h1]
    have : decide (1 ≤ s.length) = false := decide_eq_false (by omega)
    rw [this]; simp
  rw [if_neg h1]
  have e1 : decide (1 ≤ s.length) = true := decide_eq_true (by omega)
  by_cases h2 : (s.length : Int) > 200
  · rw [if_pos h2]
    have : decide (s.length ≤ 200) = false := decide_eq_false (by omega)
    rw [this]; simp
  rw [if_neg h2]
  have e2 : decide (s.length ≤ 200) = true := decide_eq_true (by omega)
  rw [e1, e2]
  by_cases h3 : 0 ≤ badK (cls 1) 0 s
  · rw [if_pos h3]
    have : s.all (cls 1) = false := by
      have := (badK_ge (cls 1) 0 s).1 h3
      simpa using this
    rw [this]; rfl
  · rw [if_neg h3]
    have : s.all (cls 1) = true := Classical.byContradiction fun hh => h3 ((badK_ge _ _ _).2 hh)
    rw [this]; rfl
theorem name_ref (n : Nat) (hn : 5000 ≤ n) (s : List UInt8) (hs : s.length ≤ 1000) : F.ref07_Name n s = some (nameOK s) := by
  unfold F.ref07_Name
  have L := name_ref_loop n Bool (fun e2_0 => bif decide ((e2_0.length : Int) ≥ (1 : Int)) then some (decide ((e2_0.length : Int) ≤ (200 : Int))) else some (false)) (fun e3_2 => some (e3_2)) s hs s 0 n rfl (by omega)
  refine L.trans ?_
  rw [nameOK_eq]
  cases h : s.all (cls 1)
  · rfl
  · rw [if_pos rfl]
    by_cases h1 : 1 ≤ s.length
    · rw [bif_pos (by omega), decide_eq_true h1]
      have e2 : decide ((s.length : Int) ≤ 200) = decide (s.length ≤ 200) := by apply decide_eq_decide.2; omega
      rw [e2]; rfl
    · rw [bif_neg (by omega), decide_eq_false h1]; rfl
theorem rest_loop (n : Nat) (hn : 5000 ≤ n) (X : Type) (k0 : List UInt8 → Int → List DecL → Int → List TagL → Int → Option X) (kr : Int → List UInt8 → Int → List DecL → Int → List TagL → Int → Option X) (vs : List TagL) (hs : vs.length ≤ 1000) (hok : ∀ d ∈ vs, TagLOK d) (b0 : List UInt8) (b1 : Int) (b2 : List DecL) (b3 : Int) (b5 : Int) : ∀ (r : List TagL) (k m : Nat), vs.drop k = r → r.length < m →
    F.ref07_Rest.L12 n k0 kr m (k : Int) b0 b1 b2 b3 vs b5 = bif r.all tagOK then k0 b0 b1 b2 b3 vs b5 else kr 19 b0 b1 b2 b3 vs b5 := by
  intro r
  induction r with
  | nil =>
    intro k m hk hm
    have := drop_nil' hk
    cases m with
    | zero => simp at hm
    | succ m =>
      show F.ref07_Rest.L12.step n (F.ref07_Rest.L12 n k0 kr m) k0 kr _ _ _ _ _ _ _ = _
      unfold F.ref07_Rest.L12.step
      rw [bif_neg (by omega)]
      rfl
  | cons x r ih =>
    intro k m hk hm
    obtain ⟨h1, h2, h3⟩ := drop_cons hk
    have hx : TagLOK x := hok x (List.mem_of_getElem? h2)
    cases m with
    | zero => simp at hm
    | succ m =>
      show F.ref07_Rest.L12.step n (F.ref07_Rest.L12 n k0 kr m) k0 kr _ _ _ _ _ _ _ = _
      unfold F.ref07_Rest.L12.step
      rw [bif_pos (by omega), idx_nat, h2]
      simp only [some_bind', tag_ref n hn hx, List.all_cons]
      cases h : tagOK x
      · rfl
      · rw [wrap_succ (by omega), ih (k + 1) m h3 (by simp at hm; omega)]; rfl
def restM (m : MetD) (vals : Bool) : Int :=
  bif !nameOK m.1 then 15 else bif !kindB m.2.1 then 16 else bif !(vals && (decide (1 ≤ m.2.2.1.length) && decide (m.2.2.1.length ≤ 64))) then 17 else bif !rateB m.2.1 m.2.2.2.1 then 18 else bif !tagsB m.2.2.2.2.1 then 19 else bif !timeB m.2.2.2.2.2.1 then 20 else 0
theorem chk_rest (m : MetD) : chkM m = restM m (m.2.2.1.all fun d => decC d == 0) := by
  unfold chkM restM valsB
  cases decide (1 ≤ m.2.2.1.length) <;> cases decide (m.2.2.1.length ≤ 64) <;> cases (m.2.2.1.all fun d => decC d == 0) <;> rfl
theorem rest_ref (n : Nat) (hn : 5000 ≤ n) (m : MetD) (h1 : m.1.length ≤ 1000) (h2 : m.2.2.2.2.1.length ≤ 1000) (h3 : ∀ t ∈ m.2.2.2.2.1, TagLOK t) (vals : Bool) : F.ref07_Rest n m vals = some (restM m vals) := by
  obtain ⟨nm, k, vs, r, ts, t, _⟩ := m
  simp only at h1 h2 h3
  unfold F.ref07_Rest restM
  simp only [name_ref n hn nm h1, some_bind']
  cases nameOK nm
  · rfl
  simp only [Bool.not_true, cond_false]
  unfold kindB
  by_cases k1 : k < 1
  · rw [bif_pos k1, decide_eq_false (by omega : ¬ 1 ≤ k)]; rfl
  rw [bif_neg k1, decide_eq_true (by omega : 1 ≤ k)]
  by_cases k2 : k > 5
  · rw [bif_pos k2, decide_eq_false (by omega : ¬ k ≤ 5)]; rfl
  rw [bif_neg k2, decide_eq_true (by omega : k ≤ 5)]
  simp only [Bool.and_self, Bool.not_true, cond_false]
  cases vals
  · rfl
  simp only [Bool.not_true, cond_false, Bool.true_and]
  by_cases v1 : (vs.length : Int) < 1
  · rw [bif_pos v1, decide_eq_false (by omega : ¬ 1 ≤ vs.length)]; rfl
  rw [bif_neg v1, decide_eq_true (by omega : 1 ≤ vs.length)]
  by_cases v2 : (vs.length : Int) > 64
  · rw [bif_pos v2, decide_eq_false (by omega : ¬ vs.length ≤ 64)]; rfl
  rw [bif_neg v2, decide_eq_true (by omega : vs.length ≤ 64)]
  simp only [Bool.and_self, Bool.not_true, cond_false]
  unfold rateB
  by_cases r1 : r < 1
  · rw [bif_pos r1, decide_eq_false (by omega : ¬ 1 ≤ r)]; rfl
  rw [bif_neg r1, decide_eq_true (by omega : 1 ≤ r)]
  by_cases r2 : r > 1000000
  · rw [bif_pos r2, decide_eq_false (by omega : ¬ r ≤ 1000000)]; rfl
  rw [bif_neg r2, decide_eq_true (by omega : r ≤ 1000000)]
  simp only [Bool.true_and]
  have tail : (bif decide ((ts.length : Int) > (32 : Int)) then some (19 : Int) else
        F.ref07_Rest.L12 n
          (fun e4_b0_0 e4_b0_1 e4_b0_2 e4_b0_3 e4_b0_4 e4_b0_5 =>
            bif decide (e4_b0_5 < (0 : Int)) then some ((20 : Int)) else bif decide (e4_b0_5 > (1099511627776 : Int)) then some ((20 : Int)) else some ((0 : Int)))
          (fun e5_4 e5_b0_0 e5_b0_1 e5_b0_2 e5_b0_3 e5_b0_4 e5_b0_5 => some (e5_4)) n (0 : Int) nm k vs r ts t) = some (bif !tagsB ts then 19 else bif !timeB t then 20 else 0) := by
    unfold tagsB timeB
    by_cases t1 : (ts.length : Int) > 32
    · rw [bif_pos t1, decide_eq_false (by omega : ¬ ts.length ≤ 32)]; rfl
    rw [bif_neg t1, decide_eq_true (by omega : ts.length ≤ 32)]
    refine (rest_loop n hn Int _ _ ts h2 h3 nm k vs r t ts 0 n rfl (by omega)).trans ?_
    cases ts.all tagOK
    · rfl
    · rw [cond_true]
      by_cases u1 : t < 0
      · rw [bif_pos u1, decide_eq_false (by omega : ¬ 0 ≤ t)]; rfl
      rw [bif_neg u1, decide_eq_true (by omega : 0 ≤ t)]
      by_cases u2 : t > 1099511627776
      · rw [bif_pos u2, decide_eq_false (by omega : ¬ t ≤ 1099511627776)]; rfl
      rw [bif_neg u2, decide_eq_true (by omega : t ≤ 1099511627776)]
      rfl
  cases hk : (k == 2)
  · exact tail
  · cases hr : (r == 1000000)
    · rfl
    · exact tail
theorem check_loop (n : Nat) (hn : 5000 ≤ n) (X : Type) (k0 : Bool → List UInt8 → Int → List DecL → Int → List TagL → Int → Option X) (vs : List DecL) (hs : vs.length ≤ 1000) (hok : ∀ d ∈ vs, DecLOK d) (b0 : List UInt8) (b1 : Int) (b3 : Int) (b4 : List TagL) (b5 : Int) : ∀ (r : List DecL) (k m : Nat) (v : Bool), vs.drop k = r → r.length < m →
    F.ref07_Check.L3 n k0 m v (k : Int) b0 b1 vs b3 b4 b5 = k0 (v && r.all fun d => decC d == 0) b0 b1 vs b3 b4 b5 := by
  intro r
  induction r with
  | nil =>
    intro k m v hk hm
    have := drop_nil' hk
    cases m with
    | zero => simp at hm
    | succ m =>
      show F.ref07_Check.L3.step n (F.ref07_Check.L3 n k0 m) k0 v _ _ _ _ _ _ _ = _
      unfold F.ref07_Check.L3.step
      rw [bif_neg (by omega)]
      cases v <;> rfl
  | cons x r ih =>
    intro k m v hk hm
    obtain ⟨h1, h2, h3⟩ := drop_cons hk
    have hx : DecLOK x := hok x (List.mem_of_getElem? h2)
    cases m with
    | zero => simp at hm
    | succ m =>
      show F.ref07_Check.L3.step n (F.ref07_Check.L3 n k0 m) k0 v _ _ _ _ _ _ _ = _
      unfold F.ref07_Check.L3.step
      rw [bif_pos (by omega), wrap_succ (by omega)]
      cases v
      · rw [cond_false, ih (k + 1) m _ h3 (by simp at hm; omega)]; rfl
      · rw [cond_true, idx_nat, h2]
        simp only [some_bind', decC_ref n hn hx, List.all_cons, Bool.true_and]
        rw [ih (k + 1) m _ h3 (by simp at hm; omega)]
theorem metcheck_ref (n : Nat) (hn : 5000 ≤ n) (m : MetD) (hm : MetOK m) : F.ref07_Check n m = some (chkM m) := by
  have hr := rest_ref n hn m hm.1 hm.2.2.1 hm.2.2.2 (m.2.2.1.all fun d => decC d == 0)
  have h2 := hm.2.1
  rw [chk_rest]
  obtain ⟨nm, k, vs, r, ts, t, _⟩ := m
  simp only at hr h2 ⊢
  unfold F.ref07_Check
  refine (check_loop n hn Int _ vs h2.1 h2.2 nm k r ts t vs 0 n true rfl (by have := h2.1; omega)).trans ?_
  rw [Bool.true_and, hr]
  rfl
def bareM (m : MetD) : Bool := decide (m.2.2.1.length = 1) && decide (m.2.2.2.2.1.length = 0)
def negM (m : MetD) : Bool := match m.2.2.1 with | [] => false | d :: _ => d.1
def saysS (m : MetD) : Bool := bareM m && ((m.2.2.2.2.2.1 == 0) && (!(m.2.1 == 5) && (!(m.2.1 == 2) || !negM m)))
def saysG (m : MetD) : Bool := bareM m && (!(m.2.2.2.2.2.1 == 0) && (m.2.1 == 2))
def saysM (m : MetD) (f : Int) : Bool := if f = 1 then saysS m else if f = 3 then saysG m else true
def expM (m : MetD) (f : Int) : Int := if f < 1 ∨ f > 4 then 29 else if chkM m = 0 then (bif saysM m f then 0 else 26) else chkM m
theorem len_int (l : List DecL) (k : Nat) : (((l.length : Nat) : Int) == ((k : Nat) : Int)) = decide (l.length = k) := by
  by_cases h : l.length = k
  · rw [h]; simp
  · rw [decide_eq_false h, beq_eq_false_iff_ne]; omega
theorem len_intT (l : List TagL) (k : Nat) : (((l.length : Nat) : Int) == ((k : Nat) : Int)) = decide (l.length = k) := by
  by_cases h : l.length = k
  · rw [h]; simp
  · rw [decide_eq_false h, beq_eq_false_iff_ne]; omega
theorem bare_eq (n : Nat) (m : MetD) : F.expr_said_bare n m = some (bareM m) := by
  have h1 := len_int m.2.2.1 1
  have h2 := len_intT m.2.2.2.2.1 0
  unfold F.expr_said_bare bareM
  rw [show (1 : Int) = ((1 : Nat) : Int) from rfl, show (0 : Int) = ((0 : Nat) : Int) from rfl, h1, h2]
  cases decide (m.2.2.1.length = 1) <;> rfl
theorem neg_idx {m : MetD} (h : bareM m = true) : ∃ d, idx m.2.2.1 (0 : Int) = some d ∧ negM m = d.1 := by
  unfold bareM at h
  obtain ⟨nm, k, vs, r, ts, t, _⟩ := m
  match vs, h with
  | [d], _ => exact ⟨d, rfl, rfl⟩
theorem said_s (n : Nat) (m : MetD) : F.expr_said_statsd n m = some (saysS m) := by
  unfold F.expr_said_statsd saysS
  have hb : F.expr_said_bare n (m.1, m.2.1, m.2.2.1, m.2.2.2.1, m.2.2.2.2.1, m.2.2.2.2.2.1, ()) = some (bareM m) := bare_eq n m
  rw [hb, some_bind']
  cases h : bareM m
  · rfl
  simp only [Bool.not_true, cond_false, Bool.true_and]
  obtain ⟨d, hd, hg⟩ := neg_idx h
  rw [hd, hg]
  cases (m.2.2.2.2.2.1 == 0) <;> cases (m.2.1 == 5) <;> cases (m.2.1 == 2) <;> rfl
theorem said_g (n : Nat) (m : MetD) : F.expr_said_graphite n m = some (saysG m) := by
  unfold F.expr_said_graphite saysG
  have hb : F.expr_said_bare n (m.1, m.2.1, m.2.2.1, m.2.2.2.1, m.2.2.2.2.1, m.2.2.2.2.2.1, ()) = some (bareM m) := bare_eq n m
  rw [hb, some_bind']
  cases bareM m <;> cases (m.2.2.2.2.2.1 == 0) <;> rfl
theorem says_ref (n : Nat) (m : MetD) (f : Int) : F.ref09_Says n m f = some (saysM m f) := by
  unfold F.ref09_Says saysM saysS saysG
  have h1 := len_int m.2.2.1 1
  have h2 := len_intT m.2.2.2.2.1 0
  have e1 : ((m.2.2.1.length : Int) == (1 : Int)) = decide (m.2.2.1.length = 1) := h1
  have e2 : ((m.2.2.2.2.1.length : Int) == (0 : Int)) = decide (m.2.2.2.2.1.length = 0) := h2
  rw [e1, e2]
  by_cases f1 : f = 1
  · subst f1
    simp only [beq_self_eq_true, cond_true, if_true]
    cases hb : bareM m
    · unfold bareM at hb
      cases g1 : decide (m.2.2.1.length = 1)
      · rfl
      · rw [g1, Bool.true_and] at hb
        rw [hb]; rfl
    · obtain ⟨d, hd, hg⟩ := neg_idx hb
      unfold bareM at hb
      rw [Bool.and_eq_true] at hb
      rw [hb.1, hb.2, hd, hg]
      cases (m.2.2.2.2.2.1 == 0) <;> cases (m.2.1 == 5) <;> cases (m.2.1 == 2) <;> rfl
  · rw [beq_eq_false_iff_ne.2 f1, if_neg f1]
    by_cases f3 : f = 3
    · subst f3
      simp only [beq_self_eq_true, cond_true, cond_false, if_true]
      unfold bareM
      cases decide (m.2.2.1.length = 1) <;> cases decide (m.2.2.2.2.1.length = 0) <;> cases (m.2.2.2.2.2.1 == 0) <;> rfl
    · rw [beq_eq_false_iff_ne.2 f3, if_neg f3]
      cases decide (m.2.2.1.length = 1) <;> rfl
theorem expm_eq (n : Nat) (hn : 5000 ≤ n) (m : MetD) (hm : MetOK m) (f : Int) : F.expr_Metric n m f = some (expM m f) := by
  unfold F.expr_Metric expM
  by_cases h : f < 1 ∨ f > 4
  · rw [if_pos h]
    have : (f == 1 || (f == 2 || (f == 3 || f == 4))) = false := by
      simp only [Bool.or_eq_false_iff, beq_eq_false_iff_ne]; omega
    rw [this]; rfl
  rw [if_neg h]
  have : (f == 1 || (f == 2 || (f == 3 || f == 4))) = true := by
    simp only [Bool.or_eq_true, beq_iff_eq]; omega
  rw [this, cond_true, metcheck_eq n hn m hm, some_bind']
  by_cases h0 : chkM m = 0
  · rw [h0]
    have e : (if f = 1 then F.expr_said_statsd n m else if f = 3 then F.expr_said_graphite n m else F.expr_said_any n m) = some (saysM m f) := by
      unfold saysM
      by_cases f1 : f = 1
      · rw [if_pos f1, if_pos f1, said_s]
      · rw [if_neg f1, if_neg f1]
        by_cases f3 : f = 3
        · rw [if_pos f3, if_pos f3, said_g]
        · rw [if_neg f3, if_neg f3]; rfl
    rw [e]
    cases saysM m f <;> rfl
  · rw [beq_eq_false_iff_ne.2 h0, if_neg h0]; rfl
theorem expm_ref (n : Nat) (hn : 5000 ≤ n) (m : MetD) (hm : MetOK m) (f : Int) : F.ref09_Metric n m f = some (expM m f) := by
  unfold F.ref09_Metric expM
  by_cases h1 : f < 1
  · rw [bif_pos h1, if_pos (Or.inl h1)]
  rw [bif_neg h1]
  by_cases h2 : f > 4
  · rw [bif_pos h2, if_pos (Or.inr h2)]
  rw [bif_neg h2, if_neg (by omega)]
  have hc : F.ref07_Check n (m.1, m.2.1, m.2.2.1, m.2.2.2.1, m.2.2.2.2.1, m.2.2.2.2.2.1, ()) = some (chkM m) := metcheck_ref n hn m hm
  have hs : F.ref09_Says n (m.1, m.2.1, m.2.2.1, m.2.2.2.1, m.2.2.2.2.1, m.2.2.2.2.2.1, ()) f = some (saysM m f) := says_ref n m f
  rw [hc, some_bind']
  by_cases h0 : chkM m = 0
  · rw [h0, if_pos rfl, hs]
    cases saysM m f <;> rfl
  · rw [beq_eq_false_iff_ne.2 h0, if_neg h0]; rfl
end Go.AM
set_option linter.unusedVariables false
set_option linter.unusedSimpArgs false
namespace Go.AM
theorem text_zeros (n : Nat) (X : Type) (k0 : (List UInt8) → Bool → Int → Int → Option X) (neg : Bool) (c e : Int) : ∀ (j i m : Nat) (v : List UInt8), ((i : Int) + j = e ∨ j = 0 ∧ e ≤ i) → j < m → i + j ≤ 1000 → v.length + j ≤ 100000 → F.ref03_Text.L3 n k0 m v (i : Int) neg c e = k0 (v ++ List.replicate j 48) neg c e := by
  intro j
  induction j with
  | zero =>
    intro i m v h hm hi hv
    obtain ⟨m, rfl⟩ : ∃ q, m = q + 1 := ⟨m - 1, by omega⟩
    show F.ref03_Text.L3.step n _ k0 _ _ _ _ _ = _
    unfold F.ref03_Text.L3.step
    rw [bif_neg (by omega), List.replicate_zero, List.append_nil]
  | succ j ih =>
    intro i m v h hm hi hv
    obtain ⟨m, rfl⟩ : ∃ q, m = q + 1 := ⟨m - 1, by omega⟩
    show F.ref03_Text.L3.step n (F.ref03_Text.L3 n k0 m) k0 _ _ _ _ _ = _
    unfold F.ref03_Text.L3.step
    rw [bif_pos (by omega), bif_pos (by rw [strMax_eq]; omega), wrap_succ (by omega), ih (i + 1) m _ (by omega) (by omega) (by omega) (by simp; omega), List.append_assoc, List.replicate_succ]
    rfl
theorem text_pad (n : Nat) (X : Type) (k2 : (List UInt8) → Bool → Int → Int → Option X) (neg : Bool) (c e : Int) (he : -100 ≤ e ∧ e < 0) : ∀ (j m : Nat) (v : List UInt8), ((v.length : Int) + j = 1 - e ∨ j = 0 ∧ 1 - e ≤ v.length) → j < m → v.length + j ≤ 100000 → F.ref03_Text.L7 n k2 m v neg c e = k2 (List.replicate j 48 ++ v) neg c e := by
  intro j
  induction j with
  | zero =>
    intro m v h hm hv
    obtain ⟨m, rfl⟩ : ∃ q, m = q + 1 := ⟨m - 1, by omega⟩
    show F.ref03_Text.L7.step n _ k2 _ _ _ _ = _
    unfold F.ref03_Text.L7.step
    rw [wrap_in (by omega), bif_neg (by omega)]
    rfl
  | succ j ih =>
    intro m v h hm hv
    obtain ⟨m, rfl⟩ : ∃ q, m = q + 1 := ⟨m - 1, by omega⟩
    show F.ref03_Text.L7.step n (F.ref03_Text.L7 n k2 m) k2 _ _ _ _ = _
    unfold F.ref03_Text.L7.step
    rw [wrap_in (by omega), bif_pos (by omega), bif_pos (by rw [strMax_eq]; omega), ih m _ (by simp; omega) (by omega) (by simp; omega), List.replicate_succ', List.append_assoc]
theorem text_ref (n : Nat) (hn : 5000 ≤ n) (neg : Bool) (c : Nat) (hc : c < two64) (e : Int) (he : -18 ≤ e ∧ e ≤ 18) : F.ref03_Text n (neg, (c : Int), e, ()) = some (textD neg c e) := by
  unfold F.ref03_Text
  have hl := dd_len64 hc
  simp only [digits03 n (by omega) c hc, some_bind']
  have hz := text_zeros n (List UInt8) (fun e2_3 e2_b0_0 e2_b0_1 e2_b0_2 =>
        bif decide (e2_b0_2 < (0 : Int)) then
          F.ref03_Text.L7 n
            (fun e3_3 e3_b0_0 e3_b0_1 e3_b0_2 =>
              (sub e3_3 (0 : Int) (IntKind.wrap .i64 ((e3_3.length : Int) + e3_b0_2))).bind fun x4 =>
                bif decide (x4.length + 1 ≤ strMax) then
                  (sub e3_3 (IntKind.wrap .i64 ((e3_3.length : Int) + e3_b0_2)) (e3_3.length : Int)).bind fun x5 =>
                    bif decide (((x4 ++ ([46])).length) + x5.length ≤ strMax) then
                      bif e3_b0_0 then
                        bif decide (1 + (((x4 ++ ([46])) ++ x5).length) ≤ strMax) then
                          some (([45]) ++ ((x4 ++ ([46])) ++ x5))
                        else
                          none
                      else
                        some ((x4 ++ ([46])) ++ x5)
                    else
                      none
                else
                  none) n e2_3 e2_b0_0 e2_b0_1 e2_b0_2
        else
        bif e2_b0_0 then
          bif decide (1 + e2_3.length ≤ strMax) then
            some (([45]) ++ e2_3)
          else
            none
        else
          some (e2_3)) neg (c : Int) e e.toNat 0 n (Lib.decDigits c) (by omega) (by omega) (by omega) (by omega)
  refine hz.trans ?_
  unfold textD
  by_cases hE : 0 ≤ e
  · rw [bif_neg (by omega), if_pos hE]
    cases neg
    · rfl
    · rw [cond_true, bif_pos (by rw [strMax_eq]; simp; omega)]
      rfl
  · obtain ⟨w1, w2, w3⟩ := wideW_len c hc e (by omega)
    have hwl : (List.replicate (1 - e - (Lib.decDigits c).length).toNat (48 : UInt8)).length + (Lib.decDigits c).length = (wideW c e).length := by unfold wideW; simp
    have hww : List.replicate (1 - e - (Lib.decDigits c).length).toNat (48 : UInt8) ++ Lib.decDigits c = wideW c e := rfl
    rw [bif_pos (by omega), if_neg hE, show e.toNat = 0 from by omega, List.replicate_zero, List.append_nil, text_pad n _ _ neg (c : Int) e (by omega) (1 - e - (Lib.decDigits c).length).toNat n _ (by omega) (by omega) (by omega), hww]
    generalize wideW c e = w at w1 w2 w3
    have hat : IntKind.wrap .i64 ((w.length : Int) + e) = ((w.length - e.natAbs : Nat) : Int) := by rw [wrap_in (by omega)]; omega
    rw [hat]
    have s1 : sub w 0 ((w.length - e.natAbs : Nat) : Int) = some (w.take (w.length - e.natAbs)) := by
      have := sub_nat w 0 (w.length - e.natAbs) (by omega) (by omega)
      rw [List.drop_zero] at this
      exact this
    have s2 : sub w ((w.length - e.natAbs : Nat) : Int) (w.length : Int) = some (w.drop (w.length - e.natAbs)) := by
      have := sub_nat w (w.length - e.natAbs) w.length (by omega) (Nat.le_refl _)
      rw [List.take_length] at this
      exact this
    rw [s1, some_bind', bif_pos (by rw [strMax_eq]; simp; omega), s2, some_bind', bif_pos (by rw [strMax_eq]; simp; omega)]
    cases neg
    · rfl
    · rw [cond_true, bif_pos (by rw [strMax_eq]; simp; omega)]
      rfl
end Go.AM
set_option linter.unusedVariables false
set_option linter.unusedSimpArgs false
namespace Go.AM
theorem small_loop (n : Nat) (X : Type) (k0 : List UInt8 → Int → List DecL → Int → List TagL → Int → Option X) (kr : Bool → List UInt8 → Int → List DecL → Int → List TagL → Int → Option X) (vs : List TagL) (hs : vs.length ≤ 140737488351232) (b0 : List UInt8) (b1 : Int) (b2 : List DecL) (b3 : Int) (b5 : Int) : ∀ (j k m : Nat), k + j = 51 → j < m →
    F.law10_Small.L2 n k0 kr m (k : Int) b0 b1 b2 b3 vs b5 = bif ((vs.drop k).take j).all (fun t => decide (t.1.length ≤ 200) && decide (t.2.length ≤ 200)) then k0 b0 b1 b2 b3 vs b5 else kr false b0 b1 b2 b3 vs b5 := by
  intro j
  induction j with
  | zero =>
    intro k m hk hm
    obtain ⟨m, rfl⟩ : ∃ q, m = q + 1 := ⟨m - 1, by omega⟩
    show F.law10_Small.L2.step n (F.law10_Small.L2 n k0 kr m) k0 kr _ _ _ _ _ _ _ = _
    unfold F.law10_Small.L2.step
    rw [bif_neg (by omega : ¬ (k : Int) < 51)]
    by_cases h : (k : Int) < (vs.length : Int)
    · rw [bif_pos h]; rfl
    · rw [bif_neg h]; rfl
  | succ j ih =>
    intro k m hk hm
    obtain ⟨m, rfl⟩ : ∃ q, m = q + 1 := ⟨m - 1, by omega⟩
    show F.law10_Small.L2.step n (F.law10_Small.L2 n k0 kr m) k0 kr _ _ _ _ _ _ _ = _
    unfold F.law10_Small.L2.step
    rw [bif_pos (by omega : (k : Int) < 51)]
    by_cases h : k < vs.length
    · rw [bif_pos (by omega), idx_lt h]
      have hd : vs.drop k = vs[k] :: vs.drop (k + 1) := List.drop_eq_getElem_cons h
      simp only [some_bind', hd, List.take_succ_cons, List.all_cons]
      rw [wrap_succ (by omega), ih (k + 1) m (by omega) (by omega)]
      by_cases h1 : vs[k].1.length ≤ 200
      · rw [bif_neg (by omega), decide_eq_true h1]
        by_cases h2 : vs[k].2.length ≤ 200
        · rw [bif_neg (by omega), decide_eq_true h2]; rfl
        · rw [bif_pos (by omega), decide_eq_false h2]; rfl
      · rw [bif_pos (by omega), decide_eq_false h1]; rfl
    · rw [bif_neg (by omega), List.drop_eq_nil_of_le (by omega)]; rfl
def smallB (m : MetD) : Bool := (m.2.2.2.2.1.take 51).all (fun t => decide (t.1.length ≤ 200) && decide (t.2.length ≤ 200)) && (decide (m.1.length ≤ 300) && (decide (m.2.2.1.length ≤ 80) && decide (m.2.2.2.2.1.length ≤ 50)))
theorem small_eq (n : Nat) (hn : 5000 ≤ n) (m : MetD) (hs : m.2.2.2.2.1.length ≤ 140737488351232) : F.law10_Small n m = some (smallB m) := by
  obtain ⟨nm, k, vs, r, ts, t, _⟩ := m
  simp only at hs
  unfold F.law10_Small smallB
  refine (small_loop n Bool _ _ ts hs nm k vs r t 51 0 n (by omega) (by omega)).trans ?_
  rw [List.drop_zero]
  simp only
  cases (ts.take 51).all (fun t => decide (t.1.length ≤ 200) && decide (t.2.length ≤ 200))
  · rfl
  · rw [cond_true]
    have e1 : decide ((nm.length : Int) ≤ 300) = decide (nm.length ≤ 300) := by apply decide_eq_decide.2; omega
    have e2 : decide ((vs.length : Int) ≤ 80) = decide (vs.length ≤ 80) := by apply decide_eq_decide.2; omega
    have e3 : decide ((ts.length : Int) ≤ 50) = decide (ts.length ≤ 50) := by apply decide_eq_decide.2; omega
    rw [e1, e2, e3]
    cases decide (nm.length ≤ 300) <;> cases decide (vs.length ≤ 80) <;> rfl
def MetWf (m : MetD) : Prop := (∀ d ∈ m.2.2.1, DecLOK d)
theorem small_ok {m : MetD} (hw : MetWf m) (h : smallB m = true) : MetOK m ∧ m.1.length ≤ 300 := by
  unfold smallB at h
  simp only [Bool.and_eq_true, decide_eq_true_eq] at h
  obtain ⟨h1, h2, h3, h4⟩ := h
  refine ⟨⟨by omega, ⟨by omega, hw⟩, by omega, fun t ht => ?_⟩, h2⟩
  rw [List.take_of_length_le (by omega)] at h1
  have := List.all_eq_true.1 h1 t ht
  simp only [Bool.and_eq_true, decide_eq_true_eq] at this
  exact ⟨by omega, by omega⟩
def rateL (r : Int) : List UInt8 := if r = 1000000 then [] else [124, 64] ++ (rateText r).1
def valL : List DecL → List UInt8
  | [] => []
  | d :: _ => textD d.1 d.2.1.toNat d.2.2
def lineS (m : MetD) : List UInt8 := m.1 ++ [58] ++ valL m.2.2.1 ++ [124] ++ wordL m.2.1 ++ rateL m.2.2.2.1
def lineR (m : MetD) : List UInt8 × Int × Unit := if expM m 1 = 0 then (lineS m, 0, ()) else ([], expM m 1, ())
theorem chk_zero {m : MetD} (h : chkM m = 0) : nameOK m.1 = true ∧ kindB m.2.1 = true ∧ valsB m.2.2.1 = true ∧ rateB m.2.1 m.2.2.2.1 = true ∧ tagsB m.2.2.2.2.1 = true ∧ timeB m.2.2.2.2.2.1 = true := by
  unfold chkM at h
  revert h
  cases nameOK m.1 <;> cases kindB m.2.1 <;> cases valsB m.2.2.1 <;> cases rateB m.2.1 m.2.2.2.1 <;> cases tagsB m.2.2.2.2.1 <;> cases timeB m.2.2.2.2.2.1 <;> simp
theorem said_facts {m : MetD} (h : expM m 1 = 0) : ∃ nm k d r, m = (nm, k, [d], r, [], 0, ()) ∧ nameOK nm = true ∧ 1 ≤ k ∧ k ≤ 4 ∧ decC d = 0 ∧ 1 ≤ r ∧ r ≤ 1000000 ∧ (k = 2 → r = 1000000) ∧ (k = 2 → d.1 = false) := by
  obtain ⟨nm, k, vs, r, ts, t, _⟩ := m
  unfold expM at h
  rw [if_neg (by omega)] at h
  by_cases h0 : chkM (nm, k, vs, r, ts, t, ()) = 0
  · rw [if_pos h0] at h
    have hs : saysS (nm, k, vs, r, ts, t, ()) = true := by
      cases e : saysM (nm, k, vs, r, ts, t, ()) 1
      · rw [e] at h; cases h
      · exact e
    obtain ⟨c1, c2, c3, c4, c5, c6⟩ := chk_zero h0
    simp only at c1 c2 c3 c4 c5 c6
    unfold saysS at hs
    simp only [Bool.and_eq_true, Bool.not_eq_true', beq_iff_eq, beq_eq_false_iff_ne, Bool.or_eq_true] at hs
    obtain ⟨hb, ht, hk5, hk2⟩ := hs
    unfold bareM at hb
    simp only [Bool.and_eq_true, decide_eq_true_eq] at hb
    obtain ⟨hv, hg⟩ := hb
    have hg' : ts = [] := List.length_eq_zero_iff.1 hg
    subst hg' ht
    match vs, hv with
    | [d], _ =>
      unfold kindB at c2
      unfold valsB at c3
      unfold rateB at c4
      simp only [Bool.and_eq_true, decide_eq_true_eq, List.all_cons, List.all_nil, Bool.and_true, beq_iff_eq, Bool.or_eq_true, Bool.not_eq_true', beq_eq_false_iff_ne] at c2 c3 c4
      refine ⟨nm, k, d, r, rfl, c1, c2.1, by omega, c3.2.2, c4.1, c4.2.1, fun hk => ?_, fun hk => ?_⟩
      · rcases c4.2.2 with h | h
        · exact absurd hk h
        · exact h
      · rcases hk2 with h | h
        · exact absurd hk h
        · exact h
  · rw [if_neg h0] at h; exact absurd h h0
theorem wordE_in {k : Int} (h1 : 1 ≤ k) (h2 : k ≤ 4) : wordE k = 0 := by unfold wordE; rw [if_pos (by omega)]
theorem wordL_le (k : Int) : (wordL k).length ≤ 2 := by
  unfold wordL
  repeat (first | split | decide)
theorem rateText_ok {r : Int} (h1 : 1 ≤ r) (h2 : r ≤ 1000000) : (rateText r).2.1 = 0 ∧ (rateText r).1.length ≤ 8 := by
  by_cases h : r = 1000000
  · subst h; exact ⟨rfl, by decide⟩
  · rw [rateText_form ⟨h1, by omega⟩]
    obtain ⟨p1, p2, p3, p4⟩ := pad6_all (k := r.toNat) (by omega)
    have := trz_le (pad6 r.toNat)
    refine ⟨rfl, ?_⟩
    simp only [List.length_cons]
    omega
theorem textD_le {d : DecL} (hd : DecLOK d) (h : decC d = 0) : (textD d.1 d.2.1.toNat d.2.2).length ≤ 39 := by
  obtain ⟨neg, c, e, rfl, hc, he⟩ := decL_nat hd
  exact (text_len neg c hc e (check_zero h).2).1
theorem decText_eq (n : Nat) (hn : 5000 ≤ n) {d : DecL} (hd : DecLOK d) (h : decC d = 0) : F.dec_Text n (d.1, d.2.1, d.2.2, ()) = some (textD d.1 d.2.1.toNat d.2.2, 0, ()) := by
  obtain ⟨neg, c, e, rfl, hc, he⟩ := decL_nat hd
  have h' : checkR neg c e = 0 := h
  have := text_dec n hn neg c hc e he
  rw [if_pos h'] at this
  exact this
theorem decText_ref (n : Nat) (hn : 5000 ≤ n) {d : DecL} (hd : DecLOK d) (h : decC d = 0) : F.ref03_Text n (d.1, d.2.1, d.2.2, ()) = some (textD d.1 d.2.1.toNat d.2.2) := by
  obtain ⟨neg, c, e, rfl, hc, he⟩ := decL_nat hd
  exact text_ref n hn neg c hc e (check_zero h).2
theorem line_eq (n : Nat) (hn : 5000 ≤ n) (m : MetD) (hm : MetOK m) : F.statsd_Line n m = some (lineR m) := by
  unfold F.statsd_Line lineR
  have he : F.expr_Metric n (m.1, m.2.1, m.2.2.1, m.2.2.2.1, m.2.2.2.2.1, m.2.2.2.2.2.1, ()) (1 : Int) = some (expM m 1) := expm_eq n hn m hm 1
  rw [he, some_bind']
  by_cases h0 : expM m 1 = 0
  · rw [if_pos h0]
    obtain ⟨nm, k, d, r, rfl, hnm, k1, k4, hd, r1, r2, hr2, hneg⟩ := said_facts h0
    have hdo : DecLOK d := hm.2.1.2 d (by simp)
    have hn1 := hm.1
    simp only at hn1
    have ht := textD_le hdo hd
    have hw := wordL_le k
    obtain ⟨t1, t2⟩ := rateText_ok r1 r2
    have hE := wordE_in k1 k4
    have hi : idx [d] (0 : Int) = some d := rfl
    rw [h0]
    simp only [O.word, some_bind', hE, hi, decText_eq n hn hdo hd, rateText_num, t1]
    unfold lineS valL rateL
    simp only [beq_self_eq_true, Bool.not_true, cond_false]
    rw [bif_pos (by rw [strMax_eq]; omega), bif_pos (by rw [strMax_eq]; simp; omega), bif_pos (by rw [strMax_eq]; simp; omega), bif_pos (by rw [strMax_eq]; simp; omega)]
    by_cases hr : r = 1000000
    · subst hr; simp
    · rw [beq_eq_false_iff_ne.2 hr, cond_false, if_neg hr, bif_pos (by rw [strMax_eq]; simp; omega), bif_pos (by rw [strMax_eq]; simp; omega), bif_pos (by rw [strMax_eq]; simp; omega)]
      simp
  · rw [beq_eq_false_iff_ne.2 h0, if_neg h0]; rfl
theorem refLine_eq (n : Nat) (hn : 5000 ≤ n) (m : MetD) (hm : MetOK m) (h0 : expM m 1 = 0) : F.ref10_Line n m = some (lineS m) := by
  unfold F.ref10_Line
  obtain ⟨nm, k, d, r, rfl, hnm, k1, k4, hd, r1, r2, hr2, hneg⟩ := said_facts h0
  have hdo : DecLOK d := hm.2.1.2 d (by simp)
  have hn1 := hm.1
  simp only at hn1
  have ht := textD_le hdo hd
  have hw := wordL_le k
  obtain ⟨t1, t2⟩ := rateText_ok r1 r2
  have hi : idx [d] (0 : Int) = some d := rfl
  simp only [hi, some_bind', decText_ref n hn hdo hd, refWord_eq, rateText_ref n (by omega) r ⟨r1, r2⟩]
  unfold lineS valL rateL
  rw [bif_pos (by rw [strMax_eq]; omega), bif_pos (by rw [strMax_eq]; simp; omega), bif_pos (by rw [strMax_eq]; simp; omega), bif_pos (by rw [strMax_eq]; simp; omega)]
  by_cases hr : r = 1000000
  · subst hr; simp
  · rw [beq_eq_false_iff_ne.2 hr, Bool.not_false, cond_true, if_neg hr, bif_pos (by rw [strMax_eq]; simp; omega), bif_pos (by rw [strMax_eq]; simp; omega)]
    simp
theorem awake10 (n : Nat) (hn : 5000 ≤ n) : F.law10_awake n = some true := by
  unfold F.law10_awake
  have d15 : Lib.decDigits 15 = [49, 53] := dd_inv (l := [49, 53]) rfl ⟨by simp, by simp⟩
  have d11 : Lib.decDigits 1100000 = [49, 49, 48, 48, 48, 48, 48] := dd_inv (l := [49, 49, 48, 48, 48, 48, 48]) rfl ⟨by simp, by simp⟩
  have c15 : checkR false 15 (-1) = 0 := by unfold checkR; rw [d15]; rfl
  have t15 : textD false 15 (-1) = [49, 46, 53] := by unfold textD wideW; rw [d15]; rfl
  have q1 : sdParse [97, 46, 98, 58, 49, 46, 53, 48, 124, 109, 115, 124, 64, 48, 46, 49] = some (([97, 46, 98], 3, [(false, 15, -1)], 100000, [], 0, ()), (0, 0, ()), ()) := by kernel_rfl
  have q2 : sdParse [97, 58, 45, 49, 124, 103] = some (([], 0, [], 0, [], 0, ()), (26, 2, ()), ()) := by kernel_rfl
  have q3 : sdParse [97, 58, 49, 124, 99, 124, 120] = some (([], 0, [], 0, [], 0, ()), (11, 6, ()), ()) := by kernel_rfl
  have q4 : sdParse [97, 58, 49] = some (([], 0, [], 0, [], 0, ()), (11, 3, ()), ()) := by kernel_rfl
  have rt : (rateText 100000).1 = [48, 46, 49] := by
    unfold rateText pad6
    rw [if_neg (by decide), if_neg (by decide), show 1000000 + (100000 : Int).toNat = 1100000 from rfl, d11]; rfl
  have hok : MetOK ([97, 46, 98], 3, [(false, 15, -1)], 100000, [], 0, ()) := ⟨by decide, ⟨by decide, fun d hd => by
    have : d = (false, 15, -1) := by simpa using hd
    subst this
    exact ⟨trivial, by decide, by decide⟩⟩, by decide, fun t ht => by simp at ht⟩
  have hx : expM ([97, 46, 98], 3, [(false, 15, -1)], 100000, [], 0, ()) 1 = 0 := by
    have hv : valsB [(false, 15, -1)] = true := by
      unfold valsB
      have : decC (false, 15, -1) = 0 := c15
      simp [this]
    unfold expM chkM
    simp only [hv]
    rfl
  have hl : F.statsd_Line n ([97, 46, 98], 3, [(false, 15, -1)], 100000, [], 0, ()) = some ([97, 46, 98, 58, 49, 46, 53, 124, 109, 115, 124, 64, 48, 46, 49], 0, ()) := by
    rw [line_eq n hn _ hok]
    unfold lineR
    rw [if_pos hx]
    unfold lineS valL rateL
    have t15' : textD false (15 : Int).toNat (-1) = [49, 46, 53] := t15
    simp only [t15', rt]
    rfl
  rw [sdParse_eq n hn _ (by simp), sdParse_eq n hn _ (by simp), sdParse_eq n hn _ (by simp), sdParse_eq n hn _ (by simp), q1, q2, q3, q4]
  simp only [some_bind', hl]
  rfl
theorem statsd_words (n : Nat) (hn : 5000 ≤ n) (k : Int) (s : List UInt8) : F.law10_StatsdWords n k s = some true := words_law n (by omega) (awake10 n hn) k s
theorem statsd_lines (n : Nat) (hn : 5000 ≤ n) (m : MetD) (hw : MetWf m) (hl : m.2.2.2.2.1.length ≤ 140737488351232) : F.law10_StatsdLines n m = some true := by
  unfold F.law10_StatsdLines
  have hs : F.law10_Small n (m.1, m.2.1, m.2.2.1, m.2.2.2.1, m.2.2.2.2.1, m.2.2.2.2.2.1, ()) = some (smallB m) := small_eq n hn m hl
  rw [hs, some_bind', awake10 n hn]
  by_cases h : smallB m = true
  · have hm := (small_ok hw h).1
    have h1 : F.statsd_Line n (m.1, m.2.1, m.2.2.1, m.2.2.2.1, m.2.2.2.2.1, m.2.2.2.2.2.1, ()) = some (lineR m) := line_eq n hn m hm
    have h2 : F.ref09_Metric n (m.1, m.2.1, m.2.2.1, m.2.2.2.1, m.2.2.2.2.1, m.2.2.2.2.2.1, ()) (1 : Int) = some (expM m 1) := expm_ref n hn m hm 1
    rw [h, Bool.not_true, cond_false, h1, some_bind', h2, some_bind']
    unfold lineR
    by_cases h0 : expM m 1 = 0
    · have h3 : F.ref10_Line n (m.1, m.2.1, m.2.2.1, m.2.2.2.1, m.2.2.2.2.1, m.2.2.2.2.2.1, ()) = some (lineS m) := refLine_eq n hn m hm h0
      rw [h3, h0, if_pos rfl]
      simp
    · rw [if_neg h0, beq_eq_false_iff_ne.2 h0]
      simp
  · have h : smallB m = false := by simpa using h
    rw [h]; rfl
end Go.AM
set_option linter.unusedVariables false
set_option linter.unusedSimpArgs false
namespace Go.AM
theorem fill_loop (n : Nat) (X : Type) (k0 : List UInt8 → Int → Int → Option X) (b0 b1 : Int) : ∀ (j m : Nat) (v : List UInt8), v.length + j = 6 → j < m → F.ref05_Rate.L17 n k0 m v b0 b1 = k0 (v ++ List.replicate j 48) b0 b1 := by
  intro j
  induction j with
  | zero =>
    intro m v h hm
    obtain ⟨m, rfl⟩ : ∃ q, m = q + 1 := ⟨m - 1, by omega⟩
    show F.ref05_Rate.L17.step n (F.ref05_Rate.L17 n k0 m) k0 v b0 b1 = _
    unfold F.ref05_Rate.L17.step
    rw [bif_neg (by omega), List.replicate_zero, List.append_nil]
  | succ j ih =>
    intro m v h hm
    obtain ⟨m, rfl⟩ : ∃ q, m = q + 1 := ⟨m - 1, by omega⟩
    show F.ref05_Rate.L17.step n (F.ref05_Rate.L17 n k0 m) k0 v b0 b1 = _
    unfold F.ref05_Rate.L17.step
    rw [bif_pos (by omega), bif_pos (by rw [strMax_eq]; omega), ih m _ (by simp; omega) (by omega), List.append_assoc, List.replicate_succ]
    rfl
theorem head_idx {s : List UInt8} {k : Nat} (h : k < s.length) : idx s (k : Int) = some s[k] ∧ (s.drop k).head? = some s[k] := by
  refine ⟨idx_lt h, ?_⟩
  rw [List.head?_drop]; simp [h]
theorem beq_byte (x : UInt8) (c : UInt8) : (((x.toNat : Nat) : Int) == ((c.toNat : Nat) : Int)) = decide (x = c) := by
  by_cases h : x = c
  · subst h; simp
  · rw [decide_eq_false h, beq_eq_false_iff_ne]
    intro hh
    exact h (u8_ext (by omega))
theorem rate_ref (n : Nat) (hn : 100 ≤ n) (s : List UInt8) (hs : s.length ≤ 1000000) (hl : s.length < n) : F.ref05_Rate n s = some (rateR s) := by
  unfold F.ref05_Rate rateR
  by_cases h1 : s = [49]
  · rw [if_pos h1, h1]; rfl
  rw [beq_eq_false_iff_ne.2 h1, cond_false, if_neg h1]
  by_cases h2 : s = []
  · rw [if_pos h2, h2]; rfl
  rw [beq_eq_false_iff_ne.2 h2, cond_false, if_neg h2]
  have hp : 0 < s.length := List.length_pos_iff.2 h2
  obtain ⟨i0, g0⟩ := head_idx hp
  rw [List.drop_zero] at g0
  have i0' : idx s (0 : Int) = some s[0] := i0
  have b0 : (((s[0].toNat : Nat) : Int) == 48) = decide (s[0] = 48) := beq_byte s[0] 48
  rw [i0', some_bind', b0, g0]
  by_cases h3 : s[0] = 48
  · rw [decide_eq_true h3, Bool.not_true, cond_false, if_neg (by simp [h3])]
    by_cases h4 : (s.length : Int) < 2
    · have : (s.drop 1).head? = none := by rw [List.drop_eq_nil_of_le (by omega)]; rfl
      rw [bif_pos h4, this, if_pos (by simp)]; rfl
    rw [bif_neg h4]
    obtain ⟨i1, g1⟩ := head_idx (s := s) (k := 1) (by omega)
    have i1' : idx s (1 : Int) = some s[1] := i1
    have b1 : (((s[1].toNat : Nat) : Int) == 46) = decide (s[1] = 46) := beq_byte s[1] 46
    rw [i1', some_bind', b1, g1]
    by_cases h5 : s[1] = 46
    · rw [decide_eq_true h5, Bool.not_true, cond_false, if_neg (by simp [h5])]
      have hdl : (s.drop 2).length + 2 = s.length := by simp; omega
      have hsub : sub s (2 : Int) (s.length : Int) = some (s.drop 2) := sub_tail (s := s) (p := 2) (by omega)
      rw [hsub, some_bind']
      generalize s.drop 2 = d at hdl ⊢
      by_cases h6 : d = []
      · rw [if_pos h6, h6]; rfl
      rw [beq_eq_false_iff_ne.2 h6, cond_false, if_neg h6, bad_ref n hn 4 d (by omega) (by omega), some_bind', cls4_fun]
      by_cases h7 : 0 ≤ badK isDig 0 d
      · rw [bif_pos (by omega), if_pos h7]
        have := badK_hi isDig 0 d
        rw [wrap_in (by omega)]
        rfl
      rw [bif_neg (by omega), if_neg h7]
      have hd := digs_of_bad h7
      by_cases h8 : 6 < d.length
      · rw [bif_pos (by omega), if_pos h8]; rfl
      rw [bif_neg (by omega), if_neg h8, fill_loop n _ _ 0 0 (6 - d.length) n d (by omega) (by omega)]
      have hD : Digs (d ++ List.replicate (6 - d.length) 48) := digs_append.2 ⟨hd, digs_rep _⟩
      have hv := val_lt hD
      have hlen : (d ++ List.replicate (6 - d.length) (48 : UInt8)).length = 6 := by simp; omega
      rw [hlen] at hv
      rw [value_ref n _ (by omega) (by omega) hD, some_bind', if_pos (by omega), val_zeros_right] at *
      have hpp : 0 < 10 ^ (6 - d.length) := Nat.pow_pos (by omega)
      by_cases h9 : val d = 0
      · rw [if_pos h9, h9, Nat.zero_mul]; rfl
      · have := Nat.mul_pos (Nat.pos_of_ne_zero h9) hpp
        rw [if_neg h9, beq_eq_false_iff_ne.2 (by simp only; omega)]
        rfl
    · rw [decide_eq_false h5, if_pos (by simp [h5])]; rfl
  · rw [decide_eq_false h3, if_pos (by simp [h3])]; rfl
theorem find_loop (n : Nat) (X : Type) (k0 : List UInt8 → Option X) (kr : Int → Option X) (c : UInt8) (s : List UInt8) (hs : s.length ≤ 1000000) : ∀ (r : List UInt8) (k m : Nat), s.drop k = r → r.length < m →
    F.ref10_Find.L2 n k0 kr m s (c.toNat : Int) (k : Int) = if c ∈ r then kr ((k + (seg c r).length : Nat) : Int) else k0 s := by
  intro r
  induction r with
  | nil =>
    intro k m hk hm
    have := drop_nil' hk
    obtain ⟨m, rfl⟩ : ∃ q, m = q + 1 := ⟨m - 1, by omega⟩
    show F.ref10_Find.L2.step n (F.ref10_Find.L2 n k0 kr m) k0 kr s _ (k : Int) = _
    unfold F.ref10_Find.L2.step
    rw [bif_neg (by omega), if_neg (by simp)]
  | cons x r ih =>
    intro k m hk hm
    obtain ⟨h1, h2, h3⟩ := drop_cons hk
    obtain ⟨m, rfl⟩ : ∃ q, m = q + 1 := ⟨m - 1, by omega⟩
    show F.ref10_Find.L2.step n (F.ref10_Find.L2 n k0 kr m) k0 kr s _ (k : Int) = _
    unfold F.ref10_Find.L2.step
    rw [bif_pos (by omega), idx_nat, h2, some_bind', beq_byte, seg_cons]
    by_cases hx : x = c
    · rw [decide_eq_true hx, cond_true, if_pos (by simp [hx]), if_pos hx]; rfl
    · rw [decide_eq_false hx, cond_false, if_neg hx, wrap_succ (by omega), ih (k + 1) m h3 (by simp at hm; omega)]
      have hx' : ¬ c = x := fun h => hx h.symm
      by_cases hm : c ∈ r
      · rw [if_pos hm, if_pos (by simp [hm]), List.length_cons]
        congr 1
        omega
      · rw [if_neg hm, if_neg (by simp [hm, hx'])]
theorem find_eq (n : Nat) (c : UInt8) (s : List UInt8) (hs : s.length ≤ 1000000) (hn : s.length < n) (p : Nat) (hp : p ≤ s.length) : F.ref10_Find n s (p : Int) (c.toNat : Int) = some (((p + (seg c (s.drop p)).length : Nat)) : Int) := by
  unfold F.ref10_Find
  refine (find_loop n Int _ _ c s hs (s.drop p) p n rfl (by simp; omega)).trans ?_
  by_cases h : c ∈ s.drop p
  · rw [if_pos h]
  · rw [if_neg h, seg_all h]
    congr 1
    simp; omega
theorem sub_seg {s : List UInt8} {c : UInt8} {p : Nat} (hp : p ≤ s.length) : sub s (p : Int) ((p + (seg c (s.drop p)).length : Nat) : Int) = some (seg c (s.drop p)) := by
  have hl := seg_le c (s.drop p)
  simp at hl
  rw [sub_nat s p _ (by omega) (by omega), List.drop_take, Nat.add_sub_cancel_left, seg_take]
theorem seg_end {s : List UInt8} {c : UInt8} {p : Nat} (hp : p ≤ s.length) : ((((p + (seg c (s.drop p)).length : Nat) : Int)) == (s.length : Int)) = !decide (c ∈ s.drop p) := by
  by_cases h : c ∈ s.drop p
  · have := seg_lt h
    simp at this
    rw [decide_eq_true h, Bool.not_true, beq_eq_false_iff_ne]
    omega
  · rw [decide_eq_false h, seg_all h]
    simp; omega
theorem refName_eq (n : Nat) (hn : 5000 ≤ n) (s : List UInt8) (hs : s.length ≤ 1000) : F.ref10_Name n s = some (nameOK s) := by
  unfold F.ref10_Name nameOK
  rw [text4_ref n (by omega) 1 s 1 200 rfl (by omega) (by omega) (by omega) (by omega), some_bind', textF_both]
section
variable {X : Type} (n : Nat) (kr : KR X)
theorem r27_eq (e : Nat) (r : Int) (s : List UInt8) (b10 : List UInt8) (b11 : Int) (b12 : List DecL) (b13 : Int) (b14 : List TagL) (b15 b20 b21 : Int) (e0 : Bool) (e1 e2 : Int) (d0 : List UInt8) (d1 : Int) (d2 : List DecL) (d3 : Int) (d4 : List TagL) (d5 : Int) (k0 k1 k2 k3 : Nat) :
    F.ref10_Parse.C27 n (kr s) s (e : Int) r b10 b11 b12 b13 b14 b15 b20 b21 e0 e1 e2 d0 d1 d2 d3 d4 d5 k0 k1 k2 k3 = if e < s.length then badK' kr s 11 (e : Int) else kr s d0 d1 d2 r d4 d5 0 0 := by
  unfold F.ref10_Parse.C27
  by_cases h : e < s.length
  · rw [bif_pos (by omega), if_pos h]; rfl
  · rw [bif_neg (by omega), if_neg h]
theorem r18_eq (hn : 2000 ≤ n) (a : Nat) (p : Nat) (kind : Int) (s : List UInt8) (ha : a ≤ s.length) (hs : s.length ≤ 1000) (hp : p ≤ s.length) (b10 : List UInt8) (b11 : Int) (b12 : List DecL) (b13 : Int) (b14 : List TagL) (b15 b20 b21 : Int) (e0 : Bool) (e1 e2 : Int) (k0 k1 : Nat) :
    F.ref10_Parse.C18 n (kr s) s (a : Int) ((p + (seg 124 (s.drop p)).length : Nat) : Int) kind b10 b11 b12 b13 b14 b15 b20 b21 e0 e1 e2 k0 k1 = rateS kr s (s.take a) kind [(e0, e1, e2)] 1000000 [] 0 (decide (124 ∈ s.drop p)) (nextP 124 s p) := by
  unfold F.ref10_Parse.C18 rateS
  have hsub : sub s (0 : Int) (a : Int) = some (s.take a) := by
    have := sub_nat s 0 a (by omega) ha
    rw [List.drop_zero] at this
    exact this
  rw [hsub, some_bind', seg_end hp]
  by_cases hm : 124 ∈ s.drop p
  · have hq : nextP 124 s p = p + (seg 124 (s.drop p)).length + 1 := by unfold nextP; rw [if_pos hm]
    have hlt := seg_lt hm
    simp at hlt
    rw [decide_eq_true hm, Bool.not_true, cond_false, if_neg (by simp), hq, wrap_succ (by omega)]
    generalize hQ : p + (seg 124 (s.drop p)).length = q at *
    by_cases h1 : q + 1 = s.length
    · have e1' : ((((q + 1 : Nat)) : Int) == (s.length : Int)) = true := by simp; omega
      have : ¬ (s.drop (q + 1)).head? = some 64 := by rw [List.drop_eq_nil_of_le (by omega)]; simp
      rw [e1', cond_true, if_pos this]; rfl
    · have e1' : ((((q + 1 : Nat)) : Int) == (s.length : Int)) = false := by rw [beq_eq_false_iff_ne]; omega
      obtain ⟨i1, g1⟩ := head_idx (s := s) (k := q + 1) (by omega)
      have b1 : (((s[q + 1].toNat : Nat) : Int) == 64) = decide (s[q + 1] = 64) := beq_byte _ 64
      rw [e1', cond_false, i1, some_bind', b1, g1]
      by_cases h2 : s[q + 1] = 64
      · rw [decide_eq_true h2, Bool.not_true, cond_false, if_neg (by simp [h2])]
        have w2 : IntKind.wrap .i64 ((q : Int) + 2) = ((q + 1 + 1 : Nat) : Int) := by rw [wrap_in (by omega)]; omega
        have hsl := seg_le 124 (s.drop (q + 1 + 1))
        simp at hsl
        have fe := find_eq n 124 s (by omega) (by omega) (q + 1 + 1) (by omega)
        rw [w2, show (124 : Int) = ((124 : UInt8).toNat : Int) from rfl, fe, some_bind', sub_seg (by omega), some_bind', rate_ref n (by omega) _ (by omega) (by omega), some_bind']
        have r26 : ∀ (t : Bool) (r : Int) (k2 k3 : Nat), F.ref10_Parse.C26 n
                    (fun e44_b0_0 e44_b0_1 e44_b0_2 e44_b0_3 e44_b0_4 e44_b0_5 e44_b1_0 e44_b1_1 =>
                      kr s e44_b0_0 e44_b0_1 e44_b0_2 e44_b0_3 e44_b0_4 e44_b0_5 e44_b1_0 e44_b1_1)
                    (fun e45_0 e45_11 e45_12 e45_b0_0 e45_b0_1 e45_b0_2 e45_b0_3 e45_b0_4 e45_b0_5 e45_b1_0 e45_b1_1 e45_b2_0 e45_b2_1 e45_b2_2 e45_b3_0 e45_b3_1 e45_b3_2 e45_b3_3 e45_b3_4 e45_b3_5 e45_k0 e45_k1 e45_k2 e45_k3 =>
                      F.ref10_Parse.C27 n
                        (fun e46_b0_0 e46_b0_1 e46_b0_2 e46_b0_3 e46_b0_4 e46_b0_5 e46_b1_0 e46_b1_1 =>
                          kr s e46_b0_0 e46_b0_1 e46_b0_2 e46_b0_3 e46_b0_4 e46_b0_5 e46_b1_0 e46_b1_1) e45_0 e45_11 e45_12 e45_b0_0 e45_b0_1 e45_b0_2 e45_b0_3 e45_b0_4 e45_b0_5 e45_b1_0 e45_b1_1 e45_b2_0 e45_b2_1 e45_b2_2 e45_b3_0 e45_b3_1 e45_b3_2 e45_b3_3 e45_b3_4 e45_b3_5 e45_k0 e45_k1 e45_k2 e45_k3) s (q : Int) ((q + 1 + 1 + (seg 124 (s.drop (q + 1 + 1))).length : Nat) : Int) r t b10 b11 b12 b13 b14 b15 b20 b21 e0 e1 e2 (s.take a) kind ([(e0, e1, e2)]) (1000000 : Int) [] (0 : Int) k0 k1 k2 k3
              = if t = true then badK' kr s 18 ((q + 1 + 1 : Nat) : Int) else if 124 ∈ s.drop (q + 1 + 1) then badK' kr s 11 ((q + 1 + 1 + (seg 124 (s.drop (q + 1 + 1))).length : Nat) : Int) else kr s (s.take a) kind [(e0, e1, e2)] r [] 0 0 0 := by
          intro t r k2 k3
          unfold F.ref10_Parse.C26
          cases t
          · rw [cond_false, if_neg (by simp)]
            refine (r27_eq n kr _ r s b10 b11 b12 b13 b14 b15 b20 b21 e0 e1 e2 (s.take a) kind [(e0, e1, e2)] 1000000 [] 0 k0 k1 k2 k3).trans ?_
            by_cases hm2 : 124 ∈ s.drop (q + 1 + 1)
            · have := seg_lt hm2
              simp at this
              rw [if_pos hm2, if_pos (by omega)]
            · rw [if_neg hm2, if_neg]
              rw [seg_all hm2]
              simp; omega
          · rw [cond_true, if_pos rfl, w2]; rfl
        by_cases h3 : (rateR (seg 124 (s.drop (q + 1 + 1)))).2.1.1 = 0
        · have e3 : ((rateR (seg 124 (s.drop (q + 1 + 1)))).2.1.1 == 0) = true := by simp [h3]
          rw [e3, Bool.not_true, cond_false]
          by_cases hk : kind = 2
          · have ek : (kind == 2) = true := by simp [hk]
            rw [ek, cond_true]
            refine (r26 _ _ _ _).trans ?_
            by_cases h4 : (rateR (seg 124 (s.drop (q + 1 + 1)))).1 = 1000000
            · rw [if_neg (show ¬ (¬ (rateR (seg 124 (s.drop (q + 1 + 1)))).2.1.1 = 0 ∨ (kind = 2 ∧ ¬ (rateR (seg 124 (s.drop (q + 1 + 1)))).1 = 1000000)) from by rintro (h | h); exact h h3; exact h.2 h4), h4, if_neg (by simp)]
            · rw [if_pos (by simpa using h4), if_pos (Or.inr ⟨hk, h4⟩)]
          · have ek : (kind == 2) = false := by simpa using hk
            rw [ek, cond_false]
            refine (r26 _ _ _ _).trans ?_
            rw [if_neg (show ¬ (¬ (rateR (seg 124 (s.drop (q + 1 + 1)))).2.1.1 = 0 ∨ (kind = 2 ∧ ¬ (rateR (seg 124 (s.drop (q + 1 + 1)))).1 = 1000000)) from by rintro (h | h); exact h h3; exact hk h.1), if_neg (by simp)]
        · have e3 : ((rateR (seg 124 (s.drop (q + 1 + 1)))).2.1.1 == 0) = false := by simpa using h3
          rw [e3, Bool.not_false, cond_true]
          refine (r26 _ _ _ _).trans ?_
          rw [if_pos rfl, if_pos (Or.inl h3)]
      · rw [decide_eq_false h2, Bool.not_false, cond_true, if_pos (by simp [h2])]; rfl
  · rw [decide_eq_false hm, Bool.not_false, cond_true, if_pos rfl]
end
theorem refParse_eq (n : Nat) (hn : 5000 ≤ n) (s : List UInt8) (hs : s.length ≤ 1000) : F.ref10_Parse n s = sdParse s := by
  unfold F.ref10_Parse sdParse nameS
  have f0 : F.ref10_Find n s (0 : Int) (58 : Int) = some (((seg 58 s).length : Nat) : Int) := by
    have := find_eq n 58 s (by omega) (by omega) 0 (by omega)
    rw [List.drop_zero, Nat.zero_add] at this
    exact this
  have hl := seg_le 58 s
  have s0 : sub s (0 : Int) (((seg 58 s).length : Nat) : Int) = some (seg 58 s) := by
    have := sub_seg (s := s) (c := 58) (p := 0) (by omega)
    rw [List.drop_zero, Nat.zero_add] at this
    exact this
  have e0 : ((((seg 58 s).length : Nat) : Int) == (s.length : Int)) = !decide (58 ∈ s) := by
    have := seg_end (s := s) (c := 58) (p := 0) (by omega)
    rw [List.drop_zero, Nat.zero_add] at this
    exact this
  rw [f0, some_bind', s0, some_bind', refName_eq n hn _ (by omega), some_bind', e0]
  unfold nameOK
  by_cases h1 : (textF 1 (seg 58 s) 1 200).1 = 0
  · have e1 : ((textF 1 (seg 58 s) 1 200).1 == 0) = true := by simp [h1]
    rw [e1, Bool.not_true, cond_false, if_neg (fun h => h h1)]
    by_cases hm : 58 ∈ s
    · have hlt := seg_lt hm
      have hq : nextP 58 s 0 = (seg 58 s).length + 1 := by unfold nextP; rw [List.drop_zero, if_pos hm]; omega
      have htk : s.take (seg 58 s).length = seg 58 s := seg_take 58 s
      rw [decide_eq_true hm, Bool.not_true, cond_false, if_neg (by simp), hq, wrap_succ (by omega)]
      unfold valueS
      generalize hA : (seg 58 s).length = a at *
      have hsl := seg_le 124 (s.drop (a + 1))
      simp at hsl
      rw [show (124 : Int) = ((124 : UInt8).toNat : Int) from rfl, find_eq n 124 s (by omega) (by omega) (a + 1) (by omega), some_bind', sub_seg (by omega), some_bind', refparse_eq n hn _ (by omega), some_bind', seg_end (by omega)]
      by_cases h2 : (parseR (seg 124 (s.drop (a + 1)))).2.1.1 = 0
      · have e2 : ((parseR (seg 124 (s.drop (a + 1)))).2.1.1 == 0) = true := by simp [h2]
        rw [e2, Bool.not_true, cond_false, if_neg (fun h => h h2)]
        by_cases hm2 : 124 ∈ s.drop (a + 1)
        · have hlt2 := seg_lt hm2
          simp at hlt2
          have hq2 : nextP 124 s (a + 1) = a + 1 + (seg 124 (s.drop (a + 1))).length + 1 := by unfold nextP; rw [if_pos hm2]
          rw [decide_eq_true hm2, Bool.not_true, cond_false, if_neg (by simp), hq2, wrap_succ (by omega)]
          unfold kindS
          generalize hB : a + 1 + (seg 124 (s.drop (a + 1))).length = b at *
          have hsl3 := seg_le 124 (s.drop (b + 1))
          simp at hsl3
          rw [find_eq n 124 s (by omega) (by omega) (b + 1) (by omega), some_bind', sub_seg (by omega), some_bind', refKind_eq n (by omega), some_bind']
          by_cases h3 : kindOf (seg 124 (s.drop (b + 1))) = 0
          · rw [h3, if_pos rfl]; rfl
          · rw [beq_eq_false_iff_ne.2 h3, cond_false, if_neg h3]
            have fin := r18_eq n finK (by omega) a (b + 1) (kindOf (seg 124 (s.drop (b + 1)))) s (by omega) hs (by omega) [] 0 [] 0 [] 0 0 0 (parseR (seg 124 (s.drop (a + 1)))).1.1 (parseR (seg 124 (s.drop (a + 1)))).1.2.1 (parseR (seg 124 (s.drop (a + 1)))).1.2.2.1 0 0
            rw [htk] at fin
            by_cases h4 : kindOf (seg 124 (s.drop (b + 1))) = 2
            · have e4 : (kindOf (seg 124 (s.drop (b + 1))) == 2) = true := by simp [h4]
              obtain ⟨i1, g1⟩ := head_idx (s := s) (k := a + 1) (by omega)
              have b1 : (((s[a + 1].toNat : Nat) : Int) == 45) = decide (s[a + 1] = 45) := beq_byte _ 45
              have hv : (seg 124 (s.drop (a + 1))).head? = some s[a + 1] := by
                have hd : s.drop (a + 1) = s[a + 1] :: s.drop (a + 1 + 1) := List.drop_eq_getElem_cons (by omega)
                have hne : ¬ s[a + 1] = 124 := by
                  intro hh
                  rw [hd, seg_cons, if_pos hh] at h2
                  exact absurd h2 (by decide)
                rw [hd, seg_cons, if_neg hne]; rfl
              rw [e4, cond_true, i1, some_bind', b1, hv]
              by_cases h5 : s[a + 1] = 45
              · rw [decide_eq_true h5, cond_true, if_pos ⟨h4, by rw [h5]⟩]; rfl
              · rw [decide_eq_false h5, cond_false, if_neg (fun h => h5 (Option.some.inj h.2))]
                exact fin
            · have e4 : (kindOf (seg 124 (s.drop (b + 1))) == 2) = false := by simpa using h4
              rw [e4, cond_false, if_neg (fun h => h4 h.1)]
              exact fin
        · rw [decide_eq_false hm2, Bool.not_false, cond_true, if_pos rfl]
          have : a + 1 + (seg 124 (s.drop (a + 1))).length = s.length := by rw [seg_all hm2]; simp; omega
          rw [this]; rfl
      · have e2 : ((parseR (seg 124 (s.drop (a + 1)))).2.1.1 == 0) = false := by simpa using h2
        rw [e2, if_pos h2]; rfl
    · rw [decide_eq_false hm, Bool.not_false, cond_true, if_pos rfl, seg_all hm]; rfl
  · have e1 : ((textF 1 (seg 58 s) 1 200).1 == 0) = false := by simpa using h1
    rw [e1, if_pos h1]; rfl
end Go.AM
set_option linter.unusedVariables false
set_option linter.unusedSimpArgs false
namespace Go.AM
def bodyD (c : Nat) (e : Int) : List UInt8 :=
  if 0 ≤ e then Lib.decDigits c ++ List.replicate e.toNat 48 else (wideW c e).take ((wideW c e).length - e.natAbs) ++ [46] ++ (wideW c e).drop ((wideW c e).length - e.natAbs)
theorem textD_body (neg : Bool) (c : Nat) (e : Int) : textD neg c e = sgn neg ++ bodyD c e := by
  unfold textD bodyD
  split <;> rfl
theorem body_len (c : Nat) (hc : c < two64) (e : Int) (he : -18 ≤ e ∧ e ≤ 18) : (bodyD c e).length ≤ 60 ∧ 1 ≤ (bodyD c e).length := by
  have hl := dd_len64 hc
  have hp := List.length_pos_iff.2 (dd_ne c)
  unfold bodyD
  by_cases h : 0 ≤ e
  · rw [if_pos h]; simp; omega
  · obtain ⟨w1, w2, w3⟩ := wideW_len c hc e (by omega)
    rw [if_neg h]; simp; omega
theorem zeros_form (neg : Bool) (c : Nat) (hc : c < two64) (e : Int) (h : checkR neg c e = 0) (k w : Nat) : parseR ((if 0 ≤ e ∧ 0 < w then sgn neg ++ List.replicate k 48 ++ bodyD c e ++ [46] else sgn neg ++ List.replicate k 48 ++ bodyD c e) ++ List.replicate w 48) = ((neg, (c : Int), e, ()), (0, 0, ()), ()) := by
  obtain ⟨h1, h2, h3⟩ := check_zero h
  have fin : outR (valR neg (Lib.decDigits c) e) = ((neg, (c : Int), e, ()), (0, 0, ()), ()) := by rw [h1]; rfl
  have hr : ∀ j, List.replicate (j + 1) (48 : UInt8) ≠ [] := fun j => by simp [List.replicate_succ]
  by_cases hE : 0 ≤ e
  · have hb : bodyD c e = Lib.decDigits c ++ List.replicate e.toNat 48 := by unfold bodyD; rw [if_pos hE]
    have hD : Digs (List.replicate k 48 ++ (Lib.decDigits c ++ List.replicate e.toNat 48)) := digs_append.2 ⟨digs_rep _, digs_append.2 ⟨dd_digs c, digs_rep _⟩⟩
    have hne : List.replicate k 48 ++ (Lib.decDigits c ++ List.replicate e.toNat 48) ≠ [] := by simp [dd_ne]
    have hv : valR neg (List.replicate k 48 ++ (Lib.decDigits c ++ List.replicate e.toNat 48)) 0 = valR neg (Lib.decDigits c) e := by
      rw [valR_zeros_left neg (digs_append.2 ⟨dd_digs c, digs_rep _⟩), valR_zeros_right neg (dd_digs c)]
      congr 1
      omega
    by_cases hw : 0 < w
    · rw [if_pos ⟨hE, hw⟩, hb]
      have : sgn neg ++ List.replicate k 48 ++ (Lib.decDigits c ++ List.replicate e.toNat 48) ++ [46] ++ List.replicate w 48 = sgn neg ++ ((List.replicate k 48 ++ (Lib.decDigits c ++ List.replicate e.toNat 48)) ++ 46 :: List.replicate w 48) := by simp
      have hwn : List.replicate w (48 : UInt8) ≠ [] := by
        obtain ⟨j, rfl⟩ : ∃ j, w = j + 1 := ⟨w - 1, by omega⟩
        exact hr j
      rw [this, parse_point neg hD hne (digs_rep w) hwn, valR_zeros_right neg hD, List.length_replicate, show (-(w : Int) + (w : Int)) = 0 from by omega, hv, fin]
    · rw [if_neg (fun hh => hw hh.2), hb, show w = 0 from by omega, List.replicate_zero, List.append_nil, List.append_assoc, parse_whole neg hD hne, hv, fin]
  · obtain ⟨w1, w2, w3⟩ := wideW_len c hc e (by omega)
    have hb : bodyD c e = (wideW c e).take ((wideW c e).length - e.natAbs) ++ [46] ++ (wideW c e).drop ((wideW c e).length - e.natAbs) := by unfold bodyD; rw [if_neg hE]
    rw [if_neg (fun hh => hE hh.1), hb]
    have hT : (wideW c e).take ((wideW c e).length - e.natAbs) ≠ [] := by
      intro hh
      have := congrArg List.length hh
      simp at this
      omega
    have hDn : (wideW c e).drop ((wideW c e).length - e.natAbs) ≠ [] := by
      intro hh
      have := congrArg List.length hh
      simp at this
      omega
    have hlen : ((wideW c e).drop ((wideW c e).length - e.natAbs)).length = e.natAbs := by simp; omega
    have hval : valR neg (wideW c e) (-(e.natAbs : Int)) = valR neg (Lib.decDigits c) (-(e.natAbs : Int)) := valR_zeros_left neg (dd_digs c) _ _
    have hjoin := List.take_append_drop ((wideW c e).length - e.natAbs) (wideW c e)
    have d1 := digs_take ((wideW c e).length - e.natAbs) w3
    have d2 := digs_drop ((wideW c e).length - e.natAbs) w3
    generalize (wideW c e).take ((wideW c e).length - e.natAbs) = p at *
    generalize (wideW c e).drop ((wideW c e).length - e.natAbs) = q at *
    have : sgn neg ++ List.replicate k 48 ++ (p ++ [46] ++ q) ++ List.replicate w 48 = sgn neg ++ ((List.replicate k 48 ++ p) ++ 46 :: (q ++ List.replicate w 48)) := by simp
    rw [this, parse_point neg (digs_append.2 ⟨digs_rep _, d1⟩) (by simp [hT]) (digs_append.2 ⟨d2, digs_rep _⟩) (by simp [hDn])]
    rw [← List.append_assoc, valR_zeros_right neg (digs_append.2 ⟨digs_append.2 ⟨digs_rep _, d1⟩, d2⟩), List.append_assoc, hjoin, valR_zeros_left neg w3, List.length_append, List.length_replicate, hlen,
      show (-((e.natAbs + w : Nat) : Int) + (w : Int)) = -(e.natAbs : Int) from by omega, hval, show (-(e.natAbs : Int)) = e from by omega, fin]
theorem parse_cases (s : List UInt8) : ((parseR s).2.1.1 ≠ 0 ∧ (parseR s).1 = (false, 0, 0, ()) ∧ 0 ≤ (parseR s).2.1.2.1 ∧ (parseR s).2.1.2.1 ≤ s.length) ∨
    (∃ (neg : Bool) (c : Nat) (e : Int), parseR s = ((neg, (c : Int), e, ()), (0, 0, ()), ()) ∧ c < two64 ∧ (-9223372036854775808 ≤ e ∧ e ≤ 9223372036854775807) ∧ checkR neg c e = 0) := by
  unfold parseR
  by_cases h : (lookR s).1 = 0
  · rw [if_pos h]
    have hD : Digs (aheadD s ++ behindD s) := digs_append.2 ⟨tw_digs _, behind_digs s⟩
    generalize aheadD s ++ behindD s = d at hD
    generalize (-((behindD s).length : Int)) = E
    generalize negD s = neg
    by_cases hv : val d = 0
    · refine Or.inr ⟨false, 0, 0, ?_, by decide, by omega, ?_⟩
      · have : valR neg d E = zeroD := by unfold valR; rw [if_pos hv]
        rw [this]; rfl
      · have d0 : Lib.decDigits 0 = [48] := dd_small (by omega)
        unfold checkR
        rw [d0]; rfl
    · obtain ⟨c0, z, h1, h2⟩ := ten_split (val d) (by omega)
      rw [valR_core hD h2 h1]
      generalize E + (z : Int) = Y
      by_cases hY : Y < -18
      · refine Or.inl ?_
        have : normR neg c0 Y = ((false, 0, 0, ()), 10, ()) := by unfold normR; rw [if_pos hY]
        rw [this]
        exact ⟨by decide, rfl, by decide, by show (0 : Int) ≤ s.length; omega⟩
      · by_cases hf : c0 * 10 ^ (Y - 18).toNat < two64
        · have e1 : normR neg c0 Y = ((neg, ((c0 * 10 ^ (Y - 18).toNat : Nat) : Int), (if Y ≤ 18 then Y else 18), ()), 0, ()) := by unfold normR; rw [if_neg hY, if_pos hf]
          rw [e1]
          have hE : -18 ≤ (if Y ≤ 18 then Y else 18) ∧ (if Y ≤ 18 then Y else 18) ≤ 18 := by split <;> omega
          refine Or.inr ⟨neg, c0 * 10 ^ (Y - 18).toNat, (if Y ≤ 18 then Y else 18), rfl, hf, by omega, ?_⟩
          unfold checkR
          rw [if_neg (by omega), valR_core (dd_digs _) h2 (dd_val _)]
          have e2 : (if Y ≤ 18 then Y else 18) + (((Y - 18).toNat : Nat) : Int) = Y := by split <;> omega
          rw [e2, e1, if_pos ⟨rfl, rfl⟩]
        · refine Or.inl ?_
          have : normR neg c0 Y = ((false, 0, 0, ()), 10, ()) := by unfold normR; rw [if_neg hY, if_neg hf]
          rw [this]
          exact ⟨by decide, rfl, by decide, by show (0 : Int) ≤ s.length; omega⟩
  · rw [if_neg h]
    refine Or.inl ⟨h, rfl, ?_⟩
    show 0 ≤ (lookR s).2.1 ∧ (lookR s).2.1 ≤ s.length
    have endle : ∀ (r : Prop) [Decidable r] (a l : Nat), a ≤ l → 0 ≤ (endR r a l).2.1 ∧ (endR r a l).2.1 ≤ (l : Int) := by
      intro r _ a l hl
      unfold endR
      split
      · show (0 : Int) ≤ 0 ∧ (0 : Int) ≤ l; omega
      · split
        · show (0 : Int) ≤ a ∧ (a : Int) ≤ l; omega
        · show (0 : Int) ≤ a ∧ (a : Int) ≤ l; omega
    unfold lookR lookQ
    split
    · rename_i hp
      exact endle _ _ _ (p3_le hp.2)
    · exact endle _ _ _ (p1_le (p0_le s))
theorem dd_ge {c : Nat} (h : 0 < c) : 10 ^ ((Lib.decDigits c).length - 1) ≤ c := by
  have := val_ge (dd_digs c) (dd_ne c) (fun x hx h48 => by
    subst h48
    have h1 := (dd_head c).2 hx
    cases e : Lib.decDigits c with
    | nil => exact dd_ne c e
    | cons b r =>
      rw [e] at hx h1
      have hr : r = [] := by simpa using h1
      have hb : b = 48 := by simpa using hx
      have hv := dd_val c
      rw [e, hr, hb] at hv
      rw [← hv] at h
      exact absurd h (by decide))
  rwa [dd_val] at this
theorem dd_lt (c : Nat) : c < 10 ^ (Lib.decDigits c).length := by have := val_lt (dd_digs c); rwa [dd_val] at this
end Go.AM
set_option linter.unusedVariables false
set_option linter.unusedSimpArgs false
namespace Go.AM
theorem seg_app {c : UInt8} {a : List UInt8} (h : c ∉ a) (t : List UInt8) : seg c (a ++ c :: t) = a := by
  induction a with
  | nil => show seg c (c :: t) = []; rw [seg_cons, if_pos rfl]
  | cons b a ih =>
    show seg c (b :: (a ++ c :: t)) = _
    rw [seg_cons, if_neg (fun hh => h (by simp [hh])), ih (fun hh => h (by simp [hh]))]
theorem seg_split {c : UInt8} {s : List UInt8} (h : c ∈ s) : s = seg c s ++ c :: s.drop ((seg c s).length + 1) := by
  induction s with
  | nil => simp at h
  | cons b s ih =>
    rw [seg_cons]
    by_cases hb : b = c
    · rw [if_pos hb, hb]; rfl
    · rw [if_neg hb]
      have hm : c ∈ s := by
        rcases List.mem_cons.1 h with h | h
        · exact absurd h.symm hb
        · exact h
      have := ih hm
      simp only [List.length_cons, List.drop_succ_cons, List.cons_append]
      rw [← this]
theorem seg_free (c : UInt8) (s : List UInt8) : c ∉ seg c s := by
  induction s with
  | nil => simp [seg]
  | cons b s ih =>
    rw [seg_cons]
    by_cases hb : b = c
    · rw [if_pos hb]; simp
    · rw [if_neg hb]
      intro hm
      rcases List.mem_cons.1 hm with h | h
      · exact hb h.symm
      · exact ih h
theorem nextP_app {c : UInt8} {s a t : List UInt8} {p : Nat} (hs : s.drop p = a ++ c :: t) (h : c ∉ a) : nextP c s p = p + a.length + 1 ∧ s.drop (p + a.length + 1) = t := by
  constructor
  · unfold nextP
    rw [hs, seg_app h, if_pos (by simp)]
  · rw [Nat.add_assoc, ← List.drop_drop, hs]
    simp
theorem nextP_end {c : UInt8} {s a : List UInt8} {p : Nat} (hs : s.drop p = a) (h : c ∉ a) : nextP c s p = p + a.length := by
  unfold nextP
  rw [hs, if_neg h, seg_all h]; omega
theorem name_free {s : List UInt8} (h : nameOK s = true) : (58 : UInt8) ∉ s := by
  rw [nameOK_eq] at h
  simp only [Bool.and_eq_true, List.all_eq_true] at h
  intro hm
  have := h.1 58 hm
  revert this
  decide
theorem kind_cases {w : List UInt8} (h : ¬ kindOf w = 0) : w = wordL (kindOf w) ∧ 1 ≤ kindOf w ∧ kindOf w ≤ 4 ∧ (124 : UInt8) ∉ w := by
  unfold kindOf at h ⊢
  by_cases h1 : w = [99]
  · subst h1; decide
  rw [if_neg h1] at h ⊢
  by_cases h2 : w = [103]
  · subst h2; decide
  rw [if_neg h2] at h ⊢
  by_cases h3 : w = [109, 115]
  · subst h3; decide
  rw [if_neg h3] at h ⊢
  by_cases h4 : w = [104]
  · subst h4; decide
  rw [if_neg h4] at h
  exact absurd rfl h
theorem kind_word {k : Int} (h1 : 1 ≤ k) (h4 : k ≤ 4) : kindOf (wordL k) = k := by
  rcases (by omega : k = 1 ∨ k = 2 ∨ k = 3 ∨ k = 4) with h | h | h | h <;> subst h <;> decide
section
variable {X : Type} (kr : KR X)
theorem sd_parts {name value word : List UInt8} {d : DecL} (hn : nameOK name = true) (hv : (124 : UInt8) ∉ value) (hp : parseR value = ((d.1, d.2.1, d.2.2, ()), (0, 0, ()), ())) (hk : ¬ kindOf word = 0) (hg : ¬ (kindOf word = 2 ∧ value.head? = some 45))
    {s rest : List UInt8} (hs : s = name ++ 58 :: (value ++ 124 :: (word ++ rest))) (hr : rest = [] ∨ rest.head? = some 124) :
    nameS kr s (seg 58 s) 1000000 [] 0 (decide (58 ∈ s)) (nextP 58 s 0) = rateS kr s name (kindOf word) [d] 1000000 [] 0 (decide (rest.head? = some 124)) (name.length + 1 + value.length + 1 + word.length + (if rest.head? = some 124 then 1 else 0)) := by
  have hnf := name_free hn
  obtain ⟨hw1, hw2, hw3, hw4⟩ := kind_cases hk
  have h58 : (58 : UInt8) ∈ s := by rw [hs]; simp
  have hseg : seg 58 s = name := by rw [hs]; exact seg_app hnf _
  have hd0 : s.drop 0 = name ++ 58 :: (value ++ 124 :: (word ++ rest)) := hs
  obtain ⟨n1, n2⟩ := nextP_app hd0 hnf
  rw [Nat.zero_add] at n1 n2
  have hm1 : (124 : UInt8) ∈ s.drop (name.length + 1) := by rw [n2]; simp
  obtain ⟨m1, m2⟩ := nextP_app n2 hv
  have hsv : seg 124 (s.drop (name.length + 1)) = value := by rw [n2]; exact seg_app hv _
  have hname : (textF 1 name 1 200).1 = 0 := by unfold nameOK at hn; simpa using hn
  unfold nameS
  rw [hseg, if_neg (fun h => h hname), decide_eq_true h58, if_neg (by simp), n1, hsv, m1, decide_eq_true hm1]
  unfold valueS
  rw [hp, if_neg (by simp), if_neg (by simp)]
  unfold kindS
  rcases hr with hr | hr
  · subst hr
    rw [List.append_nil] at m2
    have hsw : seg 124 (s.drop (name.length + 1 + value.length + 1)) = word := by rw [m2]; exact seg_all hw4
    have hm2 : ¬ (124 : UInt8) ∈ s.drop (name.length + 1 + value.length + 1) := by rw [m2]; exact hw4
    rw [hsw, if_neg hk, if_neg hg, decide_eq_false hm2, nextP_end m2 hw4]
    rfl
  · obtain ⟨t, ht⟩ : ∃ t, rest = 124 :: t := by
      cases rest with
      | nil => simp at hr
      | cons b t => exact ⟨t, by simp at hr; rw [hr]⟩
    subst ht
    have hsw : seg 124 (s.drop (name.length + 1 + value.length + 1)) = word := by rw [m2]; exact seg_app hw4 _
    have hm2 : (124 : UInt8) ∈ s.drop (name.length + 1 + value.length + 1) := by rw [m2]; simp
    rw [hsw, if_neg hk, if_neg hg, decide_eq_true hm2, (nextP_app m2 hw4).1]
    rfl
theorem sd_drop {name value word t : List UInt8} {s : List UInt8} (hs : s = name ++ 58 :: (value ++ 124 :: (word ++ 124 :: t))) : s.drop (name.length + 1 + value.length + 1 + word.length + 1) = t ∧ s.length = name.length + 1 + value.length + 1 + word.length + 1 + t.length := by
  subst hs
  refine ⟨?_, by simp; omega⟩
  rw [show name.length + 1 + value.length + 1 + word.length + 1 = name.length + (1 + (value.length + (1 + (word.length + 1)))) from by omega, List.drop_append, List.drop_eq_nil_of_le (by omega), List.nil_append]
  rw [show name.length + (1 + (value.length + (1 + (word.length + 1)))) - name.length = (value.length + (1 + (word.length + 1))) + 1 from by omega, List.drop_succ_cons, List.drop_append, List.drop_eq_nil_of_le (by omega), List.nil_append,
    show value.length + (1 + (word.length + 1)) - value.length = word.length + 1 + 1 from by omega, List.drop_succ_cons, List.drop_append, List.drop_eq_nil_of_le (by omega), List.nil_append, show word.length + 1 - word.length = 0 + 1 from by omega, List.drop_succ_cons, List.drop_zero]
end
abbrev OkR (name : List UInt8) (k : Int) (d : DecL) (r : Int) : MetR := ((name, k, [d], r, [], 0, ()), (0, 0, ()), ())
abbrev badM (c a : Int) : MetR := (([], 0, [], 0, [], 0, ()), (c, a, ()), ())
theorem bad_fin (s : List UInt8) (c a : Int) : badK' finK s c a = some (badM c a) := rfl
theorem sd_short {name value word : List UInt8} {d : DecL} (hn : nameOK name = true) (hv : (124 : UInt8) ∉ value) (hp : parseR value = ((d.1, d.2.1, d.2.2, ()), (0, 0, ()), ())) (hk : ¬ kindOf word = 0) (hg : ¬ (kindOf word = 2 ∧ value.head? = some 45)) :
    sdParse (name ++ 58 :: (value ++ 124 :: word)) = some (OkR name (kindOf word) d 1000000) := by
  unfold sdParse
  have := sd_parts finK hn hv hp hk hg (s := name ++ 58 :: (value ++ 124 :: word)) (rest := []) (by rw [List.append_nil]) (Or.inl rfl)
  rw [this]
  rfl
theorem sd_long {name value word : List UInt8} {d : DecL} (hn : nameOK name = true) (hv : (124 : UInt8) ∉ value) (hp : parseR value = ((d.1, d.2.1, d.2.2, ()), (0, 0, ()), ())) (hk : ¬ kindOf word = 0) (hg : ¬ (kindOf word = 2 ∧ value.head? = some 45)) (t : List UInt8) :
    sdParse (name ++ 58 :: (value ++ 124 :: (word ++ 124 :: t))) = some (if ¬ t.head? = some 64 then badM 11 ((name.length + 1 + value.length + 1 + word.length + 1 : Nat) : Int)
      else if ¬ (rateR (seg 124 (t.drop 1))).2.1.1 = 0 ∨ (kindOf word = 2 ∧ ¬ (rateR (seg 124 (t.drop 1))).1 = 1000000) then badM 18 ((name.length + 1 + value.length + 1 + word.length + 1 + 1 : Nat) : Int)
      else if 124 ∈ t.drop 1 then badM 11 ((name.length + 1 + value.length + 1 + word.length + 1 + 1 + (seg 124 (t.drop 1)).length : Nat) : Int)
      else OkR name (kindOf word) d (rateR (seg 124 (t.drop 1))).1) := by
  unfold sdParse
  generalize hs : name ++ 58 :: (value ++ 124 :: (word ++ 124 :: t)) = s
  have := sd_parts finK hn hv hp hk hg (s := s) (rest := 124 :: t) hs.symm (Or.inr rfl)
  have hd := (sd_drop hs.symm).1
  rw [this]
  unfold rateS
  have h1 : (if (124 :: t : List UInt8).head? = some 124 then 1 else 0) = 1 := rfl
  have h2 : decide ((124 :: t : List UInt8).head? = some 124) = true := rfl
  have hd1 : s.drop (name.length + 1 + value.length + 1 + word.length + 1 + 1) = t.drop 1 := by rw [← List.drop_drop, hd]
  rw [h1, h2, if_neg (by simp), hd, hd1]
  repeat' split
  all_goals first | rfl | (exfalso; simp_all)
theorem sd_cases (s : List UInt8) : (∃ c a : Int, sdParse s = some (badM c a) ∧ c ≠ 0 ∧ 0 ≤ a ∧ a ≤ s.length) ∨
    (∃ name value word tail d r, s = name ++ 58 :: (value ++ 124 :: (word ++ tail)) ∧ nameOK name = true ∧ (124 : UInt8) ∉ value ∧ parseR value = ((d.1, d.2.1, d.2.2, ()), (0, 0, ()), ()) ∧ ¬ kindOf word = 0 ∧ ¬ (kindOf word = 2 ∧ value.head? = some 45) ∧
      (tail = [] ∧ r = 1000000 ∨ ∃ rt, tail = 124 :: 64 :: rt ∧ (rateR rt).2.1.1 = 0 ∧ (rateR rt).1 = r ∧ (kindOf word = 2 → r = 1000000) ∧ (124 : UInt8) ∉ rt) ∧ sdParse s = some (OkR name (kindOf word) d r)) := by
  by_cases hn : nameOK (seg 58 s) = true
  · by_cases h58 : (58 : UInt8) ∈ s
    · have hsp := seg_split h58
      have hlt := seg_lt h58
      generalize hname : seg 58 s = name at *
      generalize ht : s.drop (name.length + 1) = t at *
      have htl : t.length + (name.length + 1) = s.length := by rw [← ht]; simp; omega
      have hn0 : ¬ ¬ (textF 1 name 1 200).1 = 0 := by unfold nameOK at hn; simpa using hn
      have hq : nextP 58 s 0 = name.length + 1 := by unfold nextP; rw [List.drop_zero, if_pos h58, hname]; omega
      have e1 : sdParse s = valueS finK s name (seg 124 t) (name.length + 1) 1000000 [] 0 (decide (124 ∈ t)) (nextP 124 s (name.length + 1)) := by
        unfold sdParse nameS
        rw [hname, if_neg hn0, decide_eq_true h58, if_neg (by simp), hq, ht]
      by_cases hv : (parseR (seg 124 t)).2.1.1 = 0
      · by_cases hb : (124 : UInt8) ∈ t
        · have hsp2 := seg_split hb
          have hlt2 := seg_lt hb
          have hfree := seg_free 124 t
          generalize hvalue : seg 124 t = value at *
          generalize ht2 : t.drop (value.length + 1) = t2 at *
          have hd2 : s.drop (name.length + 1 + value.length + 1) = t2 := by rw [Nat.add_assoc (name.length + 1), ← List.drop_drop, ht, ht2]
          have htl2 : t2.length + (value.length + 1) = t.length := by rw [← ht2]; simp; omega
          have hq2 : nextP 124 s (name.length + 1) = name.length + 1 + value.length + 1 := by unfold nextP; rw [ht, if_pos hb, hvalue]
          have e2 : sdParse s = kindS finK s name (seg 124 t2) value (name.length + 1 : Nat) (name.length + 1 + value.length + 1 : Nat) [((parseR value).1.1, (parseR value).1.2.1, (parseR value).1.2.2.1)] 1000000 [] 0 (decide (124 ∈ t2)) (nextP 124 s (name.length + 1 + value.length + 1)) := by
            rw [e1]
            unfold valueS
            rw [if_neg (fun h => h hv), decide_eq_true hb, if_neg (by simp), hq2, hd2]
          by_cases hk : kindOf (seg 124 t2) = 0
          · left
            refine ⟨16, ((name.length + 1 + value.length + 1 : Nat) : Int), ?_, by decide, by omega, by omega⟩
            rw [e2]
            unfold kindS
            rw [if_pos hk]; rfl
          by_cases hg : kindOf (seg 124 t2) = 2 ∧ value.head? = some 45
          · left
            refine ⟨26, ((name.length + 1 : Nat) : Int), ?_, by decide, by omega, by omega⟩
            rw [e2]
            unfold kindS
            rw [if_neg hk, if_pos hg]; rfl
          have hat := parseR_at hv
          have hp : parseR value = (((((parseR value).1.1, (parseR value).1.2.1, (parseR value).1.2.2.1) : DecL).1, (parseR value).1.2.1, (parseR value).1.2.2.1, ()), (0, 0, ()), ()) := by
            generalize parseR value = z at hv hat
            obtain ⟨⟨a, b, c, _⟩, ⟨x, y, _⟩, _⟩ := z
            simp only at hv hat
            subst hv hat
            rfl
          by_cases hb2 : (124 : UInt8) ∈ t2
          · have hsp3 := seg_split hb2
            generalize hword : seg 124 t2 = word at *
            generalize ht3 : t2.drop (word.length + 1) = t3 at *
            have hlt3 : word.length + 1 + t3.length = t2.length := by
              have := congrArg List.length hsp3
              simp at this
              omega
            have hs : s = name ++ 58 :: (value ++ 124 :: (word ++ 124 :: t3)) := by rw [← hsp3, ← hsp2, ← hsp]
            have L := sd_long hn hfree hp hk hg t3
            rw [← hs] at L
            by_cases c1 : t3.head? = some 64
            · rw [if_neg (fun h => h c1)] at L
              obtain ⟨t4, ht4⟩ : ∃ t4, t3 = 64 :: t4 := by
                cases t3 with
                | nil => simp at c1
                | cons b t => exact ⟨t, by simp at c1; rw [c1]⟩
              subst ht4
              simp only [List.drop_succ_cons, List.drop_zero, List.length_cons] at L hlt3
              by_cases c2 : ¬ (rateR (seg 124 t4)).2.1.1 = 0 ∨ (kindOf word = 2 ∧ ¬ (rateR (seg 124 t4)).1 = 1000000)
              · rw [if_pos c2] at L
                exact Or.inl ⟨18, _, L, by decide, by omega, by omega⟩
              rw [if_neg c2] at L
              by_cases c3 : (124 : UInt8) ∈ t4
              · rw [if_pos c3] at L
                have := seg_lt c3
                exact Or.inl ⟨11, _, L, by decide, by omega, by omega⟩
              rw [if_neg c3, seg_all c3] at L
              rw [seg_all c3] at c2
              refine Or.inr ⟨name, value, word, 124 :: 64 :: t4, _, _, hs, hn, hfree, hp, hk, hg, Or.inr ⟨t4, rfl, ?_, rfl, fun h2 => ?_, c3⟩, L⟩
              · exact Classical.byContradiction fun h => c2 (Or.inl h)
              · exact Classical.byContradiction fun h => c2 (Or.inr ⟨h2, h⟩)
            · rw [if_pos c1] at L
              exact Or.inl ⟨11, _, L, by decide, by omega, by omega⟩
          · have hw : seg 124 t2 = t2 := seg_all hb2
            rw [hw] at hk hg
            have hs : s = name ++ 58 :: (value ++ 124 :: (t2 ++ [])) := by rw [List.append_nil, ← hsp2, ← hsp]
            have L := sd_short hn hfree hp hk hg
            have hs' := hs
            rw [List.append_nil] at hs'
            rw [← hs'] at L
            exact Or.inr ⟨name, value, t2, [], _, _, hs, hn, hfree, hp, hk, hg, Or.inl ⟨rfl, rfl⟩, L⟩
        · left
          refine ⟨11, (s.length : Int), ?_, by decide, by omega, by omega⟩
          rw [e1]
          unfold valueS
          rw [if_neg (fun h => h hv), decide_eq_false hb, if_pos rfl]; rfl
      · left
        refine ⟨17, ((name.length + 1 : Nat) : Int), ?_, by decide, by omega, by omega⟩
        rw [e1]
        unfold valueS
        rw [if_pos hv]; rfl
    · left
      refine ⟨11, (s.length : Int), ?_, by decide, by omega, by omega⟩
      unfold sdParse nameS
      have hn0 : ¬ ¬ (textF 1 (seg 58 s) 1 200).1 = 0 := by unfold nameOK at hn; simpa using hn
      rw [if_neg hn0, decide_eq_false h58, if_pos rfl]; rfl
  · left
    refine ⟨15, 0, ?_, by decide, by omega, by omega⟩
    unfold sdParse nameS
    rw [if_pos (fun h => hn (by unfold nameOK; simp [h]))]; rfl
end Go.AM
set_option linter.unusedVariables false
set_option linter.unusedSimpArgs false
namespace Go.AM
theorem decL_beq (x y : DecL) : ((x.1 == y.1) && ((x.2.1 == y.2.1) && (x.2.2 == y.2.2))) = decide (x = y) := by
  obtain ⟨a, b, c⟩ := x
  obtain ⟨a', b', c'⟩ := y
  by_cases h : ((a, b, c) : DecL) = (a', b', c')
  · rw [decide_eq_true h]
    simp only [Prod.mk.injEq] at h
    simp [h.1, h.2.1, h.2.2]
  · rw [decide_eq_false h]
    cases h1 : (a == a') && ((b == b') && (c == c')) with
    | false => rfl
    | true =>
      simp only [Bool.and_eq_true, beq_iff_eq] at h1
      exact absurd (by rw [h1.1, h1.2.1, h1.2.2]) h
theorem tagL_beq (x y : TagL) : ((x.1 == y.1) && (x.2 == y.2)) = decide (x = y) := by
  obtain ⟨a, b⟩ := x
  obtain ⟨a', b'⟩ := y
  by_cases h : ((a, b) : TagL) = (a', b')
  · rw [decide_eq_true h]
    simp only [Prod.mk.injEq] at h
    simp [h.1, h.2]
  · rw [decide_eq_false h]
    cases h1 : (a == a') && (b == b') with
    | false => rfl
    | true =>
      simp only [Bool.and_eq_true, beq_iff_eq] at h1
      exact absurd (by rw [h1.1, h1.2]) h
theorem decs_loop (n : Nat) (X : Type) (k0 : Unit → Option X) (kr : Bool → Option X) (a b : List DecL) (ha : a.length ≤ 1000) (hl : a.length = b.length) : ∀ (r q : List DecL) (k m : Nat), a.drop k = r → b.drop k = q → r.length < m →
    F.slices_Equal_api_Dec_api_Dec.L4 n k0 kr m a b (a.length : Int) (k : Int) = if r = q then k0 () else kr false := by
  intro r
  induction r with
  | nil =>
    intro q k m hk hq hm
    have := drop_nil' hk
    obtain ⟨m, rfl⟩ : ∃ q, m = q + 1 := ⟨m - 1, by omega⟩
    have : q = [] := by rw [← hq]; exact List.drop_eq_nil_of_le (by omega)
    show F.slices_Equal_api_Dec_api_Dec.L4.step n (F.slices_Equal_api_Dec_api_Dec.L4 n k0 kr m) k0 kr a b _ _ = _
    unfold F.slices_Equal_api_Dec_api_Dec.L4.step
    rw [bif_neg (by omega), if_pos this.symm]
  | cons x r ih =>
    intro q k m hk hq hm
    obtain ⟨h1, h2, h3⟩ := drop_cons hk
    obtain ⟨m, rfl⟩ : ∃ q, m = q + 1 := ⟨m - 1, by omega⟩
    have hd : b.drop k = b[k] :: b.drop (k + 1) := List.drop_eq_getElem_cons (by omega)
    rw [hd] at hq
    subst hq
    show F.slices_Equal_api_Dec_api_Dec.L4.step n (F.slices_Equal_api_Dec_api_Dec.L4 n k0 kr m) k0 kr a b _ _ = _
    unfold F.slices_Equal_api_Dec_api_Dec.L4.step
    rw [bif_pos (by omega), idx_nat, h2, some_bind', idx_lt (by omega : k < b.length), some_bind', decL_beq]
    by_cases hx : x = b[k]
    · rw [decide_eq_true hx, Bool.not_true, cond_false, wrap_succ (by omega), ih (b.drop (k + 1)) (k + 1) m h3 rfl (by simp at hm; omega)]
      by_cases hr : r = b.drop (k + 1)
      · rw [if_pos hr, if_pos (by rw [hx, ← hr])]
      · rw [if_neg hr, if_neg (fun h => hr (List.cons.inj h).2)]
    · rw [decide_eq_false hx, if_neg (fun h => hx (List.cons.inj h).1)]; rfl
theorem tags_eq_loop (n : Nat) (X : Type) (k0 : Unit → Option X) (kr : Bool → Option X) (a b : List TagL) (ha : a.length ≤ 1000) (hl : a.length = b.length) : ∀ (r q : List TagL) (k m : Nat), a.drop k = r → b.drop k = q → r.length < m →
    F.slices_Equal_api_Tag_api_Tag.L4 n k0 kr m a b (a.length : Int) (k : Int) = if r = q then k0 () else kr false := by
  intro r
  induction r with
  | nil =>
    intro q k m hk hq hm
    have := drop_nil' hk
    obtain ⟨m, rfl⟩ : ∃ q, m = q + 1 := ⟨m - 1, by omega⟩
    have : q = [] := by rw [← hq]; exact List.drop_eq_nil_of_le (by omega)
    show F.slices_Equal_api_Tag_api_Tag.L4.step n (F.slices_Equal_api_Tag_api_Tag.L4 n k0 kr m) k0 kr a b _ _ = _
    unfold F.slices_Equal_api_Tag_api_Tag.L4.step
    rw [bif_neg (by omega), if_pos this.symm]
  | cons x r ih =>
    intro q k m hk hq hm
    obtain ⟨h1, h2, h3⟩ := drop_cons hk
    obtain ⟨m, rfl⟩ : ∃ q, m = q + 1 := ⟨m - 1, by omega⟩
    have hd : b.drop k = b[k] :: b.drop (k + 1) := List.drop_eq_getElem_cons (by omega)
    rw [hd] at hq
    subst hq
    show F.slices_Equal_api_Tag_api_Tag.L4.step n (F.slices_Equal_api_Tag_api_Tag.L4 n k0 kr m) k0 kr a b _ _ = _
    unfold F.slices_Equal_api_Tag_api_Tag.L4.step
    rw [bif_pos (by omega), idx_nat, h2, some_bind', idx_lt (by omega : k < b.length), some_bind', tagL_beq]
    by_cases hx : x = b[k]
    · rw [decide_eq_true hx, Bool.not_true, cond_false, wrap_succ (by omega), ih (b.drop (k + 1)) (k + 1) m h3 rfl (by simp at hm; omega)]
      by_cases hr : r = b.drop (k + 1)
      · rw [if_pos hr, if_pos (by rw [hx, ← hr])]
      · rw [if_neg hr, if_neg (fun h => hr (List.cons.inj h).2)]
    · rw [decide_eq_false hx, if_neg (fun h => hx (List.cons.inj h).1)]; rfl
theorem decs_eq (n : Nat) (hn : 5000 ≤ n) (a b : List DecL) (ha : a.length ≤ 1000) : F.metric_equal_api_Dec n a b = some (decide (a = b)) := by
  unfold F.metric_equal_api_Dec F.slices_Equal_api_Dec_api_Dec
  by_cases hl : a.length = b.length
  · have e : ((a.length : Int) == (b.length : Int)) = true := by simp [hl]
    rw [e, Bool.not_true, cond_false]
    have L := decs_loop n Bool (fun (_ : Unit) => some (true)) (fun e4_4 => some (e4_4)) a b ha hl a b 0 n rfl rfl (by omega)
    rw [show ((0 : Nat) : Int) = (0 : Int) from rfl] at L
    rw [L]
    by_cases h : a = b
    · rw [if_pos h, decide_eq_true h]; rfl
    · rw [if_neg h, decide_eq_false h]; rfl
  · have e : ((a.length : Int) == (b.length : Int)) = false := by rw [beq_eq_false_iff_ne]; omega
    rw [e, decide_eq_false (fun h => hl (by rw [h]))]; rfl
theorem tags_eq (n : Nat) (hn : 5000 ≤ n) (a b : List TagL) (ha : a.length ≤ 1000) : F.metric_equal_api_Tag n a b = some (decide (a = b)) := by
  unfold F.metric_equal_api_Tag F.slices_Equal_api_Tag_api_Tag
  by_cases hl : a.length = b.length
  · have e : ((a.length : Int) == (b.length : Int)) = true := by simp [hl]
    rw [e, Bool.not_true, cond_false]
    have L := tags_eq_loop n Bool (fun (_ : Unit) => some (true)) (fun e4_4 => some (e4_4)) a b ha hl a b 0 n rfl rfl (by omega)
    rw [show ((0 : Nat) : Int) = (0 : Int) from rfl] at L
    rw [L]
    by_cases h : a = b
    · rw [if_pos h, decide_eq_true h]; rfl
    · rw [if_neg h, decide_eq_false h]; rfl
  · have e : ((a.length : Int) == (b.length : Int)) = false := by rw [beq_eq_false_iff_ne]; omega
    rw [e, decide_eq_false (fun h => hl (by rw [h]))]; rfl
noncomputable def eqM (a b : MetD) : Bool := @decide (a = b) (Classical.propDecidable _)
theorem eqM_pos {a b : MetD} (h : a = b) : eqM a b = true := @decide_eq_true _ (Classical.propDecidable _) h
theorem eqM_neg {a b : MetD} (h : ¬ a = b) : eqM a b = false := @decide_eq_false _ (Classical.propDecidable _) h
theorem equal_eq (n : Nat) (hn : 5000 ≤ n) (a b : MetD) (h1 : a.2.2.1.length ≤ 1000) (h2 : a.2.2.2.2.1.length ≤ 1000) : F.metric_Equal n a b = some (eqM a b) := by
  obtain ⟨a1, a2, a3, a4, a5, a6, _⟩ := a
  obtain ⟨b1, b2, b3, b4, b5, b6, _⟩ := b
  simp only at h1 h2
  unfold F.metric_Equal
  simp only [decs_eq n hn a3 b3 h1, tags_eq n hn a5 b5 h2, some_bind']
  by_cases h : ((a1, a2, a3, a4, a5, a6, ()) : MetD) = (b1, b2, b3, b4, b5, b6, ())
  · rw [eqM_pos h]
    simp only [Prod.mk.injEq] at h
    obtain ⟨rfl, rfl, rfl, rfl, rfl, rfl, _⟩ := h
    simp
  · rw [eqM_neg h]
    by_cases g1 : a1 = b1
    · by_cases g2 : a2 = b2
      · by_cases g4 : a4 = b4
        · by_cases g6 : a6 = b6
          · by_cases g3 : a3 = b3
            · by_cases g5 : a5 = b5
              · exact absurd (by rw [g1, g2, g3, g4, g5, g6]) h
              · simp [g1, g2, g4, g6, g3, g5]
            · simp [g1, g2, g4, g6, g3]
          · rw [beq_eq_false_iff_ne.2 g6]; simp [g1, g2, g4]
        · rw [beq_eq_false_iff_ne.2 g4]; simp [g1, g2]
      · rw [beq_eq_false_iff_ne.2 g2]; simp [g1]
    · rw [beq_eq_false_iff_ne.2 g1]; rfl
theorem refeq_decs (n : Nat) (X : Type) (k0 : List UInt8 → Int → List DecL → Int → List TagL → Int → List UInt8 → Int → List DecL → Int → List TagL → Int → Option X) (kr : Bool → List UInt8 → Int → List DecL → Int → List TagL → Int → List UInt8 → Int → List DecL → Int → List TagL → Int → Option X) (nm : List UInt8) (k : Int) (vs : List DecL) (r : Int) (ts : List TagL) (t : Int) (hs : vs.length ≤ 1000) : ∀ (j i m : Nat), i + j = vs.length → j < m →
    F.ref07_Equal.L4 n k0 kr m (i : Int) nm k vs r ts t nm k vs r ts t = k0 nm k vs r ts t nm k vs r ts t := by
  intro j
  induction j with
  | zero =>
    intro i m hi hm
    obtain ⟨m, rfl⟩ : ∃ q, m = q + 1 := ⟨m - 1, by omega⟩
    show F.ref07_Equal.L4.step n (F.ref07_Equal.L4 n k0 kr m) k0 kr _ _ _ _ _ _ _ _ _ _ _ _ _ = _
    unfold F.ref07_Equal.L4.step
    rw [bif_neg (by omega)]
  | succ j ih =>
    intro i m hi hm
    obtain ⟨m, rfl⟩ : ∃ q, m = q + 1 := ⟨m - 1, by omega⟩
    show F.ref07_Equal.L4.step n (F.ref07_Equal.L4 n k0 kr m) k0 kr _ _ _ _ _ _ _ _ _ _ _ _ _ = _
    unfold F.ref07_Equal.L4.step
    rw [bif_pos (by omega), idx_lt (by omega : i < vs.length), some_bind', some_bind', decL_beq, decide_eq_true rfl, Bool.not_true, cond_false, wrap_succ (by omega), ih (i + 1) m (by omega) (by omega)]
theorem refeq_tags (n : Nat) (X : Type) (k0 : List UInt8 → Int → List DecL → Int → List TagL → Int → List UInt8 → Int → List DecL → Int → List TagL → Int → Option X) (kr : Bool → List UInt8 → Int → List DecL → Int → List TagL → Int → List UInt8 → Int → List DecL → Int → List TagL → Int → Option X) (nm : List UInt8) (k : Int) (vs : List DecL) (r : Int) (ts : List TagL) (t : Int) (hs : ts.length ≤ 1000) : ∀ (j i m : Nat), i + j = ts.length → j < m →
    F.ref07_Equal.L9 n k0 kr m (i : Int) nm k vs r ts t nm k vs r ts t = k0 nm k vs r ts t nm k vs r ts t := by
  intro j
  induction j with
  | zero =>
    intro i m hi hm
    obtain ⟨m, rfl⟩ : ∃ q, m = q + 1 := ⟨m - 1, by omega⟩
    show F.ref07_Equal.L9.step n (F.ref07_Equal.L9 n k0 kr m) k0 kr _ _ _ _ _ _ _ _ _ _ _ _ _ = _
    unfold F.ref07_Equal.L9.step
    rw [bif_neg (by omega)]
  | succ j ih =>
    intro i m hi hm
    obtain ⟨m, rfl⟩ : ∃ q, m = q + 1 := ⟨m - 1, by omega⟩
    show F.ref07_Equal.L9.step n (F.ref07_Equal.L9 n k0 kr m) k0 kr _ _ _ _ _ _ _ _ _ _ _ _ _ = _
    unfold F.ref07_Equal.L9.step
    rw [bif_pos (by omega), idx_lt (by omega : i < ts.length), some_bind', some_bind', tagL_beq, decide_eq_true rfl, Bool.not_true, cond_false, wrap_succ (by omega), ih (i + 1) m (by omega) (by omega)]
theorem refequal_refl (n : Nat) (hn : 5000 ≤ n) (a : MetD) (h1 : a.2.2.1.length ≤ 1000) (h2 : a.2.2.2.2.1.length ≤ 1000) : F.ref07_Equal n a a = some true := by
  obtain ⟨nm, k, vs, r, ts, t, _⟩ := a
  simp only at h1 h2
  unfold F.ref07_Equal
  simp only [beq_self_eq_true, Bool.not_true, cond_false]
  refine (refeq_decs n Bool _ _ nm k vs r ts t h1 vs.length 0 n (by omega) (by omega)).trans ?_
  exact refeq_tags n Bool _ _ nm k vs r ts t h2 ts.length 0 n (by omega) (by omega)
theorem statsd_parses (n : Nat) (hn : 5000 ≤ n) (s : List UInt8) : F.law10_StatsdParses n s = some true := by
  unfold F.law10_StatsdParses
  rw [awake10 n hn]
  by_cases h : (s.length : Int) > 600
  · rw [bif_pos h]; rfl
  rw [bif_neg h, sdParse_eq n hn s (by omega), refParse_eq n hn s (by omega)]
  rcases sd_cases s with ⟨c, a, e, _⟩ | ⟨name, value, word, tail, d, r, _, _, _, _, _, _, _, e⟩
  · rw [e]
    simp only [some_bind', refequal_refl n hn ([], 0, [], 0, [], 0, ()) (by simp) (by simp)]
    simp
  · rw [e]
    simp only [some_bind', refequal_refl n hn (name, kindOf word, [d], r, [], 0, ()) (by simp) (by simp)]
    simp
end Go.AM
set_option linter.unusedVariables false
set_option linter.unusedSimpArgs false
namespace Go.AM
theorem parse_ok {s : List UInt8} (h : (parseR s).2.1.1 = 0) : ∃ (neg : Bool) (c : Nat) (e : Int), parseR s = ((neg, (c : Int), e, ()), (0, 0, ()), ()) ∧ c < two64 ∧ (-9223372036854775808 ≤ e ∧ e ≤ 9223372036854775807) ∧ checkR neg c e = 0 := by
  rcases parse_cases s with ⟨h1, _⟩ | h1
  · exact absurd h h1
  · exact h1
theorem text_short {s : List UInt8} {neg : Bool} {c : Nat} {e : Int} (h : parseR s = ((neg, (c : Int), e, ()), (0, 0, ()), ())) : (textD neg c e).length ≤ s.length ∧ (neg = true → s.head? = some 45) := by
  have h0 : (lookR s).1 = 0 := by
    apply Classical.byContradiction
    intro hh
    have : parseR s = badR (lookR s) := by unfold parseR; rw [if_neg hh]
    rw [this] at h
    exact hh (congrArg (fun r : ParseR => r.2.1.1) h)
  obtain ⟨_, hA, hsp⟩ := look_ok h0
  have hp : parseR s = outR (valR (negD s) (aheadD s ++ behindD s) (-((behindD s).length : Int))) := by unfold parseR; rw [if_pos h0]
  rw [hp] at h
  have hD : Digs (aheadD s ++ behindD s) := digs_append.2 ⟨tw_digs _, behind_digs s⟩
  have hs : s.length = p0 s + (s.drop (p0 s)).length := by have := p0_le s; simp; omega
  have hpn : p0 s = (sgn (negD s)).length := by
    unfold p0 negD sgn
    by_cases hh : s.head? = some 45
    · rw [if_pos hh, decide_eq_true hh]; rfl
    · rw [if_neg hh, decide_eq_false hh]; rfl
  have hng : negD s = true → s.head? = some 45 := fun hh => by unfold negD at hh; simpa using hh
  generalize aheadD s = A at *
  generalize hBB : behindD s = B at *
  have hAl : 0 < A.length := List.length_pos_iff.2 hA
  by_cases hv : val (A ++ B) = 0
  · have hz : valR (negD s) (A ++ B) (-(B.length : Int)) = zeroD := by unfold valR; rw [if_pos hv]
    rw [hz] at h
    have h1 : neg = false := (congrArg (fun r : ParseR => r.1.1) h).symm
    have h2 : (c : Int) = 0 := (congrArg (fun r : ParseR => r.1.2.1) h).symm
    have h3 : e = 0 := (congrArg (fun r : ParseR => r.1.2.2.1) h).symm
    have h2' : c = 0 := by omega
    subst h1 h2' h3
    refine ⟨?_, fun hh => by cases hh⟩
    have d0 : Lib.decDigits 0 = [48] := dd_small (by omega)
    have : (textD false 0 0).length = 1 := by unfold textD; rw [d0]; rfl
    rw [this]
    rcases hsp with ⟨h1, _⟩ | ⟨h1, _⟩
    · rw [h1] at hs; omega
    · rw [h1] at hs; simp only [List.length_append, List.length_cons] at hs; omega
  · obtain ⟨c0, z, h1, h2⟩ := ten_split (val (A ++ B)) (by omega)
    rw [valR_core hD h2 h1] at h
    have key : ∃ k : Nat, (k : Int) = e + B.length ∧ c * 10 ^ k = val (A ++ B) ∧ neg = negD s := by
      unfold normR at h
      split at h
      · unfold outR at h
        rw [if_neg (by decide)] at h
        have hx : (10 : Int) = 0 := congrArg (fun r : ParseR => r.2.1.1) h
        omega
      · rename_i g1
        split at h
        · unfold outR at h
          rw [if_pos rfl] at h
          have q1 : negD s = neg := congrArg (fun r : ParseR => r.1.1) h
          have q2 : ((c0 * 10 ^ (-(B.length : Int) + (z : Int) - 18).toNat : Nat) : Int) = (c : Int) := congrArg (fun r : ParseR => r.1.2.1) h
          have q3 : (if -(B.length : Int) + (z : Int) ≤ 18 then -(B.length : Int) + (z : Int) else 18) = e := congrArg (fun r : ParseR => r.1.2.2.1) h
          have q2' : c = c0 * 10 ^ (-(B.length : Int) + (z : Int) - 18).toNat := by omega
          by_cases g2 : -(B.length : Int) + (z : Int) ≤ 18
          · rw [if_pos g2] at q3
            refine ⟨z, by omega, ?_, q1.symm⟩
            rw [h1, q2', show (-(B.length : Int) + (z : Int) - 18).toNat = 0 from by omega]
            simp
          · rw [if_neg g2] at q3
            refine ⟨18 + B.length, by omega, ?_, q1.symm⟩
            rw [h1, q2', Nat.mul_assoc, ← Nat.pow_add]
            congr 2
            omega
        · unfold outR at h
          rw [if_neg (by decide)] at h
          have hx : (10 : Int) = 0 := congrArg (fun r : ParseR => r.2.1.1) h
          omega
    obtain ⟨k, k1, k2, k3⟩ := key
    have hc0 : 0 < c := by
      rcases Nat.eq_zero_or_pos c with h | h
      · rw [h] at k2; omega
      · exact h
    have hlt := val_lt hD
    have hge := dd_ge hc0
    have hL : 0 < (Lib.decDigits c).length := List.length_pos_iff.2 (dd_ne c)
    have hlen : (Lib.decDigits c).length - 1 + k < (A ++ B).length := by
      have h4 : 10 ^ ((Lib.decDigits c).length - 1 + k) ≤ val (A ++ B) := by
        rw [Nat.pow_add, ← k2]
        exact Nat.mul_le_mul_right _ hge
      exact (Nat.pow_lt_pow_iff_right (by omega : 1 < 10)).1 (Nat.lt_of_le_of_lt h4 hlt)
    rw [List.length_append] at hlen
    subst k3
    refine ⟨?_, hng⟩
    unfold textD
    by_cases hE : 0 ≤ e
    · rw [if_pos hE]
      have : (sgn (negD s) ++ (Lib.decDigits c ++ List.replicate e.toNat 48)).length = p0 s + ((Lib.decDigits c).length + e.toNat) := by rw [hpn]; simp
      rw [this]
      rcases hsp with ⟨h1, h6⟩ | ⟨h1, h6⟩
      · rw [h1] at hs; omega
      · rw [h1] at hs; simp only [List.length_append, List.length_cons] at hs; omega
    · rw [if_neg hE]
      have hBn : 0 < B.length := by omega
      have hw : (wideW c e).length = (1 - e - (Lib.decDigits c).length).toNat + (Lib.decDigits c).length := by unfold wideW; simp
      have : (sgn (negD s) ++ ((wideW c e).take ((wideW c e).length - e.natAbs) ++ [46] ++ (wideW c e).drop ((wideW c e).length - e.natAbs))).length = p0 s + ((wideW c e).length + 1) := by
        rw [hpn]
        simp
        omega
      rw [this]
      rcases hsp with ⟨h1, h6⟩ | ⟨h1, h6⟩
      · rw [h6] at hBn; simp at hBn
      · rw [h1] at hs
        simp at hs
        omega
theorem textD_bytes (neg : Bool) (c : Nat) (e : Int) : ∀ b ∈ textD neg c e, (b = 45 ∧ neg = true) ∨ isDig b = true ∨ b = 46 := by
  intro b hb
  have hsg : ∀ b ∈ sgn neg, b = 45 ∧ neg = true := by
    intro b hb
    cases neg
    · simp [sgn] at hb
    · simp [sgn] at hb; exact ⟨hb, rfl⟩
  have hdg : ∀ (l : List UInt8), Digs l → ∀ b ∈ l, isDig b = true := fun l hl b hb => List.all_eq_true.1 hl b hb
  unfold textD at hb
  split at hb
  · rcases List.mem_append.1 hb with h | h
    · exact Or.inl (hsg b h)
    · exact Or.inr (Or.inl (hdg _ (digs_append.2 ⟨dd_digs c, digs_rep _⟩) b h))
  · rcases List.mem_append.1 hb with h | h
    · exact Or.inl (hsg b h)
    · have w3 : Digs (wideW c e) := digs_append.2 ⟨digs_rep _, dd_digs c⟩
      rcases List.mem_append.1 h with h | h
      · rcases List.mem_append.1 h with h | h
        · exact Or.inr (Or.inl (hdg _ (digs_take _ w3) b h))
        · exact Or.inr (Or.inr (by simpa using h))
      · exact Or.inr (Or.inl (hdg _ (digs_drop _ w3) b h))
theorem textD_free (neg : Bool) (c : Nat) (e : Int) : (124 : UInt8) ∉ textD neg c e := by
  intro h
  rcases textD_bytes neg c e _ h with h | h | h
  · exact absurd h.1 (by decide)
  · exact absurd h (by decide)
  · exact absurd h (by decide)
theorem textD_head (c : Nat) (e : Int) : ¬ (textD false c e).head? = some 45 := by
  intro h
  have hm : (45 : UInt8) ∈ textD false c e := List.mem_of_mem_head? (by rw [h]; rfl)
  rcases textD_bytes false c e _ hm with h | h | h
  · cases h.2
  · exact absurd h (by decide)
  · exact absurd h (by decide)
theorem digs_free {l : List UInt8} (h : Digs l) : (124 : UInt8) ∉ l := fun hm => absurd (List.all_eq_true.1 h _ hm) (by decide)
theorem rateText_free {r : Int} (h1 : 1 ≤ r) (h2 : r < 1000000) (z : Nat) : (124 : UInt8) ∉ (rateText r).1 ++ List.replicate z 48 := by
  rw [rateText_form ⟨h1, h2⟩]
  obtain ⟨p1, p2, p3, p4⟩ := pad6_all (k := r.toNat) (by omega)
  have := digs_free (digs_append.2 ⟨trz_digs p3, digs_rep z⟩)
  simpa using this
theorem back_line {m : MetD} (hm : MetOK m) (h : expM m 1 = 0) : sdParse (lineS m) = some (m, (0, 0, ()), ()) := by
  obtain ⟨nm, k, d, r, rfl, hnm, k1, k4, hd, r1, r2, hr2, hneg⟩ := said_facts h
  have hdo : DecLOK d := hm.2.1.2 d (by simp)
  obtain ⟨neg, c, e, rfl, hc, he⟩ := decL_nat hdo
  have hd' : checkR neg c e = 0 := hd
  have hp := parse_text neg c hc e hd'
  have hkw := kind_word k1 k4
  have hk0 : ¬ kindOf (wordL k) = 0 := by rw [hkw]; omega
  have hg : ¬ (kindOf (wordL k) = 2 ∧ (textD neg c e).head? = some 45) := by
    rw [hkw]
    rintro ⟨h2, h45⟩
    have : neg = false := hneg h2
    subst this
    exact textD_head c e h45
  have hfree := textD_free neg c e
  unfold lineS rateL
  simp only
  by_cases hr : r = 1000000
  · rw [if_pos hr]
    have L := sd_short (d := (neg, (c : Int), e)) hnm hfree hp hk0 hg
    have e1 : nm ++ [58] ++ valL [(neg, (c : Int), e)] ++ [124] ++ wordL k ++ [] = nm ++ 58 :: (textD neg c e ++ 124 :: wordL k) := by
      have : valL [(neg, (c : Int), e)] = textD neg c e := rfl
      rw [this]; simp
    rw [e1, L, hkw, hr]
  · rw [if_neg hr]
    have L := sd_long (d := (neg, (c : Int), e)) hnm hfree hp hk0 hg (64 :: (rateText r).1)
    have e1 : nm ++ [58] ++ valL [(neg, (c : Int), e)] ++ [124] ++ wordL k ++ ([124, 64] ++ (rateText r).1) = nm ++ 58 :: (textD neg c e ++ 124 :: (wordL k ++ 124 :: (64 :: (rateText r).1))) := by
      have : valL [(neg, (c : Int), e)] = textD neg c e := rfl
      rw [this]; simp
    have hfr : (124 : UInt8) ∉ (rateText r).1 := by
      have := rateText_free r1 (by omega) 0
      simpa using this
    have hk2 : ¬ k = 2 := fun h => hr (hr2 h)
    have hread : rateR (rateText r).1 = numR r 0 0 := by
      rw [rateText_form ⟨r1, by omega⟩]
      have := rate_read r ⟨r1, by omega⟩ 0
      obtain ⟨p1, p2, p3, p4⟩ := pad6_all (k := r.toNat) (by omega)
      have hle := trz_le (pad6 r.toNat)
      rw [if_pos (by omega), List.replicate_zero, List.append_nil] at this
      exact this
    rw [e1, L]
    have hdr : (64 :: (rateText r).1 : List UInt8).drop 1 = (rateText r).1 := rfl
    rw [hdr, seg_all hfr, hread, hkw]
    have hhd : (64 :: (rateText r).1 : List UInt8).head? = some 64 := rfl
    rw [if_neg (fun hh => hh hhd), if_neg (show ¬ (¬ (numR r 0 0).2.1.1 = 0 ∨ (k = 2 ∧ ¬ (numR r 0 0).1 = 1000000)) from by
      rintro (h | h)
      · exact h rfl
      · exact hk2 h.1), if_neg hfr]
    rfl
theorem parse_said {s : List UInt8} (hs : s.length ≤ 1000) {name value word tail : List UInt8} {d : DecL} {r : Int} (h0 : s = name ++ 58 :: (value ++ 124 :: (word ++ tail))) (hn : nameOK name = true) (hp : parseR value = ((d.1, d.2.1, d.2.2, ()), (0, 0, ()), ())) (hk : ¬ kindOf word = 0) (hg : ¬ (kindOf word = 2 ∧ value.head? = some 45))
    (ht : tail = [] ∧ r = 1000000 ∨ ∃ rt, tail = 124 :: 64 :: rt ∧ (rateR rt).2.1.1 = 0 ∧ (rateR rt).1 = r ∧ (kindOf word = 2 → r = 1000000) ∧ (124 : UInt8) ∉ rt) :
    MetOK (name, kindOf word, [d], r, [], 0, ()) ∧ expM (name, kindOf word, [d], r, [], 0, ()) 1 = 0 ∧ chkM (name, kindOf word, [d], r, [], 0, ()) = 0 ∧ (lineS (name, kindOf word, [d], r, [], 0, ())).length ≤ s.length := by
  obtain ⟨neg, c, e, q1, q2, q3, q4⟩ := parse_ok (s := value) (by rw [hp])
  have hd : d = (neg, (c : Int), e) := by
    rw [hp] at q1
    have w1 : d.1 = neg := congrArg (fun r : ParseR => r.1.1) q1
    have w2 : d.2.1 = (c : Int) := congrArg (fun r : ParseR => r.1.2.1) q1
    have w3 : d.2.2 = e := congrArg (fun r : ParseR => r.1.2.2.1) q1
    exact Prod.ext w1 (Prod.ext w2 w3)
  subst hd
  obtain ⟨t1, t2⟩ := text_short q1
  obtain ⟨hw1, hw2, hw3, hw4⟩ := kind_cases hk
  have hrate : 1 ≤ r ∧ r ≤ 1000000 ∧ (kindOf word = 2 → r = 1000000) ∧ (rateL r).length ≤ tail.length := by
    rcases ht with ⟨h1, h2⟩ | ⟨rt, h1, h2, h3, h4, h5⟩
    · subst h1 h2
      exact ⟨by decide, by decide, fun _ => rfl, by decide⟩
    · obtain ⟨g1, g2, g3, g4, a, j, g5, g6, g7, g8⟩ := rate_ok h2
      rw [h3] at g2 g3 g6
      refine ⟨g2, g3, h4, ?_⟩
      unfold rateL
      by_cases hr : r = 1000000
      · rw [if_pos hr]; simp
      · rw [if_neg hr, h1, g5, g6]; simp
  obtain ⟨r1, r2, r3, r4⟩ := hrate
  have hlen := congrArg List.length h0
  simp at hlen
  have hd0 : decC (neg, (c : Int), e) = 0 := q4
  have hck : chkM (name, kindOf word, [(neg, (c : Int), e)], r, [], 0, ()) = 0 := by
    have e1 : kindB (kindOf word) = true := by unfold kindB; simp; omega
    have e2 : valsB [(neg, (c : Int), e)] = true := by unfold valsB; simp [hd0]
    have e3 : rateB (kindOf word) r = true := by
      unfold rateB
      simp only [Bool.and_eq_true, decide_eq_true_eq, Bool.or_eq_true, Bool.not_eq_true', beq_eq_false_iff_ne, beq_iff_eq]
      refine ⟨r1, r2, ?_⟩
      by_cases h : kindOf word = 2
      · exact Or.inr (r3 h)
      · exact Or.inl h
    unfold chkM
    simp only [hn, e1, e2, e3]
    rfl
  refine ⟨⟨?_, ⟨by simp, fun d' hd' => ?_⟩, by simp, fun t ht => by simp at ht⟩, ?_, hck, ?_⟩
  · show name.length ≤ 1000; omega
  · have : d' = (neg, (c : Int), e) := by simpa using hd'
    subst this
    rw [two64_eq] at q2
    refine ⟨trivial, ⟨?_, ?_⟩, q3.1, q3.2⟩
    · show (0 : Int) ≤ (c : Int); omega
    · show (c : Int) ≤ 18446744073709551615; omega
  · unfold expM
    rw [if_neg (by omega), if_pos hck]
    have : saysM (name, kindOf word, [(neg, (c : Int), e)], r, [], 0, ()) 1 = true := by
      unfold saysM
      rw [if_pos rfl]
      unfold saysS bareM negM
      have h5 : (kindOf word == 5) = false := by rw [beq_eq_false_iff_ne]; omega
      simp only [h5]
      by_cases h2 : kindOf word = 2
      · have : neg = false := by
          cases hh : neg
          · rfl
          · exact absurd ⟨h2, t2 hh⟩ hg
        rw [this]; simp
      · have : (kindOf word == 2) = false := by simpa using h2
        rw [this]; simp
    rw [this]; rfl
  · unfold lineS
    have : valL [(neg, (c : Int), e)] = textD neg c e := rfl
    simp only [this, ← hw1]
    simp
    omega
theorem tagIs_nil (n : Nat) (hn : 1 ≤ n) : F.tag_Is n [] = some true := by
  obtain ⟨q, rfl⟩ : ∃ q, n = q + 1 := ⟨n - 1, by omega⟩
  rfl
theorem back10 (n : Nat) (hn : 5000 ≤ n) (s : List UInt8) (hs : s.length ≤ 600) : F.law10_StatsdBack.C10 n (fun b => some b) s = some true := by
  unfold F.law10_StatsdBack.C10
  rw [sdParse_eq n hn s (by omega), awake10 n hn]
  rcases sd_cases s with ⟨c, a, e, hc, ha, hal⟩ | ⟨name, value, word, tail, d, r, h0, hn', hv, hp, hk, hg, ht, e⟩
  · have e1 : (c == 0) = false := by simpa using hc
    rw [e]
    simp only [some_bind', e1, Bool.false_and, Bool.not_false, cond_true]
    rw [equal_eq n hn ([], 0, [], 0, [], 0, ()) _ (by simp) (by simp), eqM_pos rfl, bif_pos ha, bif_pos hal]
    rfl
  · obtain ⟨hm, hx, hck, hl⟩ := parse_said (by omega) h0 hn' hp hk hg ht
    have hb := back_line hm hx
    have hll : (lineS (name, kindOf word, [d], r, [], 0, ())).length ≤ 1000 := by omega
    rw [e]
    simp only [some_bind', beq_self_eq_true, Bool.and_self, Bool.not_true, cond_false]
    have h1 := line_eq n hn _ hm
    have h2 : F.metric_Is n (name, kindOf word, [d], r, [], 0, ()) = some true := by
      unfold F.metric_Is
      simp only [metcheck_eq n hn _ hm, some_bind', hck, tagIs_nil n (by omega)]
      rfl
    have h3 := expm_eq n hn _ hm 1
    unfold lineR at h1
    rw [if_pos hx] at h1
    rw [h1, some_bind']
    simp only
    rw [sdParse_eq n hn _ hll, hb]
    simp only [some_bind', h2, h3, hx, cond_true, beq_self_eq_true, Bool.and_self]
    rw [equal_eq n hn (name, kindOf word, [d], r, [], 0, ()) _ (by simp) (by simp), eqM_pos rfl, some_bind', cond_true, bif_pos (by omega)]
theorem lineS_le {m : MetD} (hm : MetOK m) (h : expM m 1 = 0) (hl : m.1.length ≤ 300) : (lineS m).length ≤ 400 := by
  obtain ⟨nm, k, d, r, rfl, hnm, k1, k4, hd, r1, r2, hr2, hneg⟩ := said_facts h
  have hdo : DecLOK d := hm.2.1.2 d (by simp)
  have h1 := textD_le hdo hd
  have h2 := wordL_le k
  have h3 := (rateText_ok r1 r2).2
  have h4 : (rateL r).length ≤ 10 := by
    unfold rateL
    split
    · simp
    · simp; omega
  have h5 : valL [d] = textD d.1 d.2.1.toNat d.2.2 := rfl
  simp only at hl
  unfold lineS
  simp only [h5]
  simp
  omega
theorem statsd_back (n : Nat) (hn : 5000 ≤ n) (m : MetD) (s : List UInt8) (hw : MetWf m) (hl : m.2.2.2.2.1.length ≤ 140737488351232) : F.law10_StatsdBack n m s = some true := by
  unfold F.law10_StatsdBack
  have hsm : F.law10_Small n (m.1, m.2.1, m.2.2.1, m.2.2.2.1, m.2.2.2.2.1, m.2.2.2.2.2.1, ()) = some (smallB m) := small_eq n hn m hl
  rw [hsm, some_bind', awake10 n hn]
  by_cases h : smallB m = true
  · obtain ⟨hm, hnl⟩ := small_ok hw h
    rw [h, Bool.not_true, cond_false]
    by_cases h6 : (s.length : Int) > 600
    · rw [bif_pos h6]; rfl
    rw [bif_neg h6]
    have h1 : F.statsd_Line n (m.1, m.2.1, m.2.2.1, m.2.2.2.1, m.2.2.2.2.1, m.2.2.2.2.2.1, ()) = some (lineR m) := line_eq n hn m hm
    have h2 : F.expr_Metric n (m.1, m.2.1, m.2.2.1, m.2.2.2.1, m.2.2.2.2.1, m.2.2.2.2.2.1, ()) (1 : Int) = some (expM m 1) := expm_eq n hn m hm 1
    have h3 := back10 n hn s (by omega)
    rw [h1, some_bind', h2]
    unfold lineR
    by_cases h0 : expM m 1 = 0
    · rw [if_pos h0]
      have hb := back_line hm h0
      have hle := lineS_le hm h0 hnl
      simp only [beq_self_eq_true, Bool.not_true, cond_false]
      rw [sdParse_eq n hn _ (by omega), hb]
      have he := equal_eq n hn m m hm.2.1.1 hm.2.2.1
      rw [eqM_pos rfl] at he
      have he' : F.metric_Equal n (m.1, m.2.1, m.2.2.1, m.2.2.2.1, m.2.2.2.2.1, m.2.2.2.2.2.1, ()) (m.1, m.2.1, m.2.2.1, m.2.2.2.1, m.2.2.2.2.1, m.2.2.2.2.2.1, ()) = some true := he
      simp only [some_bind', he', beq_self_eq_true, Bool.and_self, Bool.not_true, cond_false]
      exact h3
    · rw [if_neg h0]
      have e0 : (expM m 1 == 0) = false := by simpa using h0
      simp only [e0, Bool.not_false, cond_true, beq_self_eq_true, Bool.not_true, cond_false, some_bind']
      exact h3
  · have h : smallB m = false := by simpa using h
    rw [h]; rfl
end Go.AM
set_option linter.unusedVariables false
set_option linter.unusedSimpArgs false
namespace Go.AM
theorem many_loop (n : Nat) (X : Type) (k0 : List UInt8 → Option X) (z : Int) (hz : z ≤ 5) : ∀ (j i m : Nat) (v : List UInt8), (i : Int) + j = z → j < m → v.length + j ≤ 1000 → F.law10_many.L3 n k0 m z v (i : Int) = k0 (v ++ List.replicate j 48) := by
  intro j
  induction j with
  | zero =>
    intro i m v h hm hv
    obtain ⟨m, rfl⟩ : ∃ q, m = q + 1 := ⟨m - 1, by omega⟩
    show F.law10_many.L3.step n (F.law10_many.L3 n k0 m) k0 z v (i : Int) = _
    unfold F.law10_many.L3.step
    rw [bif_neg (by omega), List.replicate_zero, List.append_nil]
  | succ j ih =>
    intro i m v h hm hv
    obtain ⟨m, rfl⟩ : ∃ q, m = q + 1 := ⟨m - 1, by omega⟩
    show F.law10_many.L3.step n (F.law10_many.L3 n k0 m) k0 z v (i : Int) = _
    unfold F.law10_many.L3.step
    rw [bif_pos (by omega), bif_pos (by omega), bif_pos (by rw [strMax_eq]; omega), wrap_succ (by omega), ih (i + 1) m _ (by omega) (by omega) (by simp; omega), List.append_assoc, List.replicate_succ]
    rfl
theorem many_eq (n : Nat) (hn : 5000 ≤ n) {z : Nat} (hz : z ≤ 5) : F.law10_many n (z : Int) = some (List.replicate z 48) := by
  unfold F.law10_many
  have := many_loop n (List UInt8) (fun e1_3 => some (e1_3)) (z : Int) (by omega) z 0 n [] (by omega) (by omega) (by simp; omega)
  rw [List.nil_append] at this
  exact this
def moreV (neg : Bool) (c : Nat) (e : Int) (k w : Nat) : List UInt8 := sgn neg ++ List.replicate k 48 ++ ((if 0 ≤ e ∧ 0 < w then bodyD c e ++ [46] else bodyD c e) ++ List.replicate w 48)
theorem moreV_parse (neg : Bool) (c : Nat) (hc : c < two64) (e : Int) (h : checkR neg c e = 0) (k w : Nat) : parseR (moreV neg c e k w) = ((neg, (c : Int), e, ()), (0, 0, ()), ()) := by
  have := zeros_form neg c hc e h k w
  have e1 : moreV neg c e k w = (if 0 ≤ e ∧ 0 < w then sgn neg ++ List.replicate k 48 ++ bodyD c e ++ [46] else sgn neg ++ List.replicate k 48 ++ bodyD c e) ++ List.replicate w 48 := by
    unfold moreV
    split <;> simp
  rw [e1, this]
theorem moreV_bytes (neg : Bool) (c : Nat) (e : Int) (k w : Nat) : ∀ b ∈ moreV neg c e k w, (b = 45 ∧ neg = true) ∨ isDig b = true ∨ b = 46 := by
  intro b hb
  have hz : ∀ (j : Nat), ∀ b ∈ List.replicate j (48 : UInt8), isDig b = true := fun j b hb => List.all_eq_true.1 (digs_rep j) b hb
  have hbody : ∀ b ∈ bodyD c e, isDig b = true ∨ b = 46 := by
    intro b hb
    have : b ∈ textD false c e := by rw [textD_body]; exact hb
    rcases textD_bytes false c e b this with h | h | h
    · cases h.2
    · exact Or.inl h
    · exact Or.inr h
  unfold moreV at hb
  rcases List.mem_append.1 hb with h | h
  · rcases List.mem_append.1 h with h | h
    · cases neg
      · simp [sgn] at h
      · simp [sgn] at h; exact Or.inl ⟨h, rfl⟩
    · exact Or.inr (Or.inl (hz _ b h))
  · rcases List.mem_append.1 h with h | h
    · split at h
      · rcases List.mem_append.1 h with h | h
        · exact Or.inr (hbody b h)
        · exact Or.inr (Or.inr (by simpa using h))
      · exact Or.inr (hbody b h)
    · exact Or.inr (Or.inl (hz _ b h))
theorem moreV_free (neg : Bool) (c : Nat) (e : Int) (k w : Nat) : (124 : UInt8) ∉ moreV neg c e k w := by
  intro h
  rcases moreV_bytes neg c e k w _ h with h | h | h
  · exact absurd h.1 (by decide)
  · exact absurd h (by decide)
  · exact absurd h (by decide)
theorem moreV_head (c : Nat) (e : Int) (k w : Nat) : ¬ (moreV false c e k w).head? = some 45 := by
  intro h
  have hm : (45 : UInt8) ∈ moreV false c e k w := List.mem_of_mem_head? (by rw [h]; rfl)
  rcases moreV_bytes false c e k w _ hm with h | h | h
  · cases h.2
  · exact absurd h (by decide)
  · exact absurd h (by decide)
theorem forms_line {nm : List UInt8} {k : Int} {neg : Bool} {c : Nat} {e : Int} {r : Int} (hnm : nameOK nm = true) (k1 : 1 ≤ k) (k4 : k ≤ 4) (hc : c < two64) (hd : checkR neg c e = 0) (r1 : 1 ≤ r) (r2 : r ≤ 1000000) (hr2 : k = 2 → r = 1000000) (hneg : k = 2 → neg = false) (z w : Nat) :
    (r = 1000000 → sdParse (nm ++ 58 :: (moreV neg c e z w ++ 124 :: wordL k)) = some (OkR nm k (neg, (c : Int), e) r)) ∧
    (r = 1000000 → sdParse (nm ++ 58 :: (moreV neg c e z w ++ 124 :: (wordL k ++ 124 :: [64, 49]))) = some (OkR nm k (neg, (c : Int), e) r)) ∧
    (r ≠ 1000000 → ∀ j, (rateText r).1.length + j ≤ 8 → sdParse (nm ++ 58 :: (moreV neg c e z w ++ 124 :: (wordL k ++ 124 :: (64 :: ((rateText r).1 ++ List.replicate j 48))))) = some (OkR nm k (neg, (c : Int), e) r)) := by
  have hp := moreV_parse neg c hc e hd z w
  have hkw := kind_word k1 k4
  have hk0 : ¬ kindOf (wordL k) = 0 := by rw [hkw]; omega
  have hg : ¬ (kindOf (wordL k) = 2 ∧ (moreV neg c e z w).head? = some 45) := by
    rw [hkw]
    rintro ⟨h2, h45⟩
    have : neg = false := hneg h2
    subst this
    exact moreV_head c e z w h45
  have hfree := moreV_free neg c e z w
  refine ⟨fun hr => ?_, fun hr => ?_, fun hr j hj => ?_⟩
  · have L := sd_short (d := (neg, (c : Int), e)) hnm hfree hp hk0 hg
    rw [L, hkw, hr]
  · have L := sd_long (d := (neg, (c : Int), e)) hnm hfree hp hk0 hg [64, 49]
    have hdr : ([64, 49] : List UInt8).drop 1 = [49] := rfl
    have hsg : seg 124 [49] = [49] := rfl
    have hrr : rateR [49] = numR 1000000 0 0 := rfl
    rw [L, hdr, hsg, hrr, if_neg (fun hh => hh rfl), if_neg (show ¬ (¬ (numR 1000000 0 0).2.1.1 = 0 ∨ (kindOf (wordL k) = 2 ∧ ¬ (numR 1000000 0 0).1 = 1000000)) from by
      rintro (h | h)
      · exact h rfl
      · exact h.2 rfl), if_neg (by decide), hkw, hr]
    rfl
  · have L := sd_long (d := (neg, (c : Int), e)) hnm hfree hp hk0 hg (64 :: ((rateText r).1 ++ List.replicate j 48))
    have hk2 : ¬ k = 2 := fun h => hr (hr2 h)
    have hfr := rateText_free r1 (by omega : r < 1000000) j
    have hread : rateR ((rateText r).1 ++ List.replicate j 48) = numR r 0 0 := by
      have hf := rateText_form (k := r) ⟨r1, by omega⟩
      rw [hf] at hj ⊢
      have := rate_read r ⟨r1, by omega⟩ j
      rw [if_pos (by simp at hj; omega)] at this
      exact this
    have hdr : (64 :: ((rateText r).1 ++ List.replicate j 48) : List UInt8).drop 1 = (rateText r).1 ++ List.replicate j 48 := rfl
    have hhd : (64 :: ((rateText r).1 ++ List.replicate j 48) : List UInt8).head? = some 64 := rfl
    rw [L, hdr, seg_all hfr, hread, hkw]
    rw [if_neg (fun hh => hh hhd), if_neg (show ¬ (¬ (numR r 0 0).2.1.1 = 0 ∨ (k = 2 ∧ ¬ (numR r 0 0).1 = 1000000)) from by
      rintro (h | h)
      · exact h rfl
      · exact hk2 h.1), if_neg hfr]
    rfl
theorem forms27 (n : Nat) (hn : 5000 ≤ n) (s : List UInt8) (hs : s.length ≤ 1000) (nm : List UInt8) (k : Int) (d : DecL) (r : Int) (h : sdParse s = some (OkR nm k d r)) : F.law10_StatsdForms.C27 n (fun b => some b) s nm k [d] r [] 0 = some true := by
  unfold F.law10_StatsdForms.C27
  rw [sdParse_eq n hn s hs, h, awake10 n hn]
  have he := equal_eq n hn (nm, k, [d], r, [], 0, ()) (nm, k, [d], r, [], 0, ()) (by simp) (by simp)
  rw [eqM_pos rfl] at he
  simp only [some_bind', he, beq_self_eq_true, Bool.and_self, cond_true]
theorem forms16 (n : Nat) (hn : 5000 ≤ n) (one : Bool) {nm : List UInt8} {k : Int} {neg : Bool} {c : Nat} {e : Int} {r : Int} (hnl : nm.length ≤ 300) (hnm : nameOK nm = true) (k1 : 1 ≤ k) (k4 : k ≤ 4) (hc : c < two64) (hd : checkR neg c e = 0) (r1 : 1 ≤ r) (r2 : r ≤ 1000000) (hr2 : k = 2 → r = 1000000) (hneg : k = 2 → neg = false) (z w y : Nat) (hz : z ≤ 5) (hw : w ≤ 5) (hy : y ≤ 5) :
    F.law10_StatsdForms.C16 n (fun b => some b) one (if 0 ≤ e ∧ 0 < w then bodyD c e ++ [46] else bodyD c e) (wordL k) (sgn neg) nm k [(neg, (c : Int), e)] r [] 0 (z : Int) (w : Int) (y : Int) = some true := by
  obtain ⟨f1, f2, f3⟩ := forms_line (nm := nm) (k := k) (neg := neg) (c := c) (e := e) (r := r) hnm k1 k4 hc hd r1 r2 hr2 hneg z w
  have he18 := (check_zero hd).2
  have hbl := (body_len c hc e he18).1
  have hwl := wordL_le k
  have hsl : (sgn neg).length ≤ 1 := by cases neg <;> decide
  obtain ⟨t1, t2⟩ := rateText_ok r1 r2
  have hB : (if 0 ≤ e ∧ 0 < w then bodyD c e ++ [46] else bodyD c e).length ≤ 61 := by
    split
    · rw [List.length_append]; simp only [List.length_cons, List.length_nil]; omega
    · omega
  unfold F.law10_StatsdForms.C16
  have hmv : ∀ B : List UInt8, B = (if 0 ≤ e ∧ 0 < w then bodyD c e ++ [46] else bodyD c e) → moreV neg c e z w = sgn neg ++ List.replicate z 48 ++ (B ++ List.replicate w 48) := by
    intro B hB; rw [hB]; rfl
  generalize hBB : (if 0 ≤ e ∧ 0 < w then bodyD c e ++ [46] else bodyD c e) = B at hB hmv ⊢
  have hm := hmv B rfl
  rw [hm] at f1 f2 f3
  simp only [many_eq n hn hz, many_eq n hn hw, many_eq n hn hy, some_bind', rateText_num, t1]
  rw [bif_pos (by rw [strMax_eq]; omega), bif_pos (by rw [strMax_eq]; simp; omega), bif_pos (by rw [strMax_eq]; simp; omega), bif_pos (by rw [strMax_eq]; simp; omega), bif_pos (by rw [strMax_eq]; simp; omega), bif_pos (by rw [strMax_eq]; simp; omega), bif_pos (by rw [strMax_eq]; simp; omega)]
  simp only [beq_self_eq_true, Bool.not_true, cond_false]
  by_cases hr : r = 1000000
  · have er : (r == 1000000) = true := by simp [hr]
    rw [er, Bool.not_true, cond_false]
    cases one
    · rw [cond_false]
      refine forms27 n hn _ (by simp; omega) nm k _ r ?_
      rw [← f1 hr]
      congr 1
      simp
    · rw [cond_true, bif_pos (by rw [strMax_eq]; simp; omega)]
      refine forms27 n hn _ (by simp; omega) nm k _ r ?_
      rw [← f2 hr]
      congr 1
      simp
  · have er : (r == 1000000) = false := by simpa using hr
    rw [er, Bool.not_false, cond_true, bif_pos (by rw [strMax_eq]; simp; omega)]
    by_cases h8 : (((rateText r).1 ++ List.replicate y 48).length : Int) > 8
    · rw [bif_pos h8, bif_pos (by rw [strMax_eq]; simp; omega), bif_pos (by rw [strMax_eq]; simp; omega)]
      refine forms27 n hn _ (by simp; omega) nm k _ r ?_
      rw [← f3 hr 0 (by omega)]
      congr 1
      simp
    · rw [bif_neg h8, bif_pos (by rw [strMax_eq]; simp; omega), bif_pos (by rw [strMax_eq]; simp; omega)]
      simp at h8
      refine forms27 n hn _ (by simp; omega) nm k _ r ?_
      rw [← f3 hr y (by omega)]
      congr 1
      simp
theorem forms14 (n : Nat) (hn : 5000 ≤ n) (one : Bool) {nm : List UInt8} {k : Int} {neg : Bool} {c : Nat} {e : Int} {r : Int} (hnl : nm.length ≤ 300) (hnm : nameOK nm = true) (k1 : 1 ≤ k) (k4 : k ≤ 4) (hc : c < two64) (hd : checkR neg c e = 0) (r1 : 1 ≤ r) (r2 : r ≤ 1000000) (hr2 : k = 2 → r = 1000000) (hneg : k = 2 → neg = false) (z w y : Nat) (hz : z ≤ 5) (hw : w ≤ 5) (hy : y ≤ 5) :
    F.law10_StatsdForms.C14 n (fun b => some b) one (bodyD c e) (wordL k) (sgn neg) nm k [(neg, (c : Int), e)] r [] 0 (z : Int) (w : Int) (y : Int) = some true := by
  have L := forms16 n hn one (nm := nm) (k := k) (neg := neg) (c := c) (e := e) (r := r) hnl hnm k1 k4 hc hd r1 r2 hr2 hneg z w y hz hw hy
  have he18 := (check_zero hd).2
  have hbl := (body_len c hc e he18).1
  unfold F.law10_StatsdForms.C14
  have hi : idx [(neg, (c : Int), e)] (0 : Int) = some (neg, (c : Int), e) := rfl
  rw [hi, some_bind']
  by_cases hE : e ≥ 0
  · rw [bif_pos hE]
    by_cases hw0 : (w : Int) > 0
    · rw [bif_pos hw0, bif_pos (by rw [strMax_eq]; omega)]
      rw [if_pos ⟨by omega, by omega⟩] at L
      exact L
    · rw [bif_neg hw0]
      rw [if_neg (by omega)] at L
      exact L
  · rw [bif_neg hE]
    rw [if_neg (by omega)] at L
    exact L
theorem statsd_forms (n : Nat) (hn : 5000 ≤ n) (m : MetD) (zs : Int × Int × Int × Unit) (one : Bool) (hw : MetWf m) (hl : m.2.2.2.2.1.length ≤ 140737488351232) : F.law10_StatsdForms n m zs one = some true := by
  unfold F.law10_StatsdForms
  have hsm : F.law10_Small n (m.1, m.2.1, m.2.2.1, m.2.2.2.1, m.2.2.2.2.1, m.2.2.2.2.2.1, ()) = some (smallB m) := small_eq n hn m hl
  rw [hsm, some_bind', awake10 n hn]
  by_cases h : smallB m = true
  · obtain ⟨hm, hnl⟩ := small_ok hw h
    obtain ⟨z, w, y, _⟩ := zs
    rw [h, Bool.not_true, cond_false]
    by_cases c1 : z < 0
    · rw [bif_pos c1]; rfl
    rw [bif_neg c1]
    by_cases c2 : z > 5
    · rw [bif_pos c2]; rfl
    rw [bif_neg c2]
    by_cases c3 : w < 0
    · rw [bif_pos c3]; rfl
    rw [bif_neg c3]
    by_cases c4 : w > 5
    · rw [bif_pos c4]; rfl
    rw [bif_neg c4]
    by_cases c5 : y < 0
    · rw [bif_pos c5]; rfl
    rw [bif_neg c5]
    by_cases c6 : y > 5
    · rw [bif_pos c6]; rfl
    rw [bif_neg c6]
    obtain ⟨z, rfl⟩ : ∃ q : Nat, z = q := ⟨z.toNat, by omega⟩
    obtain ⟨w, rfl⟩ : ∃ q : Nat, w = q := ⟨w.toNat, by omega⟩
    obtain ⟨y, rfl⟩ : ∃ q : Nat, y = q := ⟨y.toNat, by omega⟩
    have h1 : F.statsd_Line n (m.1, m.2.1, m.2.2.1, m.2.2.2.1, m.2.2.2.2.1, m.2.2.2.2.2.1, ()) = some (lineR m) := line_eq n hn m hm
    rw [h1, some_bind']
    unfold lineR
    by_cases h0 : expM m 1 = 0
    · rw [if_pos h0]
      obtain ⟨nm, k, d, r, rfl, hnm, k1, k4, hd, r1, r2, hr2, hneg⟩ := said_facts h0
      have hdo : DecLOK d := hm.2.1.2 d (by simp)
      have htx := decText_eq n hn hdo hd
      obtain ⟨neg, c, e, rfl, hc, he⟩ := decL_nat hdo
      have hd' : checkR neg c e = 0 := hd
      have he18 := (check_zero hd').2
      have hE := wordE_in k1 k4
      have L := forms14 n hn one (nm := nm) (k := k) (neg := neg) (c := c) (e := e) (r := r) hnl hnm k1 k4 hc hd' r1 r2 hr2 hneg z w y (by omega) (by omega) (by omega)
      have hbl := body_len c hc e he18
      have hi : idx [(neg, (c : Int), e)] (0 : Int) = some (neg, (c : Int), e) := rfl
      have htx' : F.dec_Text n (neg, (c : Int), e, ()) = some (textD neg c e, 0, ()) := htx
      simp only [beq_self_eq_true, Bool.not_true, cond_false, hi, some_bind', htx', O.word, hE]
      have hone : ((([(neg, (c : Int), e)] : List DecL).length : Int) == 1) = true := rfl
      rw [hone, Bool.not_true, cond_false, textD_body]
      have hlt : ¬ ((sgn neg ++ bodyD c e).length : Int) < 1 := by simp; omega
      rw [bif_neg hlt]
      obtain ⟨i0, g0⟩ := head_idx (s := sgn neg ++ bodyD c e) (k := 0) (by omega)
      have i0' : idx (sgn neg ++ bodyD c e) (0 : Int) = some (sgn neg ++ bodyD c e)[0] := i0
      have bb : ((((sgn neg ++ bodyD c e)[0].toNat : Nat) : Int) == 45) = decide ((sgn neg ++ bodyD c e)[0] = 45) := beq_byte _ 45
      rw [List.drop_zero] at g0
      rw [i0', some_bind', bb]
      cases neg
      · have hh : ¬ (sgn false ++ bodyD c e)[0] = 45 := by
          intro h45
          have := textD_head c e
          rw [textD_body, g0, h45] at this
          exact this rfl
        rw [decide_eq_false hh]
        exact L
      · rw [decide_eq_true (show (sgn true ++ bodyD c e)[0] = 45 from rfl), cond_true]
        have hsub : sub (sgn true ++ bodyD c e) (1 : Int) ((sgn true ++ bodyD c e).length : Int) = some (bodyD c e) := sub_tail (s := sgn true ++ bodyD c e) (p := 1) (by simp; omega)
        rw [hsub, some_bind']
        exact L
    · rw [if_neg h0]
      have e0 : (expM m 1 == 0) = false := by simpa using h0
      simp only [e0, Bool.not_false, cond_true]
      rfl
  · have h : smallB m = false := by simpa using h
    rw [h]; rfl
end Go.AM
namespace Go.Proofs.YtihjdbcmbpoifaaGreatDoor.statsdForms
open Go.ChangeShapes Go.WideShapes Go.ChangeAt Go.RowKit Go.AM
theorem own : ownKnob Tryz.prog.godebug = none := by kernel_rfl
theorem goes : LawGoes Tryz.prog SI 6 [(.agg [.str, (.int .i64), (.sl (.agg [.bool, (.int .u64), (.int .i64)])), (.int .i64), (.sl (.agg [.str, .str])), (.int .i64)]), (.agg [(.int .i64), (.int .i64), (.int .i64)]), .bool] := fun x hx w vals hI hr =>
  ok6 _ ((x.1.1, x.1.2.1, x.1.2.2.1, x.1.2.2.2.1, x.1.2.2.2.2.1, x.1.2.2.2.2.2, ()), (x.2.1.1, x.2.1.2.1, x.2.1.2.2, ()), x.2.2.1, ()) true (statsd_forms 5000 (by omega) (x.1.1, x.1.2.1, x.1.2.2.1, x.1.2.2.2.1, x.1.2.2.2.2.1, x.1.2.2.2.2.2, ()) (x.2.1.1, x.2.1.2.1, x.2.1.2.2, ()) x.2.2.1 hx.1.2.2.1.2 hx.1.2.2.2.2.1.1) w (AllD w) vals (WOf.of hI) hr (fun b o h => h)
noncomputable def laidWorld (os : Os) : World := laidOf Tryz.prog os [layTab 4 Rows.laid_math_bits_deBruijn32tab, layTab 5 Rows.laid_math_bits_deBruijn64tab, layTab 1 Rows.laid_internal_strconv_uint64pow10, layTab 3 Rows.laid_unicode_utf8_acceptRanges, layTab 2 Rows.laid_unicode_utf8_first]
theorem laid_met (os : Os) (args : Array Value) : laidMet Tryz.prog Rows.statsdFormsRow.laid ((laidWorld os).forCall (fun _ _ => 0) ⟨#[], args, []⟩).memory :=
  (LaidIn.of_run [4, 5, 1, 3, 2] 8 (by kernel_rfl) (by kernel_rfl) (by kernel_rfl) (by kernel_rfl)).met
theorem witness_row (os : Os) {H : Type} (enc : TypeId × Value → H) :
    (OpenSpec.ofChange Rows.statsdFormsSpec).preRow enc Tryz.prog Tryz.f6 Rows.statsdFormsRow.domain false Rows.statsdFormsRow.laid ((laidWorld os).forCall (fun _ _ => 0) ⟨#[], #[.agg #[.string .empty, .int .i64 0, .slice none 0 0, .int .i64 0, .slice none 0 0, .int .i64 0], .agg #[.int .i64 0, .int .i64 0, .int .i64 0], .bool false], []⟩).memory #[.agg #[.string .empty, .int .i64 0, .slice none 0 0, .int .i64 0, .slice none 0 0, .int .i64 0], .agg #[.int .i64 0, .int .i64 0, .int .i64 0], .bool false] := by
  have hw : (DataW.whole enc Tryz.prog ((laidWorld os).forCall (fun _ _ => 0) ⟨#[], #[.agg #[.string .empty, .int .i64 0, .slice none 0 0, .int .i64 0, .slice none 0 0, .int .i64 0], .agg #[.int .i64 0, .int .i64 0, .int .i64 0], .bool false], []⟩).memory Tryz.f6.params.toList Rows.statsdFormsSpec.vars false (#[.agg #[.string .empty, .int .i64 0, .slice none 0 0, .int .i64 0, .slice none 0 0, .int .i64 0], .agg #[.int .i64 0, .int .i64 0, .int .i64 0], .bool false] : Array Value).toList 8).map (fun x => (x.1, x.2.1)) =
      some ([.agg [.lit (.string []), .lit (.int .i64 0), .nil, .lit (.int .i64 0), .nil, .lit (.int .i64 0)], .agg [.lit (.int .i64 0), .lit (.int .i64 0), .lit (.int .i64 0)], .lit (.bool false)], []) := by kernel_rfl
  obtain ⟨⟨x1, x2, x3⟩, hx, hx1⟩ := Option.map_eq_some_iff.1 hw
  simp only [Prod.mk.injEq] at hx1
  obtain ⟨rfl, rfl⟩ := hx1
  exact OpenSpec.preRow_of_cond 8 hx (by kernel_rfl) (fun k hk => by cases hk) (by kernel_rfl) (laid_met os _)
set_option maxRecDepth 100000 in
theorem lifted (os : Os) (started : os.Started) (H : Type) (enc : TypeId × Value → H) (F : Stop.Interp) :
    ReturnsInHanded {} Tryz.checked os 6 .any ((OpenSpec.ofChange Rows.statsdFormsSpec).preRow enc Tryz.prog Tryz.f6 Rows.statsdFormsRow.domain false Rows.statsdFormsRow.laid) (((OpenSpec.ofChange Rows.statsdFormsSpec).at F).post enc Tryz.prog Tryz.f6 false true false false) := by
  refine returnsInHanded_of_row (C := Tryz.checked) (s := OpenSpec.ofChange Rows.statsdFormsSpec) own started (by kernel_rfl) Tryz.func6
    (witness_row_atRef (enc := enc) (C := Tryz.checked) false (laidWorld os) #[.agg #[.string .empty, .int .i64 0, .slice none 0 0, .int .i64 0, .slice none 0 0, .int .i64 0], .agg #[.int .i64 0, .int .i64 0, .int .i64 0], .bool false] rfl (by kernel_rfl) (by kernel_rfl) (by kernel_rfl) (witness_row os enc)) ?_
  intro W base args ds gs before hval hW _ _ hw hL hO _
  exact law_calls (s := Rows.statsdFormsSpec) (n := 8) (by kernel_rfl) Tryz.func6 (by kernel_rfl) (by decide) (by kernel_rfl) rfl Tryz.underlying4 rfl (fun ds h => by match ds, h with | [_, _, _], _ => rfl) goes hval hW hw ⟨hL, hO⟩
theorem said : Rows.StatsdFormsSaid :=
  OpenClaim.holds_of_cond 6 Tryz.f6 rfl rfl rfl rfl rfl rfl rfl ⟨rfl, rfl, rfl, rfl, rfl⟩ rfl rfl rfl rfl rfl (by kernel_rfl) Tryz.func6 (by kernel_rfl)
    (of_decide_eq_true (by kernel_rfl)) (by unfold Func.isWrapper; first | (rw [if_pos (by decide +kernel)]; kernel_rfl) | (rw [if_neg (by decide +kernel)]; exact ⟨rfl, rfl⟩))
    (fun os started H enc _ F => by rw [OpenClaim.pre_eq_preRow]; exact lifted os started H enc F)
theorem plain (f : FuncId) (fn : Func) (hf : Tryz.pinned.checked.prog.funcNamed "forebay/forebaylaw10.StatsdForms" = some f) (hfn : Tryz.pinned.checked.prog.funcs[f]? = some fn) :
    false = Tryz.pinned.checked.prog.looks [] ∧ ∀ (j : Nat) t, fn.params[j]? = some t → Tryz.pinned.checked.prog.wantsStandIn t = false := by
  obtain rfl : f = 6 := Option.some.inj ((show Tryz.prog.funcNamed "forebay/forebaylaw10.StatsdForms" = some 6 by kernel_rfl).symm.trans hf) |>.symm
  obtain rfl : fn = Tryz.f6 := (Option.some.inj (Tryz.func6.symm.trans hfn)).symm
  refine ⟨by kernel_rfl, fun j t ht => ?_⟩
  have hm : t ∈ ([25, 45, 4] : List TypeId) := by
    rw [Tryz.params6] at ht
    have := Array.mem_of_getElem? ht
    simpa using this
  have all : ∀ x ∈ ([25, 45, 4] : List TypeId), Tryz.prog.wantsStandIn x = false := fun x hx => by
    have h : ([25, 45, 4] : List TypeId).all (fun x => Tryz.prog.wantsStandIn x == false) = true := by kernel_rfl
    simpa using List.all_eq_true.1 h x hx
  exact all t hm
theorem proved : Rows.StatsdFormsCardSaid :=
  Claim7.holds_tied_plain_at .later [] _ _ _ _ said (fun _ h => by cases h) (by kernel_rfl) (fun _ h => by cases h) statsdForms_row_tie rfl ⟨rfl, rfl⟩ (by kernel_rfl) rfl plain (by kernel_rfl)
end Go.Proofs.YtihjdbcmbpoifaaGreatDoor.statsdForms
