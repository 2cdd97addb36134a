/- Part 5 of a proof by the abstract machine. -/
import Derived.Test.YtjnmlfffiibeiabGreatDoorQ4
import Derived.KernelRfl
import Derived.Test.YtjnmlfffiibeiabGreatDoorCards
import Derived.Test.YtjnmlfffiibeiabGreatDoorTie
import Derived.OpenShut
set_option linter.unusedVariables false
set_option linter.unusedSimpArgs false
namespace Go.AM
def outR (r : DecR) : ParseR := if r.2.1 = 0 then (r.1, (0, 0, ()), ()) else ((false, 0, 0, ()), (r.2.1, 0, ()), ())
def badR (f : FaultR) : ParseR := ((false, 0, 0, ()), f, ())
def aheadD (s : List UInt8) : List UInt8 := tw (s.drop (p0 s))
def behindD (s : List UInt8) : List UInt8 := if (s.drop (p1q (p0 s) s)).head? = some 46 then tw (s.drop (p1q (p0 s) s + 1)) else []
def negD (s : List UInt8) : Bool := decide (s.head? = some 45)
def parseR (s : List UInt8) : ParseR :=
  if (lookR s).1 = 0 then outR (valR (negD s) (aheadD s ++ behindD s) (-((behindD s).length : Int))) else badR (lookR s)
theorem valR_code (neg : Bool) (d : List UInt8) (e : Int) : (valR neg d e).2.1 = 0 ∨ (valR neg d e).2.1 = 10 ∧ (valR neg d e).1 = (false, 0, 0, ()) := by
  unfold valR zeroD normR
  by_cases h : val d = 0
  · rw [if_pos h]; exact Or.inl rfl
  · rw [if_neg h]
    split
    · exact Or.inr ⟨rfl, rfl⟩
    · split
      · exact Or.inl rfl
      · exact Or.inr ⟨rfl, rfl⟩
theorem valR_same {d d' : List UInt8} (hd : Digs d) (hd' : Digs d') (h : val d = val d') (neg : Bool) (e : Int) : valR neg d e = valR neg d' e := by
  by_cases h0 : val d = 0
  · unfold valR
    rw [if_pos h0, if_pos (h ▸ h0)]
  · obtain ⟨c0, z, h1, h2⟩ := ten_split (val d) (by omega)
    rw [valR_core hd h2 h1, valR_core hd' h2 (h ▸ h1)]
theorem valR_big {d : List UInt8} (hd : Digs d) (h : two64 ≤ val d) (ht : trz d = d) (neg : Bool) (e : Int) : valR neg d e = ((false, 0, 0, ()), 10, ()) := by
  have h0 : val d ≠ 0 := by rw [two64_eq] at h; omega
  have hc := core_trz hd h0
  rw [ht] at hc
  rw [valR_core hd hc (z := 0) (by simp)]
  unfold normR
  split
  · rfl
  · rw [if_neg]
    have := Nat.le_mul_of_pos_right (val d) (Nat.pow_pos (n := (e + ((0 : Nat) : Int) - 18).toNat) (show 0 < 10 by omega))
    omega
end Go.AM
set_option linter.unusedVariables false
set_option linter.unusedSimpArgs false
namespace Go.AM
theorem coef_loop (n : Nat) (X : Type) (k0 : Bool → Int → Int → Int → Int → Int → Int → Bool → Int → Int → Option X) (s : List UInt8) (hs : s.length < 4611686018427387904) (b : Bool) (x1 x2 x3 x4 x5 x6 : Int) (neg : Bool) (E : Int) : ∀ (r : List UInt8) (k m : Nat), s.drop k = r → k ≤ s.length → r.length < m → Digs r → val (s.take k) < two64 →
    F.dec_Parse.L14 n k0 m s (s.length : Int) (k : Int) b x1 x2 x3 x4 x5 x6 neg (val (s.take k) : Int) E = if val s < two64 then k0 b x1 x2 x3 x4 x5 x6 neg (val s) E else k0 b x1 x2 x3 x4 x5 x6 neg 1 (-19) := by
  intro r
  induction r with
  | nil =>
    intro k m hk hkl hm hd hv
    have hk := drop_nil' hk
    obtain ⟨m, rfl⟩ : ∃ q, m = q + 1 := ⟨m - 1, by omega⟩
    show F.dec_Parse.L14.step n _ k0 _ _ _ _ _ _ _ _ _ _ _ _ _ = _
    unfold F.dec_Parse.L14.step
    rw [List.take_of_length_le hk] at hv ⊢
    rw [bif_neg (by omega), if_pos hv]
  | cons x r ih =>
    intro k m hk hkl hm hd hv
    obtain ⟨h1, h2, h3⟩ := drop_cons hk
    obtain ⟨d1, d2⟩ := digs_cons.1 hd
    have hx := isDig_iff.1 d1
    obtain ⟨m, rfl⟩ : ∃ q, m = q + 1 := ⟨m - 1, by omega⟩
    show F.dec_Parse.L14.step n (F.dec_Parse.L14 n k0 m) k0 _ _ _ _ _ _ _ _ _ _ _ _ _ = _
    unfold F.dec_Parse.L14.step
    have htk : s.take (k + 1) = s.take k ++ [x] := by rw [List.take_add_one, h2]; rfl
    have hvk : val (s.take (k + 1)) = val (s.take k) * 10 + dv x := by rw [htk, val_snoc]
    have hsv : val (s.take (k + 1)) ≤ val s := by
      have e : s = s.take (k + 1) ++ s.drop (k + 1) := (List.take_append_drop _ _).symm
      have h5 : val s = val (s.take (k + 1)) * 10 ^ (s.drop (k + 1)).length + val (s.drop (k + 1)) := by
        conv => lhs; rw [e]
        rw [val_append]
      have := Nat.le_mul_of_pos_right (val (s.take (k + 1))) (Nat.pow_pos (n := (s.drop (k + 1)).length) (show 0 < 10 by omega))
      omega
    have hdl := dv_lt d1
    have hdx : IntKind.wrap .u64 (IntKind.wrap .u8 ((x.toNat : Int) - 48)) = (dv x : Int) := by
      have h8 : IntKind.wrap .u8 ((x.toNat : Int) - 48) = (x.toNat : Int) - 48 := IntWalk.u8_in _ (by omega)
      rw [h8, IntWalk.u64_in _ (by omega)]; unfold dv; omega
    rw [bif_pos (by omega), idx_nat, h2, some_bind', hdx, times_eq n _ _ hv (by rw [two64_eq]; omega), some_bind', ← hvk, wrap_succ (by omega)]
    by_cases hf : val (s.take (k + 1)) < two64
    · simp only [hf, decide_true, Bool.not_true, cond_false, Nat.mod_eq_of_lt hf]
      exact ih (k + 1) m h3 (by omega) (by simp at hm; omega) d2 hf
    · simp only [hf, decide_false, Bool.not_false, cond_true]
      rw [if_neg (by omega)]
theorem cutPrefix_one (n : Nat) (s : List UInt8) : F.strings_CutPrefix n s [45] = some (s.drop (p0 s), negD s, ()) := by
  unfold F.strings_CutPrefix F.stringslite_CutPrefix
  have hp : F.stringslite_HasPrefix n s [45] = some (decide (s.head? = some 45)) := by
    have := hasPrefix_one n s 45
    unfold F.strings_HasPrefix at this
    cases e : F.stringslite_HasPrefix n s [45] with
    | none => rw [e] at this; cases this
    | some b => rw [e] at this; exact this
  rw [hp, some_bind']
  unfold p0 negD
  by_cases h : s.head? = some 45
  · have hl : 1 ≤ s.length := by cases s with | nil => simp at h | cons => simp
    have hsub : sub s ((([45] : List UInt8).length : Nat) : Int) (s.length : Int) = some (s.drop 1) := by
      have := sub_nat s 1 s.length hl (Nat.le_refl _)
      rw [List.take_length] at this
      exact this
    rw [decide_eq_true h, Bool.not_true, cond_false, hsub, if_pos h]
    rfl
  · rw [decide_eq_false h, Bool.not_false, cond_true, if_neg h]
    rfl
theorem idxByte_app {a t : List UInt8} (ha : Digs a) : Lib.indexByte (a ++ 46 :: t) 46 = (a.length : Int) := by
  induction a with
  | nil => simp [Lib.indexByte]
  | cons b a ih =>
    obtain ⟨h1, h2⟩ := digs_cons.1 ha
    have hb : ¬ b = 46 := fun h => by subst h; simp [isDig] at h1
    have := ih h2
    simp only [List.cons_append, Lib.indexByte, beq_iff_eq, hb, if_false, this]
    have hne : ¬ (a.length : Int) = -1 := by omega
    simp [hne]
theorem idxByte_no {a : List UInt8} (ha : Digs a) : Lib.indexByte a 46 = -1 := by
  induction a with
  | nil => rfl
  | cons b a ih =>
    obtain ⟨h1, h2⟩ := digs_cons.1 ha
    have hb : ¬ b = 46 := fun h => by subst h; simp [isDig] at h1
    simp [Lib.indexByte, hb, ih h2]
theorem look_ok {s : List UInt8} (h : (lookR s).1 = 0) : lookR s = (0, 0, ()) ∧ aheadD s ≠ [] ∧
    ((s.drop (p0 s) = aheadD s ∧ behindD s = []) ∨ (s.drop (p0 s) = aheadD s ++ 46 :: behindD s ∧ behindD s ≠ [])) := by
  unfold lookR lookQ at h ⊢
  have split := tw_split (s.drop (p0 s))
  rw [List.drop_drop] at split
  have hle := p1_le (p0_le s)
  by_cases hp : p0 s < p1q (p0 s) s ∧ (s.drop (p1q (p0 s) s)).head? = some 46
  · rw [if_pos hp] at h ⊢
    unfold endR at h ⊢
    by_cases h3 : p1q (p0 s) s + 1 < p3q (p0 s) s ∧ p3q (p0 s) s = s.length
    · rw [if_pos h3]
      refine ⟨rfl, ?_, Or.inr ?_⟩
      · intro hh
        have : (tw (s.drop (p0 s))).length = 0 := by unfold aheadD at hh; rw [hh]; rfl
        have := hp.1
        unfold p1q at this
        omega
      · have hb : behindD s = tw (s.drop (p1q (p0 s) s + 1)) := by unfold behindD; rw [if_pos hp.2]
        have h2 := tw_split (s.drop (p1q (p0 s) s + 1))
        rw [List.drop_drop] at h2
        have h4 : s.drop (p1q (p0 s) s + 1 + (tw (s.drop (p1q (p0 s) s + 1))).length) = [] := List.drop_eq_nil_of_le (by
          have h5 := h3.2
          unfold p3q at h5
          omega)
        rw [h4, List.append_nil] at h2
        have h5 : s.drop (p1q (p0 s) s) = 46 :: s.drop (p1q (p0 s) s + 1) := by
          cases e : s.drop (p1q (p0 s) s) with
          | nil => rw [e] at hp; simp at hp
          | cons c r =>
            rw [e] at hp
            have hc : c = 46 := by simpa using hp.2
            subst hc
            obtain ⟨_, _, g3⟩ := drop_cons e
            rw [g3]
        refine ⟨?_, ?_⟩
        · rw [split]
          have : s.drop (p0 s + (tw (s.drop (p0 s))).length) = s.drop (p1q (p0 s) s) := rfl
          rw [this, h5, hb, ← h2]
          rfl
        · rw [hb]
          intro hh
          have h6 := h3.1
          unfold p3q at h6
          rw [hh] at h6
          simp at h6
    · rw [if_neg h3] at h
      split at h <;> cases h
  · rw [if_neg hp] at h ⊢
    unfold endR at h ⊢
    by_cases h3 : p0 s < p1q (p0 s) s ∧ p1q (p0 s) s = s.length
    · rw [if_pos h3]
      have hd : s.drop (p1q (p0 s) s) = [] := List.drop_eq_nil_of_le (by omega)
      refine ⟨rfl, ?_, Or.inl ⟨?_, ?_⟩⟩
      · intro hh
        have : (tw (s.drop (p0 s))).length = 0 := by unfold aheadD at hh; rw [hh]; rfl
        have := h3.1
        unfold p1q at this
        omega
      · have : s.drop (p0 s + (tw (s.drop (p0 s))).length) = s.drop (p1q (p0 s) s) := rfl
        rw [this, hd, List.append_nil] at split
        exact split
      · unfold behindD
        rw [hd]
        simp
    · rw [if_neg h3] at h
      split at h <;> cases h
theorem behind_digs (s : List UInt8) : Digs (behindD s) := by
  unfold behindD
  split
  · exact tw_digs _
  · rfl
theorem cut_point (n : Nat) {s : List UInt8} (hs : s.length ≤ 10000) (h : (lookR s).1 = 0) : ∃ f, F.strings_Cut n (s.drop (p0 s)) [46] = some (aheadD s, behindD s, f, ()) := by
  obtain ⟨_, _, h3⟩ := look_ok h
  unfold F.strings_Cut F.stringslite_Cut O.index1
  rcases h3 with ⟨a, b⟩ | ⟨a, b⟩
  · have hi : Lib.indexByte (aheadD s) 46 = -1 := idxByte_no (tw_digs _)
    rw [a, b]
    simp only [some_bind']
    rw [hi]
    exact ⟨false, rfl⟩
  · have hl : (aheadD s ++ 46 :: behindD s).length ≤ 10000 := by rw [← a]; simp; omega
    have hl2 : (aheadD s).length + ((behindD s).length + 1) ≤ 10000 := by simpa using hl
    have hi : Lib.indexByte (aheadD s ++ 46 :: behindD s) 46 = ((aheadD s).length : Int) := idxByte_app (tw_digs _)
    rw [a]
    simp only [some_bind']
    rw [hi]
    have s1 : sub (aheadD s ++ 46 :: behindD s) 0 ((aheadD s).length : Int) = some (aheadD s) := by
      have := sub_nat (aheadD s ++ 46 :: behindD s) 0 (aheadD s).length (by omega) (by simp)
      rw [List.drop_zero, List.take_left'] at this
      · exact this
      · rfl
    have hdr : (aheadD s ++ 46 :: behindD s).drop ((aheadD s).length + 1) = behindD s := by
      rw [List.drop_append, List.drop_eq_nil_of_le (by omega), List.nil_append, show (aheadD s).length + 1 - (aheadD s).length = 1 from by omega]
      rfl
    have s2 : sub (aheadD s ++ 46 :: behindD s) (((aheadD s).length + 1 : Nat) : Int) ((aheadD s ++ 46 :: behindD s).length : Int) = some (behindD s) := by
      have := sub_nat (aheadD s ++ 46 :: behindD s) ((aheadD s).length + 1) (aheadD s ++ 46 :: behindD s).length (by simp) (Nat.le_refl _)
      rw [List.take_length, hdr] at this
      exact this
    have hw : IntKind.wrap .i64 (((aheadD s).length : Int) + ((([46] : List UInt8).length : Nat) : Int)) = (((aheadD s).length + 1 : Nat) : Int) := wrap_succ (by omega)
    rw [bif_pos (by omega), s1, some_bind', hw, s2]
    exact ⟨true, rfl⟩
theorem trimR_eq (n : Nat) {s : List UInt8} (h : s.length ≤ 10000) : O.trimR n s [48] = some (trz s) := by
  unfold O.trimR
  have hb : (Nat.blt (48 : UInt8).toNat 128 && Nat.ble s.length big47) = true := by
    rw [Bool.and_eq_true, Nat.ble_eq]
    exact ⟨rfl, by unfold big47; omega⟩
  simp only [hb, cond_true, trimR_trz]
theorem trimL_eq (n : Nat) {s : List UInt8} (h : s.length ≤ 10000) : O.trimL n s [48] = some (lz s) := by
  unfold O.trimL
  have hb : (Nat.blt (48 : UInt8).toNat 128 && Nat.ble s.length big47) = true := by
    rw [Bool.and_eq_true, Nat.ble_eq]
    exact ⟨rfl, by unfold big47; omega⟩
  simp only [hb, cond_true]
  rfl
theorem trz_trz (d : List UInt8) : trz (trz d) = trz d := trz_self (fun x hx => trz_last hx)
theorem valR_lz (neg : Bool) {d : List UInt8} (hd : Digs d) (e : Int) : valR neg (lz d) e = valR neg d e := valR_same (lz_digs hd) hd (lz_val d) neg e
theorem coef_out (n : Nat) (hn : 200000 ≤ n) (neg : Bool) (d : List UInt8) (hd : Digs d) (hl : d.length ≤ 10000) (E : Int) (hE : -100000 ≤ E ∧ E ≤ 100000) (ht : trz d = d) (x1 x2 x3 x4 x5 x6 : Int) :
    F.dec_Parse.L14 n
                        (fun e9_b0_0 e9_b0_1 e9_b0_2 e9_b1_0 e9_b1_1 e9_b2_0 e9_b2_1 e9_b3_0 e9_b3_1 e9_b3_2 =>
                          (F.dec_Normal n (e9_b3_0, e9_b3_1, e9_b3_2, ())).bind fun y10 =>
                            bif !(y10.2.1 == (0 : Int)) then
                              some (((false, (0 : Int), (0 : Int), ()), (y10.2.1, (0 : Int), ()), ()))
                            else
                              some (((y10.1.1, y10.1.2.1, y10.1.2.2.1, ()), ((0 : Int), (0 : Int), ()), ()))) n d (d.length : Int) (0 : Int) false x1 x2 x3 x4 x5 x6 neg (0 : Int) E
    = some (outR (valR neg d E)) := by
  refine (coef_loop n _ _ d (by omega) false x1 x2 x3 x4 x5 x6 neg E d 0 n rfl (by omega) (by omega) hd (by rw [List.take_zero, val_nil, two64_eq]; omega)).trans ?_
  have out : ∀ r : DecR, (r.2.1 = 0 ∨ r.2.1 = 10 ∧ r.1 = (false, 0, 0, ())) → ((some r).bind fun y10 =>
                            bif !(y10.2.1 == (0 : Int)) then
                              some (((false, (0 : Int), (0 : Int), ()), (y10.2.1, (0 : Int), ()), ()))
                            else
                              some (((y10.1.1, y10.1.2.1, y10.1.2.2.1, ()), ((0 : Int), (0 : Int), ()), ()))) = some (outR r) := by
    intro r hr
    rw [some_bind']
    unfold outR
    rcases hr with h | ⟨h1, h2⟩
    · rw [h, if_pos rfl]; rfl
    · rw [h1, if_neg (by decide)]; rfl
  by_cases hv : val d < two64
  · rw [if_pos hv, normal_eq n (by omega) neg _ hv E (by omega), valR_same (dd_digs _) hd (dd_val _)]
    exact out _ (valR_code neg d E)
  · have h19 := normal_eq n (by omega) neg 1 (by decide) (-19) (by omega)
    have hb := valR_big hd (by omega) ht neg E
    rw [if_neg hv, show (1 : Int) = ((1 : Nat) : Int) from rfl, h19, hb]
    have e1 : valR neg (Lib.decDigits 1) (-19) = ((false, 0, 0, ()), 10, ()) := by
      rw [valR_core (dd_digs 1) (c0 := 1) (z := 0) (by decide) (by rw [dd_val])]
      unfold normR
      rw [if_pos (by omega)]
    rw [e1]
    exact out _ (Or.inr ⟨rfl, rfl⟩)
theorem decparse_eq (n : Nat) (hn : 200000 ≤ n) (s : List UInt8) (hs : s.length ≤ 10000) : F.dec_Parse n s = some (parseR s) := by
  unfold F.dec_Parse
  rw [look_eq n s (by omega) (by omega), some_bind']
  by_cases h : (lookR s).1 = 0
  · obtain ⟨h1, h2, h3⟩ := look_ok h
    obtain ⟨f, hcut⟩ := cut_point n hs h
    have e0 : (!((0 : Int) == 0 && (0 : Int) == 0)) = false := rfl
    rw [h1]
    simp only [e0, cond_false]
    rw [cutPrefix_one, some_bind']
    simp only [hcut, some_bind']
    have ha : Digs (aheadD s) := tw_digs _
    have hb := behind_digs s
    have hlen : (aheadD s).length + (behindD s).length ≤ 10000 := by
      have hd : (s.drop (p0 s)).length ≤ 10000 := by simp; omega
      rcases h3 with ⟨a, b⟩ | ⟨a, b⟩
      · rw [b]; rw [a] at hd; simpa using hd
      · rw [a] at hd; simp at hd; omega
    unfold parseR
    rw [if_pos h]
    generalize aheadD s = a at *
    generalize behindD s = b at *
    have htb := trz_le b
    rw [trimR_eq n (by omega), some_bind', bif_pos (by rw [strMax_eq]; omega), trimL_eq n (by simp; omega), some_bind']
    have hab : Digs (a ++ trz b) := digs_append.2 ⟨ha, trz_digs hb⟩
    have hall := lz_le (a ++ trz b)
    have hallL : (lz (a ++ trz b)).length ≤ a.length + (trz b).length := by simpa using hall
    have hts := trz_le (lz (a ++ trz b))
    rw [trimR_eq n (by omega), some_bind']
    have hval : valR (negD s) (lz (a ++ trz b)) (-((trz b).length : Int)) = valR (negD s) (a ++ b) (-(b.length : Int)) := by
      rw [valR_lz _ hab]
      have hpad := trz_pad b
      conv => rhs; rw [hpad]
      rw [← List.append_assoc, valR_zeros_right _ hab]
      congr 1
      simp
      omega
    have hD := lz_digs hab
    have hw : IntKind.wrap .i64 (0 - ((trz b).length : Int)) = -((trz b).length : Int) := by rw [wrap_in (by omega)]; omega
    rw [hw]
    by_cases hz : (trz b).length = 0
    · have ez : (-((trz b).length : Int) == 0) = true := by simp [hz]
      rw [ez, cond_true]
      by_cases hsh : (trz (lz (a ++ trz b))).length < (lz (a ++ trz b)).length
      · have hw2 : IntKind.wrap .i64 (((lz (a ++ trz b)).length : Int) - ((trz (lz (a ++ trz b))).length : Int)) = (((lz (a ++ trz b)).length - (trz (lz (a ++ trz b))).length : Nat) : Int) := by rw [wrap_in (by omega)]; omega
        rw [bif_pos (by omega), hw2]
        have := coef_out n hn (negD s) _ (trz_digs hD) (by omega) (((lz (a ++ trz b)).length - (trz (lz (a ++ trz b))).length : Nat) : Int) (by omega) (trz_trz _) 0 0 0 0 0 0
        refine this.trans ?_
        congr 2
        rw [← hval, hz]
        have hpad := trz_pad (lz (a ++ trz b))
        conv => rhs; rw [hpad]
        rw [valR_zeros_right _ (trz_digs hD)]
        congr 1
        omega
      · have hq : trz (lz (a ++ trz b)) = lz (a ++ trz b) := by
          have hpad := trz_pad (lz (a ++ trz b))
          rw [show (lz (a ++ trz b)).length - (trz (lz (a ++ trz b))).length = 0 from by omega, List.replicate_zero, List.append_nil] at hpad
          exact hpad.symm
        rw [bif_neg (by omega)]
        have := coef_out n hn (negD s) _ hD (by omega) (-((trz b).length : Int)) (by omega) hq 0 0 0 0 0 0
        refine this.trans ?_
        rw [hval]
    · have ez : (-((trz b).length : Int) == 0) = false := by
        have : ¬ (-((trz b).length : Int)) = 0 := by omega
        simpa using this
      rw [ez, cond_false]
      have hq : trz (lz (a ++ trz b)) = lz (a ++ trz b) := by
        refine trz_self fun x hx => ?_
        have hrep := lz_rep (a ++ trz b)
        have hlast : (a ++ trz b).getLast? = some x := by
          rw [hrep, List.getLast?_append, hx]; rfl
        rw [List.getLast?_append] at hlast
        cases e : (trz b).getLast? with
        | none => simp at e; rw [e] at hz; simp at hz
        | some y =>
          rw [e] at hlast
          have hy : y = x := by simpa using hlast
          rw [← hy]
          exact trz_last e
      have := coef_out n hn (negD s) _ hD (by omega) (-((trz b).length : Int)) (by omega) hq 0 0 0 0 0 0
      refine this.trans ?_
      rw [hval]
  · have e : ((lookR s).1 == 0) = false := by simpa using h
    unfold parseR
    rw [if_neg h, e]
    rfl
end Go.AM
set_option linter.unusedVariables false
set_option linter.unusedSimpArgs false
namespace Go.AM
def checkR (neg : Bool) (c : Nat) (e : Int) : Int :=
  if c ≠ 0 ∧ (e < -18 ∨ e > 18) then 10 else if (valR neg (Lib.decDigits c) e).2.1 = 0 ∧ (valR neg (Lib.decDigits c) e).1 = (neg, (c : Int), e, ()) then 0 else 21
end Go.AM
set_option linter.unusedVariables false
set_option linter.unusedSimpArgs false
namespace Go.AM
theorem bif_some {α : Type} (b : Bool) (u v : α) : (bif b then some u else some v) = some (bif b then u else v) := by cases b <;> rfl
def btw (x lo hi : Int) : Bool := decide (lo ≤ x) && decide (x ≤ hi)
def wordI (x : Int) : Bool := btw x 65 90 || (btw x 97 122 || (x == 95 || (x == 46 || (x == 45 || btw x 48 57))))
def cls (c : Int) (b : UInt8) : Bool :=
  bif c == 3 then btw b.toNat 33 126 && (!((b.toNat : Int) == 44) && !((b.toNat : Int) == 124))
  else bif c == 2 then ((b.toNat : Int) == 47) || wordI b.toNat
  else bif c == 1 then wordI b.toNat
  else (c == 4) && btw b.toNat 48 57
def may (c : Int) : Bool := decide (1 ≤ c) && decide (c ≤ 4)
theorem cls4 (b : UInt8) : cls 4 b = isDig b := by
  unfold cls isDig btw
  simp
  congr 1 <;> simp only [decide_eq_decide] <;> omega
theorem may_cls (n : Nat) (c : Int) : F.class_may n c = some (may c) := by
  unfold F.class_may may
  by_cases h : 1 ≤ c
  · rw [bif_pos (by omega)]; simp [h]
  · rw [bif_neg (by omega)]; simp [h]
theorem between_eq (n : Nat) (x lo hi : Int) : F.class_between n x lo hi = some (btw x lo hi) := by
  unfold F.class_between btw
  by_cases h : lo ≤ x
  · rw [bif_pos (by omega)]; simp [h]
  · rw [bif_neg (by omega)]; simp [h]
theorem is_eq (n : Nat) (c : Int) (b : UInt8) : F.class_Is n c (b.toNat) = some (cls c b) := by
  unfold F.class_Is cls wordI
  simp only [between_eq, some_bind', bif_some]
  congr 1
  cases c == 3 <;> cases c == 2 <;> cases c == 1 <;> cases c == 4 <;> generalize hx : (b.toNat : Int) = x <;> clear hx <;>
    (cases btw x 33 126 <;> cases x == 44 <;> cases btw x 65 90 <;> cases btw x 97 122 <;> cases x == 95 <;> cases x == 46 <;> cases x == 45 <;> cases x == 47 <;> rfl)
def badK (p : UInt8 → Bool) : Nat → List UInt8 → Int
  | _, [] => -1
  | k, b :: l => if p b then badK p (k + 1) l else (k : Int)
theorem badK_ge (p : UInt8 → Bool) (k : Nat) (l : List UInt8) : 0 ≤ badK p k l ↔ ¬ l.all p = true := by
  induction l generalizing k with
  | nil => simp [badK]
  | cons b l ih =>
    unfold badK
    by_cases h : p b = true
    · rw [if_pos h, ih]; simp [h]
    · rw [if_neg h]; simp [h]
theorem badK_neg (p : UInt8 → Bool) (k : Nat) (l : List UInt8) (h : l.all p = true) : badK p k l = -1 := by
  induction l generalizing k with
  | nil => rfl
  | cons b l ih =>
    simp only [List.all_cons, Bool.and_eq_true] at h
    unfold badK
    rw [if_pos h.1, ih _ h.2]
theorem badK_hi (p : UInt8 → Bool) (k : Nat) (l : List UInt8) : badK p k l < k + l.length ∨ badK p k l = -1 := by
  induction l generalizing k with
  | nil => exact Or.inr rfl
  | cons b l ih =>
    unfold badK
    by_cases hb : p b = true
    · rw [if_pos hb]; have := ih (k + 1); simp; omega
    · rw [if_neg hb]; simp; omega
theorem bad_cls_loop (n : Nat) (X : Type) (k0 : Unit → Option X) (kr : Int → Int → Option X) (c : Int) (s : List UInt8) (hs : s.length < 4611686018427387904) : ∀ (r : List UInt8) (k m : Nat), s.drop k = r → r.length < m →
    F.class_Bad.L4 n k0 kr m c s (s.length : Int) (k : Int) = if 0 ≤ badK (cls c) k r then kr (badK (cls c) k r) 0 else k0 () := by
  intro r
  induction r with
  | nil =>
    intro k m hk hm
    have := drop_nil' hk
    cases m with
    | zero => simp at hm
    | succ m =>
      show F.class_Bad.L4.step n _ k0 kr c s _ k = _
      unfold F.class_Bad.L4.step
      rw [bif_neg (by omega)]
      rfl
  | cons x r ih =>
    intro k m hk hm
    obtain ⟨h1, h2, h3⟩ := drop_cons hk
    cases m with
    | zero => simp at hm
    | succ m =>
      show F.class_Bad.L4.step n (F.class_Bad.L4 n k0 kr m) k0 kr c s _ k = _
      unfold F.class_Bad.L4.step
      rw [bif_pos (by omega), idx_nat, h2, some_bind', is_eq, some_bind']
      unfold badK
      by_cases hx : cls c x = true
      · rw [hx, if_pos rfl, wrap_succ (by omega), ih (k + 1) m h3 (by simp at hm; omega)]
        rfl
      · have hx : cls c x = false := by simpa using hx
        rw [hx]
        have : ¬ (false = true) := by simp
        rw [if_neg this, if_pos (by omega)]
        rfl
theorem bad_cls (n : Nat) (c : Int) (s : List UInt8) (hs : s.length < 4611686018427387904) (hn : s.length < n) : F.class_Bad n c s = some (bif may c then (badK (cls c) 0 s, 0, ()) else (0, 1, ())) := by
  unfold F.class_Bad
  rw [may_cls, some_bind']
  cases hm : may c
  · rfl
  · simp only [Bool.not_true, cond_false]
    refine (bad_cls_loop n _ _ _ c s hs s 0 n rfl hn).trans ?_
    by_cases h : 0 ≤ badK (cls c) 0 s
    · rw [if_pos h]; rfl
    · rw [if_neg h]
      have : s.all (cls c) = true := Classical.byContradiction fun hh => h ((badK_ge _ _ _).2 hh)
      rw [badK_neg _ _ _ this]; rfl
def textF (c : Int) (s : List UInt8) (lo hi : Int) : Int × Int × Unit :=
  if may c = false ∨ lo < 0 ∨ hi < lo then (1, 0, ()) else if (s.length : Int) < lo then (13, (s.length : Int), ()) else if (s.length : Int) > hi then (12, hi, ())
  else if 0 ≤ badK (cls c) 0 s then (14, badK (cls c) 0 s, ()) else (0, 0, ())
theorem text_cls (n : Nat) (c : Int) (s : List UInt8) (lo hi : Int) (hs : s.length < 4611686018427387904) (hn : s.length < n) : F.class_Text n c s lo hi = some (textF c s lo hi) := by
  unfold F.class_Text textF
  rw [bad_cls n c s hs hn, some_bind']
  cases hm : may c
  · rw [if_pos (Or.inl rfl)]; rfl
  · simp only [cond_true]
    have e : (!((0 : Int) == 0)) = false := rfl
    rw [e, cond_false]
    by_cases h1 : lo < 0
    · rw [bif_pos h1, if_pos (Or.inr (Or.inl h1))]
    · rw [bif_neg h1]
      by_cases h2 : hi < lo
      · rw [bif_pos h2, if_pos (Or.inr (Or.inr h2))]
      · rw [bif_neg h2, if_neg (by simp [h1, h2])]
        by_cases h3 : (s.length : Int) < lo
        · rw [bif_pos h3, if_pos h3]
        · rw [bif_neg h3, if_neg h3]
          by_cases h4 : (s.length : Int) > hi
          · rw [bif_pos h4, if_pos h4]
          · rw [bif_neg h4, if_neg h4]
            by_cases h5 : 0 ≤ badK (cls c) 0 s
            · rw [bif_pos (by omega), if_pos h5]
            · rw [bif_neg (by omega), if_neg h5]
def bytesOf (c : Int) : List UInt8 :=
  bif c == 1 then [65, 66, 67, 68, 69, 70, 71, 72, 73, 74, 75, 76, 77, 78, 79, 80, 81, 82, 83, 84, 85, 86, 87, 88, 89, 90, 97, 98, 99, 100, 101, 102, 103, 104, 105, 106, 107, 108, 109, 110, 111, 112, 113, 114, 115, 116, 117, 118, 119, 120, 121, 122, 48, 49, 50, 51, 52, 53, 54, 55, 56, 57, 95, 46, 45]
  else bif c == 2 then [65, 66, 67, 68, 69, 70, 71, 72, 73, 74, 75, 76, 77, 78, 79, 80, 81, 82, 83, 84, 85, 86, 87, 88, 89, 90, 97, 98, 99, 100, 101, 102, 103, 104, 105, 106, 107, 108, 109, 110, 111, 112, 113, 114, 115, 116, 117, 118, 119, 120, 121, 122, 48, 49, 50, 51, 52, 53, 54, 55, 56, 57, 95, 46, 45, 47]
  else bif c == 3 then [65, 66, 67, 68, 69, 70, 71, 72, 73, 74, 75, 76, 77, 78, 79, 80, 81, 82, 83, 84, 85, 86, 87, 88, 89, 90, 97, 98, 99, 100, 101, 102, 103, 104, 105, 106, 107, 108, 109, 110, 111, 112, 113, 114, 115, 116, 117, 118, 119, 120, 121, 122, 48, 49, 50, 51, 52, 53, 54, 55, 56, 57, 95, 46, 45, 47, 33, 34, 35, 36, 37, 38, 39, 40, 41, 42, 43, 58, 59, 60, 61, 62, 63, 64, 91, 92, 93, 94, 96, 123, 125, 126]
  else bif c == 4 then [48, 49, 50, 51, 52, 53, 54, 55, 56, 57] else []
end Go.AM
set_option linter.unusedVariables false
set_option linter.unusedSimpArgs false
namespace Go.AM
def seg (c : UInt8) (s : List UInt8) : List UInt8 := s.takeWhile (· != c)
theorem seg_cons (c b : UInt8) (s : List UInt8) : seg c (b :: s) = if b = c then [] else b :: seg c s := by
  unfold seg
  by_cases h : b = c
  · subst h; simp [List.takeWhile_cons]
  · simp [List.takeWhile_cons, h]
theorem seg_le (c : UInt8) (s : List UInt8) : (seg c s).length ≤ s.length := (List.takeWhile_sublist _).length_le
theorem seg_idx (c : UInt8) (s : List UInt8) : Lib.indexByte s c = if c ∈ s then ((seg c s).length : Int) else -1 := by
  induction s with
  | nil => simp [Lib.indexByte]
  | cons b s ih =>
    rw [seg_cons]
    simp only [Lib.indexByte, beq_iff_eq, List.mem_cons]
    by_cases h : b = c
    · subst h; simp
    · rw [if_neg h, ih]
      have h' : ¬ c = b := fun hh => h hh.symm
      by_cases hm : c ∈ s
      · rw [if_pos hm, if_pos (Or.inr hm), if_neg h]
        rw [if_neg (by omega), List.length_cons]
        omega
      · rw [if_neg hm, if_pos rfl, if_neg (by simp [h', hm])]
theorem seg_all {c : UInt8} {s : List UInt8} (h : c ∉ s) : seg c s = s := by
  induction s with
  | nil => rfl
  | cons b s ih =>
    rw [seg_cons, if_neg (fun hh => h (by simp [hh])), ih (fun hh => h (by simp [hh]))]
theorem seg_lt {c : UInt8} {s : List UInt8} (h : c ∈ s) : (seg c s).length < s.length := by
  induction s with
  | nil => simp at h
  | cons b s ih =>
    rw [seg_cons]
    by_cases hb : b = c
    · rw [if_pos hb]; simp
    · rw [if_neg hb]
      have : c ∈ s := by
        rcases List.mem_cons.1 h with rfl | h
        · exact absurd rfl hb
        · exact h
      have := ih this
      simp
      omega
theorem seg_take (c : UInt8) (s : List UInt8) : s.take (seg c s).length = seg c s := by
  induction s with
  | nil => rfl
  | cons b s ih =>
    rw [seg_cons]
    by_cases hb : b = c
    · rw [if_pos hb]; rfl
    · rw [if_neg hb]; simp [ih]
theorem cut_eq (n : Nat) (c : UInt8) {s : List UInt8} (hs : s.length ≤ 1000000) : F.strings_Cut n s [c] = some (seg c s, (if c ∈ s then s.drop ((seg c s).length + 1) else []), decide (c ∈ s), ()) := by
  unfold F.strings_Cut F.stringslite_Cut O.index1
  simp only [some_bind']
  rw [seg_idx]
  by_cases h : c ∈ s
  · have hl := seg_lt h
    have s1 : sub s 0 ((seg c s).length : Int) = some (seg c s) := by
      have := sub_nat s 0 (seg c s).length (by omega) (by omega)
      rw [List.drop_zero, seg_take] at this
      exact this
    have s2 : sub s (((seg c s).length + 1 : Nat) : Int) (s.length : Int) = some (s.drop ((seg c s).length + 1)) := by
      have := sub_nat s ((seg c s).length + 1) s.length (by omega) (Nat.le_refl _)
      rw [List.take_length] at this
      exact this
    have hw : IntKind.wrap .i64 (((seg c s).length : Int) + ((([c] : List UInt8).length : Nat) : Int)) = (((seg c s).length + 1 : Nat) : Int) := wrap_succ (by omega)
    simp only [h, if_true, decide_true]
    rw [bif_pos (by omega), s1, some_bind', hw, s2]
    rfl
  · simp only [h, if_false, decide_false]
    rw [bif_neg (by omega), seg_all h]
    rfl
theorem sub_tail {s : List UInt8} {p : Nat} (h : p ≤ s.length) : sub s (p : Int) (s.length : Int) = some (s.drop p) := by
  have := sub_nat s p s.length h (Nat.le_refl _)
  rw [List.take_length] at this
  exact this
def nextP (c : UInt8) (s : List UInt8) (p : Nat) : Nat := p + (seg c (s.drop p)).length + (if c ∈ s.drop p then 1 else 0)
theorem nextP_le {c : UInt8} {s : List UInt8} {p : Nat} (h : p ≤ s.length) : nextP c s p ≤ s.length := by
  unfold nextP
  by_cases hm : c ∈ s.drop p
  · have := seg_lt hm
    simp at this
    rw [if_pos hm]; omega
  · have := seg_le c (s.drop p)
    simp at this
    rw [if_neg hm]; omega
theorem parseR_at {s : List UInt8} (h : (parseR s).2.1.1 = 0) : (parseR s).2.1.2.1 = 0 := by
  unfold parseR outR badR at h ⊢
  split
  · rename_i h1
    rw [if_pos h1] at h
    split
    · rfl
    · rename_i h2
      rw [if_neg h2] at h
      first | done | exact absurd h h2
  · rename_i h1
    rw [if_neg h1] at h
    exact absurd h h1
theorem textF_at {c : Int} {s : List UInt8} {lo hi : Int} (h : (textF c s lo hi).1 = 0) : (textF c s lo hi).2.1 = 0 := by
  unfold textF at h ⊢
  by_cases h1 : may c = false ∨ lo < 0 ∨ hi < lo
  · rw [if_pos h1]
  rw [if_neg h1] at h ⊢
  by_cases h2 : (s.length : Int) < lo
  · rw [if_pos h2] at h; cases h
  rw [if_neg h2] at h ⊢
  by_cases h3 : (s.length : Int) > hi
  · rw [if_pos h3] at h; cases h
  rw [if_neg h3] at h ⊢
  by_cases h4 : 0 ≤ badK (cls c) 0 s
  · rw [if_pos h4] at h; cases h
  rw [if_neg h4]
abbrev MetD := List UInt8 × Int × List (Bool × Int × Int) × Int × List (List UInt8 × List UInt8) × Int × Unit
abbrev MetR := MetD × FaultR × Unit
end Go.AM
set_option linter.unusedVariables false
set_option linter.unusedSimpArgs false
namespace Go.AM
end Go.AM
set_option linter.unusedVariables false
set_option linter.unusedSimpArgs false
namespace Go.AM
end Go.AM
set_option linter.unusedVariables false
set_option linter.unusedSimpArgs false
namespace Go.AM
abbrev DecL := Bool × Int × Int
abbrev TagL := List UInt8 × List UInt8
def DecLOK (d : DecL) : Prop := True ∧ (0 ≤ d.2.1 ∧ d.2.1 ≤ 18446744073709551615) ∧ -9223372036854775808 ≤ d.2.2 ∧ d.2.2 ≤ 9223372036854775807
def decC (d : DecL) : Int := checkR d.1 d.2.1.toNat d.2.2
def nameOK (s : List UInt8) : Bool := (textF 1 s 1 200).1 == 0
def tagGood (t : TagL) : Bool := ((textF 2 t.1 1 64).1 == 0) && ((textF 3 t.2 0 100).1 == 0)
theorem textF_both (c : Int) (s : List UInt8) (lo hi : Int) : (((textF c s lo hi).1 == 0) && ((textF c s lo hi).2.1 == 0)) = ((textF c s lo hi).1 == 0) := by
  by_cases h : (textF c s lo hi).1 = 0
  · rw [h, textF_at h]; rfl
  · rw [beq_eq_false_iff_ne.2 h]; rfl
def TagLOK (t : TagL) : Prop := t.1.length ≤ 10000 ∧ t.2.length ≤ 10000
theorem tag_chk (n : Nat) (hn : 200000 ≤ n) {t : TagL} (h : TagLOK t) : F.tag_Check n (t.1, t.2, ()) = some (bif tagGood t then 0 else 19) := by
  obtain ⟨h1, h2⟩ := h
  unfold F.tag_Check tagGood
  simp only [text_cls n 2 t.1 1 64 (by omega) (by omega), text_cls n 3 t.2 0 100 (by omega) (by omega), some_bind', textF_both]
  cases ((textF 2 t.1 1 64).1 == 0) <;> cases ((textF 3 t.2 0 100).1 == 0) <;> rfl
def kindB (k : Int) : Bool := decide (1 ≤ k) && decide (k ≤ 5)
def valsB (vs : List DecL) : Bool := decide (1 ≤ vs.length) && (decide (vs.length ≤ 64) && vs.all fun d => decC d == 0)
def rateB (k r : Int) : Bool := decide (1 ≤ r) && (decide (r ≤ 1000000) && (!(k == 2) || r == 1000000))
def tagsB (ts : List TagL) : Bool := decide (ts.length ≤ 32) && ts.all tagGood
def timeB (t : Int) : Bool := decide (0 ≤ t) && decide (t ≤ 1099511627776)
def chkM (m : MetD) : Int :=
  bif !nameOK m.1 then 15 else bif !kindB m.2.1 then 16 else bif !valsB m.2.2.1 then 17 else bif !rateB m.2.1 m.2.2.2.1 then 18 else bif !tagsB m.2.2.2.2.1 then 19 else bif !timeB m.2.2.2.2.2.1 then 20 else 0
def MetOK (m : MetD) : Prop := m.1.length ≤ 10000 ∧ (m.2.2.1.length ≤ 10000 ∧ ∀ d ∈ m.2.2.1, DecLOK d) ∧ (m.2.2.2.2.1.length ≤ 10000 ∧ ∀ t ∈ m.2.2.2.2.1, TagLOK t)
end Go.AM
set_option linter.unusedVariables false
set_option linter.unusedSimpArgs false
namespace Go.AM
theorem nameOK_eq (s : List UInt8) : nameOK s = (s.all (cls 1) && (decide (1 ≤ s.length) && decide (s.length ≤ 200))) := by
  unfold nameOK textF
  rw [if_neg (by simp [may])]
  by_cases h1 : (s.length : Int) < 1
  · rw [if_pos h1]
    have : decide (1 ≤ s.length) = false := decide_eq_false (by omega)
    rw [this]; simp
  rw [if_neg h1]
  have e1 : decide (1 ≤ s.length) = true := decide_eq_true (by omega)
  by_cases h2 : (s.length : Int) > 200
  · rw [if_pos h2]
    have : decide (s.length ≤ 200) = false := decide_eq_false (by omega)
    rw [this]; simp
  rw [if_neg h2]
  have e2 : decide (s.length ≤ 200) = true := decide_eq_true (by omega)
  rw [e1, e2]
  by_cases h3 : 0 ≤ badK (cls 1) 0 s
  · rw [if_pos h3]
    have : s.all (cls 1) = false := by
      have := (badK_ge (cls 1) 0 s).1 h3
      simpa using this
    rw [this]; rfl
  · rw [if_neg h3]
    have : s.all (cls 1) = true := Classical.byContradiction fun hh => h3 ((badK_ge _ _ _).2 hh)
    rw [this]; rfl
end Go.AM
set_option linter.unusedVariables false
set_option linter.unusedSimpArgs false
namespace Go.AM
end Go.AM
set_option linter.unusedVariables false
set_option linter.unusedSimpArgs false
namespace Go.AM
end Go.AM
set_option linter.unusedVariables false
set_option linter.unusedSimpArgs false
namespace Go.AM
end Go.AM
set_option linter.unusedVariables false
set_option linter.unusedSimpArgs false
namespace Go.AM
theorem chk_zero {m : MetD} (h : chkM m = 0) : nameOK m.1 = true ∧ kindB m.2.1 = true ∧ valsB m.2.2.1 = true ∧ rateB m.2.1 m.2.2.2.1 = true ∧ tagsB m.2.2.2.2.1 = true ∧ timeB m.2.2.2.2.2.1 = true := by
  unfold chkM at h
  revert h
  cases nameOK m.1 <;> cases kindB m.2.1 <;> cases valsB m.2.2.1 <;> cases rateB m.2.1 m.2.2.2.1 <;> cases tagsB m.2.2.2.2.1 <;> cases timeB m.2.2.2.2.2.1 <;> simp
end Go.AM
set_option linter.unusedVariables false
set_option linter.unusedSimpArgs false
namespace Go.AM
end Go.AM
set_option linter.unusedVariables false
set_option linter.unusedSimpArgs false
namespace Go.AM
abbrev NumR := Int × (Int × Int × Unit) × Unit
def numR (v c at' : Int) : NumR := (v, (c, at', ()), ())
theorem cls4_fun : cls 4 = isDig := funext cls4
theorem fault_eq (n : Nat) (c a : Int) : F.num_fault n c a = some (0, (c, a, ()), ()) := rfl
theorem digs_of_bad {s : List UInt8} {k : Nat} (h : ¬ 0 ≤ badK isDig k s) : Digs s := Classical.byContradiction fun hh => h ((badK_ge _ _ _).2 hh)
theorem textF4 (s : List UInt8) (hs : s.length < 4611686018427387904) : textF 4 s 1 (IntKind.wrap .i64 ((s.length : Int) + 1)) = if s = [] then (13, 0, ()) else if 0 ≤ badK isDig 0 s then (14, badK isDig 0 s, ()) else (0, 0, ()) := by
  unfold textF
  rw [wrap_succ hs, cls4_fun]
  have hm : may 4 = true := rfl
  rw [if_neg (by simp [hm]; omega)]
  cases s with
  | nil => rfl
  | cons b s =>
    rw [if_neg (show ¬ (((b :: s).length : Nat) : Int) < 1 from by simp; omega), if_neg (show ¬ (((b :: s).length : Nat) : Int) > (((b :: s).length + 1 : Nat) : Int) from by omega), if_neg (show ¬ (b :: s = []) from by simp)]
end Go.AM
set_option linter.unusedVariables false
set_option linter.unusedSimpArgs false
namespace Go.AM
def pad6 (k : Nat) : List UInt8 := (Lib.decDigits (1000000 + k)).drop 1
theorem pad6_all {k : Nat} (h : k < 1000000) : Lib.decDigits (1000000 + k) = 49 :: pad6 k ∧ (pad6 k).length = 6 ∧ Digs (pad6 k) ∧ val (pad6 k) = k := by
  have hN : (Lib.decDigits (1000000 + k)).length = 7 := by rw [dd_length]; exact Lib.nDigits_unique 6 _ (by omega) (by omega)
  have hd := dd_digs (1000000 + k)
  have hv := dd_val (1000000 + k)
  unfold pad6
  cases e : Lib.decDigits (1000000 + k) with
  | nil => rw [e] at hN; simp at hN
  | cons b r =>
    rw [e] at hN hd hv
    have hr : r.length = 6 := by simpa using hN
    obtain ⟨d1, d2⟩ := digs_cons.1 hd
    have := val_lt d2
    rw [hr] at this
    rw [val_cons, hr] at hv
    have hb : dv b = 1 := by omega
    have : b = 49 := dv_inj d1 rfl hb
    subst this
    refine ⟨rfl, hr, d2, ?_⟩
    show val r = k
    omega
def rateText (k : Int) : List UInt8 × Int × Unit :=
  if k < 1 ∨ k > 1000000 then ([], 10, ()) else if k = 1000000 then ([49], 0, ()) else ([48, 46] ++ trz (pad6 k.toNat), 0, ())
def rateR (s : List UInt8) : NumR :=
  if s = [49] then numR 1000000 0 0 else if s = [] then numR 0 13 0 else if s.head? ≠ some 48 then numR 0 11 0 else if (s.drop 1).head? ≠ some 46 then numR 0 11 1
  else if s.drop 2 = [] then numR 0 13 2 else if 0 ≤ badK isDig 0 (s.drop 2) then numR 0 14 (2 + badK isDig 0 (s.drop 2)) else if 6 < (s.drop 2).length then numR 0 12 8
  else if val (s.drop 2) = 0 then numR 0 10 0 else numR ((val (s.drop 2) * 10 ^ (6 - (s.drop 2).length) : Nat) : Int) 0 0
theorem rate_digs_loop (n : Nat) (X : Type) (k3 : Int → Int → Int → Int → Int → Int → Int → Option X) (d : List UInt8) (hd : Digs d) (hl : d.length ≤ 6) (a b c e f g : Int) : ∀ (j i m : Nat), i + j = 6 → j < m →
    F.num_Rate.L23 n k3 m d (i : Int) a b c e f g (val ((d ++ List.replicate (6 - d.length) 48).take i) : Int) = k3 a b c e f g ((val d * 10 ^ (6 - d.length) : Nat) : Int) := by
  have hD : Digs (d ++ List.replicate (6 - d.length) 48) := digs_append.2 ⟨hd, digs_rep _⟩
  have hL : (d ++ List.replicate (6 - d.length) (48 : UInt8)).length = 6 := by simp; omega
  intro j
  induction j with
  | zero =>
    intro i m hi hm
    cases m with
    | zero => omega
    | succ m =>
      show F.num_Rate.L23.step n _ k3 d _ _ _ _ _ _ _ _ = _
      unfold F.num_Rate.L23.step
      rw [bif_neg (by omega), List.take_of_length_le (by omega), val_zeros_right]
  | succ j ih =>
    intro i m hi hm
    cases m with
    | zero => omega
    | succ m =>
      show F.num_Rate.L23.step n (F.num_Rate.L23 n k3 m) k3 d _ _ _ _ _ _ _ _ = _
      unfold F.num_Rate.L23.step
      rw [bif_pos (by omega), wrap_succ (by omega)]
      have hb : val ((d ++ List.replicate (6 - d.length) 48).take i) < 10 ^ i := by
        have := val_lt (digs_take i hD)
        rw [List.length_take, hL, Nat.min_eq_left (by omega)] at this
        exact this
      have hp : (10 : Nat) ^ i ≤ 10 ^ 6 := Nat.pow_le_pow_right (by omega) (by omega)
      have hstep : ∀ x, (d ++ List.replicate (6 - d.length) (48 : UInt8))[i]? = some x → val ((d ++ List.replicate (6 - d.length) 48).take (i + 1)) = val ((d ++ List.replicate (6 - d.length) 48).take i) * 10 + dv x := by
        intro x hx
        rw [List.take_add_one, hx]
        exact val_snoc _ _
      by_cases hlt : i < d.length
      · have hx : (d ++ List.replicate (6 - d.length) (48 : UInt8))[i]? = d[i]? := List.getElem?_append_left hlt
        rw [bif_pos (by omega), idx_lt hlt, some_bind']
        have hg : d[i]? = some d[i] := by simp [hlt]
        have hdx := List.all_eq_true.1 hd d[i] (List.getElem_mem hlt)
        have hdi := isDig_iff.1 hdx
        have hv := hstep d[i] (hx.trans hg)
        have hdl := dv_lt hdx
        have h8 : IntKind.wrap .i64 (IntKind.wrap .u8 ((d[i].toNat : Int) - 48)) = (dv d[i] : Int) := by
          rw [IntWalk.u8_in _ (by omega), wrap_in (by omega)]; unfold dv; omega
        rw [h8, wrap_in (x := 10 * _) (by omega), wrap_in (by omega), show 10 * (val ((d ++ List.replicate (6 - d.length) (48 : UInt8)).take i) : Int) + (dv d[i] : Int) = (val ((d ++ List.replicate (6 - d.length) (48 : UInt8)).take (i + 1)) : Int) from by omega]
        exact ih (i + 1) m (by omega) (by omega)
      · have hx : (d ++ List.replicate (6 - d.length) (48 : UInt8))[i]? = some 48 := by
          rw [List.getElem?_append_right (by omega), List.getElem?_replicate, if_pos (by omega)]
        have hv := hstep 48 hx
        rw [dv_48] at hv
        rw [bif_neg (by omega), wrap_in (x := 10 * _) (by omega), wrap_in (by omega), show 10 * (val ((d ++ List.replicate (6 - d.length) (48 : UInt8)).take i) : Int) + 0 = (val ((d ++ List.replicate (6 - d.length) (48 : UInt8)).take (i + 1)) : Int) from by omega]
        exact ih (i + 1) m (by omega) (by omega)
theorem rate_head_loop (n : Nat) (X : Type) (k0 : List UInt8 → Int → Int → Int → Int → Option X) (s : List UInt8) (m : Nat) (hm : 3 ≤ m) :
    F.num_Rate.L5 n k0 m s (48, 46, ()) 0 0 0 0 0 = if s = [] then k0 s 0 0 13 0 else if s.head? ≠ some 48 then k0 s 0 0 11 0 else if (s.drop 1).head? ≠ some 46 then k0 s 0 0 11 1 else k0 s 0 0 0 0 := by
  obtain ⟨m, rfl⟩ : ∃ q, m = q + 3 := ⟨m - 3, by omega⟩
  show F.num_Rate.L5.step n (F.num_Rate.L5 n k0 (m + 2)) k0 s _ _ _ _ _ _ = _
  have hb : ∀ (b c : UInt8), ((b.toNat : Int) == (c.toNat : Int)) = decide (b = c) := by
    intro b c
    by_cases h : b = c
    · simp [h]
    · have : ¬ (b.toNat : Int) = (c.toNat : Int) := fun hh => h (u8_ext (by omega))
      simp [h, this]
  cases s with
  | nil => rfl
  | cons b r =>
    have e48 : ((b.toNat : Int) == 48) = decide (b = 48) := hb b 48
    unfold F.num_Rate.L5.step
    have a1 : decide ((0 : Int) < 2) = true := rfl
    have a2 : ((0 : Int) == 0) = true := rfl
    have a3 : ((0 : Int) == (((b :: r).length : Nat) : Int)) = false := by
      have : ¬ (0 : Int) = (((b :: r).length : Nat) : Int) := by simp; omega
      simpa using this
    have a4 : decide ((0 : Int) ≥ (((b :: r).length : Nat) : Int)) = false := by
      have : ¬ (0 : Int) ≥ (((b :: r).length : Nat) : Int) := by simp only [List.length_cons]; omega
      exact decide_eq_false this
    have a5 : idx (b :: r) (0 : Int) = some b := rfl
    rw [a1, a2, a3, a4, a5, cond_true, cond_true, cond_false, cond_false, some_bind', e48]
    by_cases h1 : b = 48
    · subst h1
      simp only [decide_true, Bool.not_true, cond_false]
      show F.num_Rate.L5.step n (F.num_Rate.L5 n k0 (m + 1)) k0 _ _ 1 _ _ _ _ = _
      unfold F.num_Rate.L5.step
      have c1 : decide ((1 : Int) < 2) = true := rfl
      have c2 : ((1 : Int) == 0) = false := rfl
      have c3 : ((1 : Int) == 1) = true := rfl
      rw [c1, c2, c3, cond_true, cond_false, cond_true]
      cases r with
      | nil => rfl
      | cons c r =>
        have e46 : ((c.toNat : Int) == 46) = decide (c = 46) := hb c 46
        have b3 : ((1 : Int) == (((48 :: c :: r).length : Nat) : Int)) = false := by
          have : ¬ (1 : Int) = (((48 :: c :: r).length : Nat) : Int) := by simp; omega
          simpa using this
        have b4 : decide ((1 : Int) ≥ (((48 :: c :: r).length : Nat) : Int)) = false := by
          have : ¬ (1 : Int) ≥ (((48 :: c :: r).length : Nat) : Int) := by simp; omega
          simpa using this
        have b5 : idx (48 :: c :: r) (1 : Int) = some c := rfl
        rw [b3, b4, b5, cond_false, cond_false, some_bind', e46]
        by_cases h2 : c = 46
        · subst h2
          rfl
        · simp [h2]
    · simp [h1]
theorem rate_num (n : Nat) (hn : 100 ≤ n) (s : List UInt8) (hs : s.length ≤ 1000000) (hl : s.length < n) : F.num_Rate n s = some (rateR s) := by
  unfold F.num_Rate rateR
  by_cases h1 : s = [49]
  · rw [if_pos h1, h1]; rfl
  have e1 : (s == [49]) = false := by simpa using h1
  rw [e1, cond_false, if_neg h1, rate_head_loop n _ _ s n (by omega)]
  by_cases h2 : s = []
  · rw [if_pos h2, if_pos h2]; rfl
  rw [if_neg h2, if_neg h2]
  by_cases h3 : s.head? ≠ some 48
  · rw [if_pos h3, if_pos h3]; rfl
  rw [if_neg h3, if_neg h3]
  by_cases h4 : (s.drop 1).head? ≠ some 46
  · rw [if_pos h4, if_pos h4]; rfl
  rw [if_neg h4, if_neg h4]
  have e2 : (!((0 : Int) == 0 && (0 : Int) == 0)) = false := rfl
  simp only [e2, cond_false]
  have hlen : 2 ≤ s.length := by
    cases s with
    | nil => exact absurd rfl h2
    | cons b r => cases r with
      | nil => simp at h4
      | cons => simp
  have hsub : sub s 2 (s.length : Int) = some (s.drop 2) := by
    have := sub_nat s 2 s.length hlen (Nat.le_refl _)
    rw [List.take_length] at this
    exact this
  have hdl : (s.drop 2).length + 2 = s.length := by simp; omega
  rw [hsub, some_bind', text_cls n 4 _ _ _ (by omega) (by omega), some_bind', textF4 _ (by omega)]
  generalize s.drop 2 = d at hdl ⊢
  by_cases h5 : d = []
  · rw [if_pos h5, if_pos h5]; rfl
  rw [if_neg h5, if_neg h5]
  by_cases h6 : 0 ≤ badK isDig 0 d
  · rw [if_pos h6, if_pos h6]
    have := badK_hi isDig 0 d
    have e : (!((14 : Int) == 0 && badK isDig 0 d == 0)) = true := rfl
    simp only [e, cond_true, fault_eq, some_bind']
    rw [wrap_in (by omega)]
    rfl
  rw [if_neg h6, if_neg h6]
  simp only [e2, cond_false]
  have hd := digs_of_bad h6
  by_cases h7 : 6 < d.length
  · rw [bif_pos (by omega), if_pos h7]; rfl
  rw [bif_neg (by omega), if_neg h7]
  have := rate_digs_loop n _ (fun e12_b0_0 e12_b0_1 e12_b1_0 e12_b1_1 e12_b2_0 e12_b2_1 e12_b3_0 =>
                    bif e12_b3_0 == (0 : Int) then
                      (F.num_fault n (10 : Int) (0 : Int)).bind fun y13 =>
                        some ((y13.1, (y13.2.1.1, y13.2.1.2.1, ()), ()))
                    else
                      some ((e12_b3_0, ((0 : Int), (0 : Int), ()), ()))) d hd (by omega) 0 0 0 0 0 0 6 0 n (by omega) (by omega)
  refine this.trans ?_
  have hpp : 0 < 10 ^ (6 - d.length) := Nat.pow_pos (by omega)
  by_cases h8 : val d = 0
  · rw [if_pos h8, h8, Nat.zero_mul]; rfl
  · rw [if_neg h8]
    have : ¬ ((val d * 10 ^ (6 - d.length) : Nat) : Int) = 0 := by
      have := Nat.mul_pos (Nat.pos_of_ne_zero h8) hpp
      omega
    have e : (((val d * 10 ^ (6 - d.length) : Nat) : Int) == 0) = false := by simpa using this
    rw [e, cond_false]
    rfl
end Go.AM
set_option linter.unusedVariables false
set_option linter.unusedSimpArgs false
namespace Go.AM
theorem rate_form (d : List UInt8) : rateR (48 :: 46 :: d) = if d = [] then numR 0 13 2 else if 0 ≤ badK isDig 0 d then numR 0 14 (2 + badK isDig 0 d) else if 6 < d.length then numR 0 12 8
    else if val d = 0 then numR 0 10 0 else numR ((val d * 10 ^ (6 - d.length) : Nat) : Int) 0 0 := by
  unfold rateR
  rw [if_neg (by simp), if_neg (by simp), if_neg (by simp), if_neg (by simp)]
  rfl
theorem rateText_form {k : Int} (hk : 1 ≤ k ∧ k < 1000000) : rateText k = (48 :: 46 :: trz (pad6 k.toNat), 0, ()) := by
  unfold rateText
  rw [if_neg (by omega), if_neg (by omega)]; rfl
theorem rate_ok {s : List UInt8} (h : (rateR s).2.1.1 = 0) : (rateR s).2.1.2.1 = 0 ∧ 1 ≤ (rateR s).1 ∧ (rateR s).1 ≤ 1000000 ∧ (rateText (rateR s).1).2.1 = 0 ∧
    ∃ a j, s = a ++ List.replicate j 48 ∧ (rateText (rateR s).1).1 = a ∧ a ≠ [] ∧ (∀ x, a.getLast? = some x → x ≠ 48) := by
  by_cases h1 : s = [49]
  · subst h1
    exact ⟨rfl, by decide, by decide, rfl, [49], 0, rfl, rfl, by simp, by simp⟩
  have e := h
  unfold rateR at e
  rw [if_neg h1] at e
  by_cases h2 : s = []
  · rw [if_pos h2] at e; cases e
  rw [if_neg h2] at e
  by_cases h3 : s.head? ≠ some 48
  · rw [if_pos h3] at e; cases e
  rw [if_neg h3] at e
  by_cases h4 : (s.drop 1).head? ≠ some 46
  · rw [if_pos h4] at e; cases e
  clear e
  obtain ⟨d, rfl⟩ : ∃ d, s = 48 :: 46 :: d := by
    cases s with
    | nil => exact absurd rfl h2
    | cons b r => cases r with
      | nil => simp at h4
      | cons c r =>
        simp at h3 h4
        exact ⟨r, by rw [h3, h4]⟩
  rw [rate_form] at h ⊢
  by_cases g1 : d = []
  · rw [if_pos g1] at h; cases h
  rw [if_neg g1] at h ⊢
  by_cases g2 : 0 ≤ badK isDig 0 d
  · rw [if_pos g2] at h; cases h
  rw [if_neg g2] at h ⊢
  by_cases g3 : 6 < d.length
  · rw [if_pos g3] at h; cases h
  rw [if_neg g3] at h ⊢
  by_cases g4 : val d = 0
  · rw [if_pos g4] at h; cases h
  rw [if_neg g4]
  have hd := digs_of_bad g2
  have hp : 0 < 10 ^ (6 - d.length) := Nat.pow_pos (by omega)
  have hpos := Nat.mul_pos (Nat.pos_of_ne_zero g4) hp
  have hub : val d * 10 ^ (6 - d.length) < 1000000 := by
    have h5 := val_lt (digs_append.2 ⟨hd, digs_rep (6 - d.length)⟩)
    rw [val_zeros_right, List.length_append, List.length_replicate, show d.length + (6 - d.length) = 6 from by omega] at h5
    exact h5
  have hk : 1 ≤ ((val d * 10 ^ (6 - d.length) : Nat) : Int) ∧ ((val d * 10 ^ (6 - d.length) : Nat) : Int) < 1000000 := by omega
  have hf := rateText_form hk
  obtain ⟨p1, p2, p3, p4⟩ := pad6_all hub
  have hpd : pad6 (val d * 10 ^ (6 - d.length)) = d ++ List.replicate (6 - d.length) 48 :=
    val_inj p3 (digs_append.2 ⟨hd, digs_rep _⟩) (by simp; omega) (by rw [p4, val_zeros_right])
  have ht : trz (pad6 (val d * 10 ^ (6 - d.length))) = trz d := by rw [hpd, trz_zeros]
  have hne : trz d ≠ [] := fun hh => g4 ((trz_nil hd).1 hh)
  show (0 : Int) = 0 ∧ _ ∧ _ ∧ (rateText ((val d * 10 ^ (6 - d.length) : Nat) : Int)).2.1 = 0 ∧ ∃ a j, _ ∧ (rateText ((val d * 10 ^ (6 - d.length) : Nat) : Int)).1 = a ∧ _
  rw [hf]
  refine ⟨rfl, hk.1, by show ((val d * 10 ^ (6 - d.length) : Nat) : Int) ≤ 1000000; omega, rfl, 48 :: 46 :: trz d, d.length - (trz d).length, ?_, ?_, by simp, ?_⟩
  · rw [List.cons_append, List.cons_append, ← trz_pad]
  · show 48 :: 46 :: trz (pad6 (val d * 10 ^ (6 - d.length))) = _
    rw [ht]
  · intro x hx
    refine trz_last (l := d) ?_
    rw [← hx]
    cases e : trz d with
    | nil => exact absurd e hne
    | cons b r => simp [List.getLast?_cons]
end Go.AM
set_option linter.unusedVariables false
set_option linter.unusedSimpArgs false
namespace Go.AM
def kindOf (s : List UInt8) : Int := if s = [99] then 1 else if s = [103] then 2 else if s = [109, 115] then 3 else if s = [104] then 4 else 0
def sdKindR (s : List UInt8) : Int × Int × Unit := if kindOf s = 0 then (0, 16, ()) else (kindOf s, 0, ())
theorem kind_step (n m : Nat) {X : Type} (k0 : Unit → Option X) (kr : Int → Int → Option X) (s : List UInt8) (v : Int) : F.statsd_Kind.L2 n k0 kr (m + 1) s v = F.statsd_Kind.L2.step n (F.statsd_Kind.L2 n k0 kr m) k0 kr s v := rfl
theorem kind_at (n : Nat) {X : Type} (rec : List UInt8 → Int → Option X) (k0 : Unit → Option X) (kr : Int → Int → Option X) (s : List UInt8) (v : Int) (h : v ≤ 5) (h1 : 1 ≤ v) : F.statsd_Kind.L2.step n rec k0 kr s v = if v ≤ 4 ∧ wordL v = s then kr v 0 else rec s (v + 1) := by
  unfold F.statsd_Kind.L2.step
  rw [bif_pos h]
  simp only [O.word, some_bind']
  rw [wrap_in (by omega)]
  by_cases h4 : v ≤ 4
  · have hE : wordE v = 0 := by unfold wordE; rw [if_pos (by omega)]
    rw [hE]
    by_cases hs : wordL v = s
    · rw [if_pos ⟨h4, hs⟩, hs]; simp
    · rw [if_neg (fun hh => hs hh.2), beq_eq_false_iff_ne.2 hs]; rfl
  · have hE : wordE v = 16 := by unfold wordE; rw [if_neg (by omega)]
    rw [hE, if_neg (fun hh => h4 hh.1)]; rfl
theorem sdKind_eq (n : Nat) (hn : 10 ≤ n) (s : List UInt8) : F.statsd_Kind n s = some (sdKindR s) := by
  unfold F.statsd_Kind
  obtain ⟨m, hm⟩ : ∃ q, n = q + 6 := ⟨n - 6, by omega⟩
  have key : ∀ (X : Type) (k0 : Unit → Option X) (kr : Int → Int → Option X), F.statsd_Kind.L2 n k0 kr (m + 6) s 1 = if kindOf s = 0 then k0 () else kr (kindOf s) 0 := by
    intro X k0 kr
    rw [kind_step n (m + 5), kind_at n _ _ _ _ _ (by omega) (by omega)]
    unfold kindOf
    have w1 : wordL 1 = [99] := rfl
    have w2 : wordL 2 = [103] := rfl
    have w3 : wordL 3 = [109, 115] := rfl
    have w4 : wordL 4 = [104] := rfl
    by_cases h1 : s = [99]
    · rw [if_pos ⟨by omega, by rw [h1]; rfl⟩, if_pos h1]; rfl
    rw [if_neg (fun h => h1 (by rw [← h.2]; rfl)), if_neg h1, kind_step n (m + 4), kind_at n _ _ _ _ _ (by omega) (by omega)]
    by_cases h2 : s = [103]
    · rw [if_pos ⟨by omega, by rw [h2]; rfl⟩, if_pos h2]; rfl
    rw [if_neg (fun h => h2 (by rw [← h.2]; rfl)), if_neg h2, kind_step n (m + 3), kind_at n _ _ _ _ _ (by omega) (by omega)]
    by_cases h3 : s = [109, 115]
    · rw [if_pos ⟨by omega, by rw [h3]; rfl⟩, if_pos h3]; rfl
    rw [if_neg (fun h => h3 (by rw [← h.2]; rfl)), if_neg h3, kind_step n (m + 2), kind_at n _ _ _ _ _ (by omega) (by omega)]
    by_cases h4 : s = [104]
    · rw [if_pos ⟨by omega, by rw [h4]; rfl⟩, if_pos h4]; rfl
    rw [if_neg (fun h => h4 (by rw [← h.2]; rfl)), if_neg h4, kind_step n (m + 1), kind_at n _ _ _ _ _ (by omega) (by omega), if_neg (fun h => by have := h.1; omega), kind_step n m]
    unfold F.statsd_Kind.L2.step
    rw [bif_neg (by omega)]
    rfl
  rw [← hm] at key
  rw [key]
  unfold sdKindR
  by_cases h : kindOf s = 0
  · rw [if_pos h, if_pos h]
  · rw [if_neg h, if_neg h]
end Go.AM
set_option linter.unusedVariables false
set_option linter.unusedSimpArgs false
namespace Go.AM
abbrev KRS (X : Type) := List UInt8 → List UInt8 → Int → List (Bool × Int × Int) → Int → List (List UInt8 × List UInt8) → Int → Int → Int → Option X
section
variable {X : Type} (n : Nat) (kr : KRS X)
def badK' (kr : KRS X) (s : List UInt8) (c a : Int) : Option X := kr s [] 0 [] 0 [] 0 c a
theorem c31_eq (c9 : Bool) (s : List UInt8) (b10 : List UInt8) (b11 : Int) (b12 : List (Bool × Int × Int)) (b13 : Int) (b14 : List (List UInt8 × List UInt8)) (b15 b20 b21 b3 : Int) (d0 : List UInt8) (d1 : Int) (d2 : List (Bool × Int × Int)) (d3 : Int) (d4 : List (List UInt8 × List UInt8)) (d5 : Int) (k0 k1 k2 k3 : Nat) :
    F.statsd_Parse.C31 n kr c9 s b10 b11 b12 b13 b14 b15 b20 b21 b3 d0 d1 d2 d3 d4 d5 k0 k1 k2 k3 = if c9 = true then badK' kr s 11 (IntKind.wrap .i64 (b3 - 1)) else kr s d0 d1 d2 d3 d4 d5 0 0 := by
  cases c9 <;> rfl
theorem c28_eq (hn : 100 ≤ n) (c9 : Bool) (kind : Int) (rate : List UInt8) (hr : rate.length ≤ 10000) (hl : rate.length < n) (at' : Int) (s : List UInt8) (b10 : List UInt8) (b11 : Int) (b12 : List (Bool × Int × Int)) (b13 : Int) (b14 : List (List UInt8 × List UInt8)) (b15 b20 b21 b3 : Int) (d0 : List UInt8) (d1 : Int) (d2 : List (Bool × Int × Int)) (d3 : Int) (d4 : List (List UInt8 × List UInt8)) (d5 : Int) (e0 : Bool) (e1 e2 f0 f1 : Int) (k0 k1 k2 k3 : Nat) :
    F.statsd_Parse.C28 n kr c9 kind rate at' s b10 b11 b12 b13 b14 b15 b20 b21 b3 d0 d1 d2 d3 d4 d5 e0 e1 e2 f0 f1 k0 k1 k2 k3 =
      if ¬ (rateR rate).2.1.1 = 0 ∨ (kind = 2 ∧ ¬ (rateR rate).1 = 1000000) then badK' kr s 18 at' else if c9 = true then badK' kr s 11 (IntKind.wrap .i64 (b3 - 1)) else kr s d0 d1 d2 (rateR rate).1 d4 d5 0 0 := by
  unfold F.statsd_Parse.C28
  rw [rate_num n hn rate (by omega) hl, some_bind']
  have c30 : ∀ (kn : Bool → List UInt8 → List UInt8 → Int → List (Bool × Int × Int) → Int → List (List UInt8 × List UInt8) → Int → Int → Int → Int → List UInt8 → Int → List (Bool × Int × Int) → Int → List (List UInt8 × List UInt8) → Int → Nat → Nat → Nat → Nat → Option X) (t : Bool) (r : Int), F.statsd_Parse.C30 n kr kn c9 at' t s b10 b11 b12 b13 b14 b15 b20 b21 b3 d0 d1 d2 r d4 d5 k0 k1 k2 k3 = if t = true then badK' kr s 18 at' else kn c9 s b10 b11 b12 b13 b14 b15 b20 b21 b3 d0 d1 d2 r d4 d5 k0 k1 k2 k3 := by
    intro kn t r
    cases t <;> rfl
  by_cases h0 : (rateR rate).2.1.1 = 0
  · have h1 := (rate_ok h0).1
    have e : (!((rateR rate).2.1.1 == 0 && (rateR rate).2.1.2.1 == 0)) = false := by rw [h0, h1]; rfl
    rw [e, cond_false]
    by_cases hk : kind = 2
    · have ek : (kind == 2) = true := by simp [hk]
      rw [ek, cond_true]
      refine (c30 _ _ _).trans ?_
      by_cases hr1 : (rateR rate).1 = 1000000
      · have e2 : (!((rateR rate).1 == 1000000)) = false := by simp [hr1]
        rw [e2, if_neg (by simp), if_neg (by simp [h0, hr1])]
        exact c31_eq n kr c9 s b10 b11 b12 b13 b14 b15 b20 b21 b3 d0 d1 d2 _ d4 d5 k0 k1 k2 k3
      · have e2 : (!((rateR rate).1 == 1000000)) = true := by simpa using hr1
        rw [e2, if_pos rfl, if_pos (Or.inr ⟨hk, hr1⟩)]
    · have ek : (kind == 2) = false := by simpa using hk
      rw [ek, cond_false]
      refine (c30 _ _ _).trans ?_
      rw [if_neg (by simp), if_neg (by simp [h0, hk])]
      exact c31_eq n kr c9 s b10 b11 b12 b13 b14 b15 b20 b21 b3 d0 d1 d2 _ d4 d5 k0 k1 k2 k3
  · have e : (!((rateR rate).2.1.1 == 0 && (rateR rate).2.1.2.1 == 0)) = true := by
      have : ((rateR rate).2.1.1 == 0) = false := by simpa using h0
      rw [this]; rfl
    rw [e, cond_true]
    refine (c30 _ _ _).trans ?_
    rw [if_pos rfl, if_pos (Or.inl h0)]
def rateS (kr : KRS X) (s name : List UInt8) (kind : Int) (v : List (Bool × Int × Int)) (r0 : Int) (tags : List (List UInt8 × List UInt8)) (time : Int) (is3 : Bool) (p : Nat) : Option X :=
  if is3 = false then kr s name kind v r0 tags time 0 0
  else if ¬ (s.drop p).head? = some 64 then badK' kr s 11 p
  else if ¬ (rateR (seg 124 (s.drop (p + 1)))).2.1.1 = 0 ∨ (kind = 2 ∧ ¬ (rateR (seg 124 (s.drop (p + 1)))).1 = 1000000) then badK' kr s 18 ((p + 1 : Nat) : Int)
  else if 124 ∈ s.drop (p + 1) then badK' kr s 11 ((p + 1 + (seg 124 (s.drop (p + 1))).length : Nat) : Int) else kr s name kind v (rateR (seg 124 (s.drop (p + 1)))).1 tags time 0 0
theorem c21_eq (hn : 20000 ≤ n) (name : List UInt8) (is3 : Bool) (kind : Int) (s : List UInt8) (hs : s.length ≤ 10000) (b10 : List UInt8) (b11 : Int) (b12 : List (Bool × Int × Int)) (b13 : Int) (b14 : List (List UInt8 × List UInt8)) (b15 b20 b21 : Int) (p : Nat) (hp : p ≤ s.length) (d0 : List UInt8) (d1 : Int) (d2 : List (Bool × Int × Int)) (d3 : Int) (d4 : List (List UInt8 × List UInt8)) (d5 : Int) (e0 : Bool) (e1 e2 f0 f1 : Int) (k0 k1 k2 k3 : Nat) :
    F.statsd_Parse.C21 n kr name is3 kind s b10 b11 b12 b13 b14 b15 b20 b21 (p : Int) d0 d1 d2 d3 d4 d5 e0 e1 e2 f0 f1 k0 k1 k2 k3 = rateS kr s name kind [(e0, e1, e2)] d3 d4 d5 is3 p := by
  unfold F.statsd_Parse.C21 rateS
  cases is3
  · rfl
  · rw [Bool.not_true, cond_false, if_neg (by simp), sub_tail hp, some_bind', hasPrefix_one, some_bind']
    by_cases h64 : (s.drop p).head? = some 64
    · have hlt := drop_lt h64
      have hsl := seg_le 124 (s.drop (p + 1))
      have hdl : (s.drop (p + 1)).length = s.length - (p + 1) := by simp
      rw [decide_eq_true h64, Bool.not_true, cond_false, if_neg (fun h => h h64), wrap_succ (by omega), sub_tail (by omega), some_bind', cut_eq n 124 (by omega), some_bind']
      have w1 : IntKind.wrap .i64 (((p + 1 : Nat) : Int) + ((seg 124 (s.drop (p + 1))).length : Int)) = ((p + 1 + (seg 124 (s.drop (p + 1))).length : Nat) : Int) := by rw [wrap_in (by omega)]; omega
      simp only [w1]
      by_cases hm : 124 ∈ s.drop (p + 1)
      · simp only [hm, decide_true, cond_true, if_true]
        rw [wrap_succ (by omega)]
        refine (c28_eq n kr (by omega) true kind _ (by omega) (by omega) _ s b10 b11 b12 b13 b14 b15 b20 b21 _ name kind [(e0, e1, e2)] d3 d4 d5 e0 e1 e2 f0 f1 k0 k1 1 k3).trans ?_
        rw [if_pos rfl, wrap_in (by omega)]
        congr 2
        omega
      · simp only [hm, decide_false, cond_false, if_false]
        exact (c28_eq n kr (by omega) false kind _ (by omega) (by omega) _ s b10 b11 b12 b13 b14 b15 b20 b21 _ name kind [(e0, e1, e2)] d3 d4 d5 e0 e1 e2 f0 f1 k0 k1 1 k3)
    · rw [decide_eq_false h64, Bool.not_false, cond_true, if_pos h64]
      rfl
def kindS (kr : KRS X) (s name : List UInt8) (word value : List UInt8) (av aw : Int) (v : List (Bool × Int × Int)) (r0 : Int) (tags : List (List UInt8 × List UInt8)) (time : Int) (is3 : Bool) (p : Nat) : Option X :=
  if kindOf word = 0 then badK' kr s 16 aw else if kindOf word = 2 ∧ value.head? = some 45 then badK' kr s 26 av else rateS kr s name (kindOf word) v r0 tags time is3 p
theorem c16_eq (hn : 20000 ≤ n) (name : List UInt8) (is3 : Bool) (value : List UInt8) (av : Int) (word : List UInt8) (aw : Int) (s : List UInt8) (hs : s.length ≤ 10000) (b10 : List UInt8) (b11 : Int) (b12 : List (Bool × Int × Int)) (b13 : Int) (b14 : List (List UInt8 × List UInt8)) (b15 b20 b21 : Int) (p : Nat) (hp : p ≤ s.length) (d0 : List UInt8) (d1 : Int) (d2 : List (Bool × Int × Int)) (d3 : Int) (d4 : List (List UInt8 × List UInt8)) (d5 : Int) (e0 : Bool) (e1 e2 f0 f1 : Int) (k0 k1 k2 k3 : Nat) :
    F.statsd_Parse.C16 n kr name is3 value av word aw s b10 b11 b12 b13 b14 b15 b20 b21 (p : Int) d0 d1 d2 d3 d4 d5 e0 e1 e2 f0 f1 k0 k1 k2 k3 = kindS kr s name word value av aw [(e0, e1, e2)] d3 d4 d5 is3 p := by
  unfold F.statsd_Parse.C16 kindS
  rw [sdKind_eq n (by omega), some_bind']
  unfold sdKindR
  by_cases h0 : kindOf word = 0
  · rw [if_pos h0, if_pos h0]; rfl
  · have e0' : (!((0 : Int) == 0)) = false := rfl
    rw [if_neg h0, if_neg h0]
    simp only [e0', cond_false]
    by_cases h2 : kindOf word = 2
    · have e2' : (kindOf word == 2) = true := by simp [h2]
      rw [e2', cond_true, hasPrefix_one, some_bind']
      by_cases h45 : value.head? = some 45
      · rw [decide_eq_true h45, cond_true, if_pos ⟨h2, h45⟩]; rfl
      · rw [decide_eq_false h45, cond_false, if_neg (fun h => h45 h.2)]
        exact c21_eq n kr hn name is3 _ s hs b10 b11 b12 b13 b14 b15 b20 b21 p hp d0 d1 d2 d3 d4 d5 e0 e1 e2 f0 f1 k0 k1 k2 k3
    · have e2' : (kindOf word == 2) = false := by simpa using h2
      rw [e2', cond_false, if_neg (fun h => h2 h.1)]
      exact c21_eq n kr hn name is3 _ s hs b10 b11 b12 b13 b14 b15 b20 b21 p hp d0 d1 d2 d3 d4 d5 e0 e1 e2 f0 f1 k0 k1 k2 k3
def valueS (kr : KRS X) (s name : List UInt8) (value : List UInt8) (av : Nat) (r0 : Int) (tags : List (List UInt8 × List UInt8)) (time : Int) (is2 : Bool) (p : Nat) : Option X :=
  if ¬ (parseR value).2.1.1 = 0 then badK' kr s 17 av else if is2 = false then badK' kr s 11 s.length
  else kindS kr s name (seg 124 (s.drop p)) value av p [((parseR value).1.1, (parseR value).1.2.1, (parseR value).1.2.2.1)] r0 tags time (decide (124 ∈ s.drop p)) (nextP 124 s p)
theorem c10_eq (hn : 200000 ≤ n) (name : List UInt8) (is2 : Bool) (value : List UInt8) (hv : value.length ≤ 10000) (av : Nat) (s : List UInt8) (hs : s.length ≤ 10000) (b10 : List UInt8) (b11 : Int) (b12 : List (Bool × Int × Int)) (b13 : Int) (b14 : List (List UInt8 × List UInt8)) (b15 b20 b21 : Int) (p : Nat) (hp : p ≤ s.length) (d0 : List UInt8) (d1 : Int) (d2 : List (Bool × Int × Int)) (d3 : Int) (d4 : List (List UInt8 × List UInt8)) (d5 : Int) (k0 k1 k2 k3 : Nat) :
    F.statsd_Parse.C10 n kr name is2 value (av : Int) s b10 b11 b12 b13 b14 b15 b20 b21 (p : Int) d0 d1 d2 d3 d4 d5 k0 k1 k2 k3 = valueS kr s name value av d3 d4 d5 is2 p := by
  unfold F.statsd_Parse.C10 valueS
  rw [decparse_eq n hn value hv, some_bind']
  by_cases h0 : (parseR value).2.1.1 = 0
  · have e : (!((parseR value).2.1.1 == 0 && (parseR value).2.1.2.1 == 0)) = false := by rw [h0, parseR_at h0]; rfl
    rw [e, cond_false, if_neg (fun h => h h0)]
    cases is2
    · rfl
    · have hsl := seg_le 124 (s.drop p)
      have hdl : (s.drop p).length = s.length - p := by simp
      have hnl := nextP_le (c := 124) hp
      rw [Bool.not_true, cond_false, if_neg (by simp), sub_tail hp, some_bind', cut_eq n 124 (by omega), some_bind']
      have w1 : IntKind.wrap .i64 ((p : Int) + ((seg 124 (s.drop p)).length : Int)) = ((p + (seg 124 (s.drop p)).length : Nat) : Int) := by rw [wrap_in (by omega)]; omega
      simp only [w1]
      by_cases hm : 124 ∈ s.drop p
      · have hq : nextP 124 s p = p + (seg 124 (s.drop p)).length + 1 := by unfold nextP; rw [if_pos hm]
        simp only [hm, decide_true, cond_true]
        rw [wrap_succ (by omega), ← hq]
        exact c16_eq n kr (by omega) name true value _ _ _ s hs b10 b11 b12 b13 b14 b15 b20 b21 _ hnl d0 d1 d2 d3 d4 d5 _ _ _ _ _ k0 k1 k2 k3
      · have hq : nextP 124 s p = p + (seg 124 (s.drop p)).length := by unfold nextP; rw [if_neg hm]; rfl
        simp only [hm, decide_false, cond_false]
        rw [← hq]
        exact c16_eq n kr (by omega) name false value _ _ _ s hs b10 b11 b12 b13 b14 b15 b20 b21 _ hnl d0 d1 d2 d3 d4 d5 _ _ _ _ _ k0 k1 k2 k3
  · have e : (!((parseR value).2.1.1 == 0 && (parseR value).2.1.2.1 == 0)) = true := by
      have : ((parseR value).2.1.1 == 0) = false := by simpa using h0
      rw [this]; rfl
    rw [e, cond_true, if_pos h0]
    rfl
def nameS (kr : KRS X) (s name : List UInt8) (r0 : Int) (tags : List (List UInt8 × List UInt8)) (time : Int) (is1 : Bool) (p : Nat) : Option X :=
  if ¬ (textF 1 name 1 200).1 = 0 then badK' kr s 15 0 else if is1 = false then badK' kr s 11 s.length
  else valueS kr s name (seg 124 (s.drop p)) p r0 tags time (decide (124 ∈ s.drop p)) (nextP 124 s p)
theorem c5_eq (hn : 200000 ≤ n) (name : List UInt8) (hnl : name.length ≤ 10000) (is1 : Bool) (s : List UInt8) (hs : s.length ≤ 10000) (b10 : List UInt8) (b11 : Int) (b12 : List (Bool × Int × Int)) (b13 : Int) (b14 : List (List UInt8 × List UInt8)) (b15 b20 b21 : Int) (p : Nat) (hp : p ≤ s.length) (d0 : List UInt8) (d1 : Int) (d2 : List (Bool × Int × Int)) (d3 : Int) (d4 : List (List UInt8 × List UInt8)) (d5 : Int) (k0 k1 k2 k3 : Nat) :
    F.statsd_Parse.C5 n kr name is1 s b10 b11 b12 b13 b14 b15 b20 b21 (p : Int) d0 d1 d2 d3 d4 d5 k0 k1 k2 k3 = nameS kr s name d3 d4 d5 is1 p := by
  unfold F.statsd_Parse.C5 nameS
  rw [text_cls n 1 name 1 200 (by omega) (by omega), some_bind']
  by_cases h0 : (textF 1 name 1 200).1 = 0
  · have e : (!((textF 1 name 1 200).1 == 0 && (textF 1 name 1 200).2.1 == 0)) = false := by rw [h0, textF_at h0]; rfl
    rw [e, cond_false, if_neg (fun h => h h0)]
    cases is1
    · rfl
    · have hsl := seg_le 124 (s.drop p)
      have hdl : (s.drop p).length = s.length - p := by simp
      have hnx := nextP_le (c := 124) hp
      rw [Bool.not_true, cond_false, if_neg (by simp), sub_tail hp, some_bind', cut_eq n 124 (by omega), some_bind']
      have w1 : IntKind.wrap .i64 ((p : Int) + ((seg 124 (s.drop p)).length : Int)) = ((p + (seg 124 (s.drop p)).length : Nat) : Int) := by rw [wrap_in (by omega)]; omega
      simp only [w1]
      by_cases hm : 124 ∈ s.drop p
      · have hq : nextP 124 s p = p + (seg 124 (s.drop p)).length + 1 := by unfold nextP; rw [if_pos hm]
        simp only [hm, decide_true, cond_true]
        rw [wrap_succ (by omega), ← hq]
        exact c10_eq n kr hn name true _ (by omega) p s hs b10 b11 b12 b13 b14 b15 b20 b21 _ hnx d0 d1 d2 d3 d4 d5 k0 k1 k2 k3
      · have hq : nextP 124 s p = p + (seg 124 (s.drop p)).length := by unfold nextP; rw [if_neg hm]; rfl
        simp only [hm, decide_false, cond_false]
        rw [← hq]
        exact c10_eq n kr hn name false _ (by omega) p s hs b10 b11 b12 b13 b14 b15 b20 b21 _ hnx d0 d1 d2 d3 d4 d5 k0 k1 k2 k3
  · have e : (!((textF 1 name 1 200).1 == 0 && (textF 1 name 1 200).2.1 == 0)) = true := by
      have : ((textF 1 name 1 200).1 == 0) = false := by simpa using h0
      rw [this]; rfl
    rw [e, cond_true, if_pos h0]
    rfl
end
def finK : KRS MetR := fun _ a b c d e f x y => some ((a, b, c, d, e, f, ()), (x, y, ()), ())
def sdParse (s : List UInt8) : Option MetR := nameS finK s (seg 58 s) 1000000 [] 0 (decide (58 ∈ s)) (nextP 58 s 0)
theorem sdParse_eq (n : Nat) (hn : 200000 ≤ n) (s : List UInt8) (hs : s.length ≤ 10000) : F.statsd_Parse n s = sdParse s := by
  unfold F.statsd_Parse sdParse
  have h0 : sub s (0 : Int) (s.length : Int) = some s := sub_tail (s := s) (p := 0) (Nat.zero_le _)
  have hsl := seg_le 58 s
  have hnx := nextP_le (c := 58) (s := s) (p := 0) (Nat.zero_le _)
  rw [h0, some_bind', cut_eq n 58 (by omega), some_bind']
  have w1 : IntKind.wrap .i64 ((0 : Int) + ((seg 58 s).length : Int)) = (((seg 58 s).length : Nat) : Int) := by rw [wrap_in (by omega)]; omega
  simp only [w1]
  by_cases hm : 58 ∈ s
  · have hq : nextP 58 s 0 = (seg 58 s).length + 1 := by unfold nextP; rw [List.drop_zero, if_pos hm]; omega
    simp only [hm, decide_true, cond_true]
    rw [wrap_succ (by omega), ← hq]
    exact c5_eq n finK hn _ (by omega) true s hs _ _ _ _ _ _ _ _ _ hnx _ _ _ _ _ _ _ _ _ _
  · have hq : nextP 58 s 0 = (seg 58 s).length := by unfold nextP; rw [List.drop_zero, if_neg hm]; omega
    simp only [hm, decide_false, cond_false]
    rw [← hq]
    exact c5_eq n finK hn _ (by omega) false s hs _ _ _ _ _ _ _ _ _ hnx _ _ _ _ _ _ _ _ _ _
end Go.AM
set_option linter.unusedVariables false
set_option linter.unusedSimpArgs false
namespace Go.AM
end Go.AM
set_option linter.unusedVariables false
set_option linter.unusedSimpArgs false
namespace Go.AM
end Go.AM
set_option linter.unusedVariables false
set_option linter.unusedSimpArgs false
namespace Go.AM
end Go.AM
set_option linter.unusedVariables false
set_option linter.unusedSimpArgs false
namespace Go.AM
end Go.AM
set_option linter.unusedVariables false
set_option linter.unusedSimpArgs false
namespace Go.AM
section
variable {X : Type} (n : Nat) (kr : KRS X)
end
end Go.AM
set_option linter.unusedVariables false
set_option linter.unusedSimpArgs false
namespace Go.AM
theorem seg_app {c : UInt8} {a : List UInt8} (h : c ∉ a) (t : List UInt8) : seg c (a ++ c :: t) = a := by
  induction a with
  | nil => show seg c (c :: t) = []; rw [seg_cons, if_pos rfl]
  | cons b a ih =>
    show seg c (b :: (a ++ c :: t)) = _
    rw [seg_cons, if_neg (fun hh => h (by simp [hh])), ih (fun hh => h (by simp [hh]))]
theorem seg_split {c : UInt8} {s : List UInt8} (h : c ∈ s) : s = seg c s ++ c :: s.drop ((seg c s).length + 1) := by
  induction s with
  | nil => simp at h
  | cons b s ih =>
    rw [seg_cons]
    by_cases hb : b = c
    · rw [if_pos hb, hb]; rfl
    · rw [if_neg hb]
      have hm : c ∈ s := by
        rcases List.mem_cons.1 h with h | h
        · exact absurd h.symm hb
        · exact h
      have := ih hm
      simp only [List.length_cons, List.drop_succ_cons, List.cons_append]
      rw [← this]
theorem seg_free (c : UInt8) (s : List UInt8) : c ∉ seg c s := by
  induction s with
  | nil => simp [seg]
  | cons b s ih =>
    rw [seg_cons]
    by_cases hb : b = c
    · rw [if_pos hb]; simp
    · rw [if_neg hb]
      intro hm
      rcases List.mem_cons.1 hm with h | h
      · exact hb h.symm
      · exact ih h
theorem nextP_app {c : UInt8} {s a t : List UInt8} {p : Nat} (hs : s.drop p = a ++ c :: t) (h : c ∉ a) : nextP c s p = p + a.length + 1 ∧ s.drop (p + a.length + 1) = t := by
  constructor
  · unfold nextP
    rw [hs, seg_app h, if_pos (by simp)]
  · rw [Nat.add_assoc, ← List.drop_drop, hs]
    simp
theorem nextP_end {c : UInt8} {s a : List UInt8} {p : Nat} (hs : s.drop p = a) (h : c ∉ a) : nextP c s p = p + a.length := by
  unfold nextP
  rw [hs, if_neg h, seg_all h]; omega
theorem name_free {s : List UInt8} (h : nameOK s = true) : (58 : UInt8) ∉ s := by
  rw [nameOK_eq] at h
  simp only [Bool.and_eq_true, List.all_eq_true] at h
  intro hm
  have := h.1 58 hm
  revert this
  decide
abbrev badM (c a : Int) : MetR := (([], 0, [], 0, [], 0, ()), (c, a, ()), ())
end Go.AM
set_option linter.unusedVariables false
set_option linter.unusedSimpArgs false
namespace Go.AM
theorem parse_cases (s : List UInt8) : ((parseR s).2.1.1 ≠ 0 ∧ (parseR s).1 = (false, 0, 0, ()) ∧ 0 ≤ (parseR s).2.1.2.1 ∧ (parseR s).2.1.2.1 ≤ s.length) ∨
    (∃ (neg : Bool) (c : Nat) (e : Int), parseR s = ((neg, (c : Int), e, ()), (0, 0, ()), ()) ∧ c < two64 ∧ (-9223372036854775808 ≤ e ∧ e ≤ 9223372036854775807) ∧ checkR neg c e = 0) := by
  unfold parseR
  by_cases h : (lookR s).1 = 0
  · rw [if_pos h]
    have hD : Digs (aheadD s ++ behindD s) := digs_append.2 ⟨tw_digs _, behind_digs s⟩
    generalize aheadD s ++ behindD s = d at hD
    generalize (-((behindD s).length : Int)) = E
    generalize negD s = neg
    by_cases hv : val d = 0
    · refine Or.inr ⟨false, 0, 0, ?_, by decide, by omega, ?_⟩
      · have : valR neg d E = zeroD := by unfold valR; rw [if_pos hv]
        rw [this]; rfl
      · have d0 : Lib.decDigits 0 = [48] := dd_small (by omega)
        unfold checkR
        rw [d0]; rfl
    · obtain ⟨c0, z, h1, h2⟩ := ten_split (val d) (by omega)
      rw [valR_core hD h2 h1]
      generalize E + (z : Int) = Y
      by_cases hY : Y < -18
      · refine Or.inl ?_
        have : normR neg c0 Y = ((false, 0, 0, ()), 10, ()) := by unfold normR; rw [if_pos hY]
        rw [this]
        exact ⟨by decide, rfl, by decide, by show (0 : Int) ≤ s.length; omega⟩
      · by_cases hf : c0 * 10 ^ (Y - 18).toNat < two64
        · have e1 : normR neg c0 Y = ((neg, ((c0 * 10 ^ (Y - 18).toNat : Nat) : Int), (if Y ≤ 18 then Y else 18), ()), 0, ()) := by unfold normR; rw [if_neg hY, if_pos hf]
          rw [e1]
          have hE : -18 ≤ (if Y ≤ 18 then Y else 18) ∧ (if Y ≤ 18 then Y else 18) ≤ 18 := by split <;> omega
          refine Or.inr ⟨neg, c0 * 10 ^ (Y - 18).toNat, (if Y ≤ 18 then Y else 18), rfl, hf, by omega, ?_⟩
          unfold checkR
          rw [if_neg (by omega), valR_core (dd_digs _) h2 (dd_val _)]
          have e2 : (if Y ≤ 18 then Y else 18) + (((Y - 18).toNat : Nat) : Int) = Y := by split <;> omega
          rw [e2, e1, if_pos ⟨rfl, rfl⟩]
        · refine Or.inl ?_
          have : normR neg c0 Y = ((false, 0, 0, ()), 10, ()) := by unfold normR; rw [if_neg hY, if_neg hf]
          rw [this]
          exact ⟨by decide, rfl, by decide, by show (0 : Int) ≤ s.length; omega⟩
  · rw [if_neg h]
    refine Or.inl ⟨h, rfl, ?_⟩
    show 0 ≤ (lookR s).2.1 ∧ (lookR s).2.1 ≤ s.length
    have endle : ∀ (r : Prop) [Decidable r] (a l : Nat), a ≤ l → 0 ≤ (endR r a l).2.1 ∧ (endR r a l).2.1 ≤ (l : Int) := by
      intro r _ a l hl
      unfold endR
      split
      · show (0 : Int) ≤ 0 ∧ (0 : Int) ≤ l; omega
      · split
        · show (0 : Int) ≤ a ∧ (a : Int) ≤ l; omega
        · show (0 : Int) ≤ a ∧ (a : Int) ≤ l; omega
    unfold lookR lookQ
    split
    · rename_i hp
      exact endle _ _ _ (p3_le hp.2)
    · exact endle _ _ _ (p1_le (p0_le s))
end Go.AM
set_option linter.unusedVariables false
set_option linter.unusedSimpArgs false
namespace Go.AM
theorem kind_cases {w : List UInt8} (h : ¬ kindOf w = 0) : w = wordL (kindOf w) ∧ 1 ≤ kindOf w ∧ kindOf w ≤ 4 ∧ (124 : UInt8) ∉ w := by
  unfold kindOf at h ⊢
  by_cases h1 : w = [99]
  · subst h1; decide
  rw [if_neg h1] at h ⊢
  by_cases h2 : w = [103]
  · subst h2; decide
  rw [if_neg h2] at h ⊢
  by_cases h3 : w = [109, 115]
  · subst h3; decide
  rw [if_neg h3] at h ⊢
  by_cases h4 : w = [104]
  · subst h4; decide
  rw [if_neg h4] at h
  exact absurd rfl h
section
variable {X : Type} (kr : KRS X)
theorem sd_parts {name value word : List UInt8} {d : DecL} (hn : nameOK name = true) (hv : (124 : UInt8) ∉ value) (hp : parseR value = ((d.1, d.2.1, d.2.2, ()), (0, 0, ()), ())) (hk : ¬ kindOf word = 0) (hg : ¬ (kindOf word = 2 ∧ value.head? = some 45))
    {s rest : List UInt8} (hs : s = name ++ 58 :: (value ++ 124 :: (word ++ rest))) (hr : rest = [] ∨ rest.head? = some 124) :
    nameS kr s (seg 58 s) 1000000 [] 0 (decide (58 ∈ s)) (nextP 58 s 0) = rateS kr s name (kindOf word) [d] 1000000 [] 0 (decide (rest.head? = some 124)) (name.length + 1 + value.length + 1 + word.length + (if rest.head? = some 124 then 1 else 0)) := by
  have hnf := name_free hn
  obtain ⟨hw1, hw2, hw3, hw4⟩ := kind_cases hk
  have h58 : (58 : UInt8) ∈ s := by rw [hs]; simp
  have hseg : seg 58 s = name := by rw [hs]; exact seg_app hnf _
  have hd0 : s.drop 0 = name ++ 58 :: (value ++ 124 :: (word ++ rest)) := hs
  obtain ⟨n1, n2⟩ := nextP_app hd0 hnf
  rw [Nat.zero_add] at n1 n2
  have hm1 : (124 : UInt8) ∈ s.drop (name.length + 1) := by rw [n2]; simp
  obtain ⟨m1, m2⟩ := nextP_app n2 hv
  have hsv : seg 124 (s.drop (name.length + 1)) = value := by rw [n2]; exact seg_app hv _
  have hname : (textF 1 name 1 200).1 = 0 := by unfold nameOK at hn; simpa using hn
  unfold nameS
  rw [hseg, if_neg (fun h => h hname), decide_eq_true h58, if_neg (by simp), n1, hsv, m1, decide_eq_true hm1]
  unfold valueS
  rw [hp, if_neg (by simp), if_neg (by simp)]
  unfold kindS
  rcases hr with hr | hr
  · subst hr
    rw [List.append_nil] at m2
    have hsw : seg 124 (s.drop (name.length + 1 + value.length + 1)) = word := by rw [m2]; exact seg_all hw4
    have hm2 : ¬ (124 : UInt8) ∈ s.drop (name.length + 1 + value.length + 1) := by rw [m2]; exact hw4
    rw [hsw, if_neg hk, if_neg hg, decide_eq_false hm2, nextP_end m2 hw4]
    rfl
  · obtain ⟨t, ht⟩ : ∃ t, rest = 124 :: t := by
      cases rest with
      | nil => simp at hr
      | cons b t => exact ⟨t, by simp at hr; rw [hr]⟩
    subst ht
    have hsw : seg 124 (s.drop (name.length + 1 + value.length + 1)) = word := by rw [m2]; exact seg_app hw4 _
    have hm2 : (124 : UInt8) ∈ s.drop (name.length + 1 + value.length + 1) := by rw [m2]; simp
    rw [hsw, if_neg hk, if_neg hg, decide_eq_true hm2, (nextP_app m2 hw4).1]
    rfl
theorem sd_drop {name value word t : List UInt8} {s : List UInt8} (hs : s = name ++ 58 :: (value ++ 124 :: (word ++ 124 :: t))) : s.drop (name.length + 1 + value.length + 1 + word.length + 1) = t ∧ s.length = name.length + 1 + value.length + 1 + word.length + 1 + t.length := by
  subst hs
  refine ⟨?_, by simp; omega⟩
  rw [show name.length + 1 + value.length + 1 + word.length + 1 = name.length + (1 + (value.length + (1 + (word.length + 1)))) from by omega, List.drop_append, List.drop_eq_nil_of_le (by omega), List.nil_append]
  rw [show name.length + (1 + (value.length + (1 + (word.length + 1)))) - name.length = (value.length + (1 + (word.length + 1))) + 1 from by omega, List.drop_succ_cons, List.drop_append, List.drop_eq_nil_of_le (by omega), List.nil_append,
    show value.length + (1 + (word.length + 1)) - value.length = word.length + 1 + 1 from by omega, List.drop_succ_cons, List.drop_append, List.drop_eq_nil_of_le (by omega), List.nil_append, show word.length + 1 - word.length = 0 + 1 from by omega, List.drop_succ_cons, List.drop_zero]
end
abbrev OkR (name : List UInt8) (k : Int) (d : DecL) (r : Int) : MetR := ((name, k, [d], r, [], 0, ()), (0, 0, ()), ())
theorem sd_short {name value word : List UInt8} {d : DecL} (hn : nameOK name = true) (hv : (124 : UInt8) ∉ value) (hp : parseR value = ((d.1, d.2.1, d.2.2, ()), (0, 0, ()), ())) (hk : ¬ kindOf word = 0) (hg : ¬ (kindOf word = 2 ∧ value.head? = some 45)) :
    sdParse (name ++ 58 :: (value ++ 124 :: word)) = some (OkR name (kindOf word) d 1000000) := by
  unfold sdParse
  have := sd_parts finK hn hv hp hk hg (s := name ++ 58 :: (value ++ 124 :: word)) (rest := []) (by rw [List.append_nil]) (Or.inl rfl)
  rw [this]
  rfl
theorem sd_long {name value word : List UInt8} {d : DecL} (hn : nameOK name = true) (hv : (124 : UInt8) ∉ value) (hp : parseR value = ((d.1, d.2.1, d.2.2, ()), (0, 0, ()), ())) (hk : ¬ kindOf word = 0) (hg : ¬ (kindOf word = 2 ∧ value.head? = some 45)) (t : List UInt8) :
    sdParse (name ++ 58 :: (value ++ 124 :: (word ++ 124 :: t))) = some (if ¬ t.head? = some 64 then badM 11 ((name.length + 1 + value.length + 1 + word.length + 1 : Nat) : Int)
      else if ¬ (rateR (seg 124 (t.drop 1))).2.1.1 = 0 ∨ (kindOf word = 2 ∧ ¬ (rateR (seg 124 (t.drop 1))).1 = 1000000) then badM 18 ((name.length + 1 + value.length + 1 + word.length + 1 + 1 : Nat) : Int)
      else if 124 ∈ t.drop 1 then badM 11 ((name.length + 1 + value.length + 1 + word.length + 1 + 1 + (seg 124 (t.drop 1)).length : Nat) : Int)
      else OkR name (kindOf word) d (rateR (seg 124 (t.drop 1))).1) := by
  unfold sdParse
  generalize hs : name ++ 58 :: (value ++ 124 :: (word ++ 124 :: t)) = s
  have := sd_parts finK hn hv hp hk hg (s := s) (rest := 124 :: t) hs.symm (Or.inr rfl)
  have hd := (sd_drop hs.symm).1
  rw [this]
  unfold rateS
  have h1 : (if (124 :: t : List UInt8).head? = some 124 then 1 else 0) = 1 := rfl
  have h2 : decide ((124 :: t : List UInt8).head? = some 124) = true := rfl
  have hd1 : s.drop (name.length + 1 + value.length + 1 + word.length + 1 + 1) = t.drop 1 := by rw [← List.drop_drop, hd]
  rw [h1, h2, if_neg (by simp), hd, hd1]
  repeat' split
  all_goals first | rfl | (exfalso; simp_all)
theorem sd_cases (s : List UInt8) : (∃ c a : Int, sdParse s = some (badM c a) ∧ c ≠ 0 ∧ 0 ≤ a ∧ a ≤ s.length) ∨
    (∃ name value word tail d r, s = name ++ 58 :: (value ++ 124 :: (word ++ tail)) ∧ nameOK name = true ∧ (124 : UInt8) ∉ value ∧ parseR value = ((d.1, d.2.1, d.2.2, ()), (0, 0, ()), ()) ∧ ¬ kindOf word = 0 ∧ ¬ (kindOf word = 2 ∧ value.head? = some 45) ∧
      (tail = [] ∧ r = 1000000 ∨ ∃ rt, tail = 124 :: 64 :: rt ∧ (rateR rt).2.1.1 = 0 ∧ (rateR rt).1 = r ∧ (kindOf word = 2 → r = 1000000) ∧ (124 : UInt8) ∉ rt) ∧ sdParse s = some (OkR name (kindOf word) d r)) := by
  by_cases hn : nameOK (seg 58 s) = true
  · by_cases h58 : (58 : UInt8) ∈ s
    · have hsp := seg_split h58
      have hlt := seg_lt h58
      generalize hname : seg 58 s = name at *
      generalize ht : s.drop (name.length + 1) = t at *
      have htl : t.length + (name.length + 1) = s.length := by rw [← ht]; simp; omega
      have hn0 : ¬ ¬ (textF 1 name 1 200).1 = 0 := by unfold nameOK at hn; simpa using hn
      have hq : nextP 58 s 0 = name.length + 1 := by unfold nextP; rw [List.drop_zero, if_pos h58, hname]; omega
      have e1 : sdParse s = valueS finK s name (seg 124 t) (name.length + 1) 1000000 [] 0 (decide (124 ∈ t)) (nextP 124 s (name.length + 1)) := by
        unfold sdParse nameS
        rw [hname, if_neg hn0, decide_eq_true h58, if_neg (by simp), hq, ht]
      by_cases hv : (parseR (seg 124 t)).2.1.1 = 0
      · by_cases hb : (124 : UInt8) ∈ t
        · have hsp2 := seg_split hb
          have hlt2 := seg_lt hb
          have hfree := seg_free 124 t
          generalize hvalue : seg 124 t = value at *
          generalize ht2 : t.drop (value.length + 1) = t2 at *
          have hd2 : s.drop (name.length + 1 + value.length + 1) = t2 := by rw [Nat.add_assoc (name.length + 1), ← List.drop_drop, ht, ht2]
          have htl2 : t2.length + (value.length + 1) = t.length := by rw [← ht2]; simp; omega
          have hq2 : nextP 124 s (name.length + 1) = name.length + 1 + value.length + 1 := by unfold nextP; rw [ht, if_pos hb, hvalue]
          have e2 : sdParse s = kindS finK s name (seg 124 t2) value (name.length + 1 : Nat) (name.length + 1 + value.length + 1 : Nat) [((parseR value).1.1, (parseR value).1.2.1, (parseR value).1.2.2.1)] 1000000 [] 0 (decide (124 ∈ t2)) (nextP 124 s (name.length + 1 + value.length + 1)) := by
            rw [e1]
            unfold valueS
            rw [if_neg (fun h => h hv), decide_eq_true hb, if_neg (by simp), hq2, hd2]
          by_cases hk : kindOf (seg 124 t2) = 0
          · left
            refine ⟨16, ((name.length + 1 + value.length + 1 : Nat) : Int), ?_, by decide, by omega, by omega⟩
            rw [e2]
            unfold kindS
            rw [if_pos hk]; rfl
          by_cases hg : kindOf (seg 124 t2) = 2 ∧ value.head? = some 45
          · left
            refine ⟨26, ((name.length + 1 : Nat) : Int), ?_, by decide, by omega, by omega⟩
            rw [e2]
            unfold kindS
            rw [if_neg hk, if_pos hg]; rfl
          have hat := parseR_at hv
          have hp : parseR value = (((((parseR value).1.1, (parseR value).1.2.1, (parseR value).1.2.2.1) : DecL).1, (parseR value).1.2.1, (parseR value).1.2.2.1, ()), (0, 0, ()), ()) := by
            generalize parseR value = z at hv hat
            obtain ⟨⟨a, b, c, _⟩, ⟨x, y, _⟩, _⟩ := z
            simp only at hv hat
            subst hv hat
            rfl
          by_cases hb2 : (124 : UInt8) ∈ t2
          · have hsp3 := seg_split hb2
            generalize hword : seg 124 t2 = word at *
            generalize ht3 : t2.drop (word.length + 1) = t3 at *
            have hlt3 : word.length + 1 + t3.length = t2.length := by
              have := congrArg List.length hsp3
              simp at this
              omega
            have hs : s = name ++ 58 :: (value ++ 124 :: (word ++ 124 :: t3)) := by rw [← hsp3, ← hsp2, ← hsp]
            have L := sd_long hn hfree hp hk hg t3
            rw [← hs] at L
            by_cases c1 : t3.head? = some 64
            · rw [if_neg (fun h => h c1)] at L
              obtain ⟨t4, ht4⟩ : ∃ t4, t3 = 64 :: t4 := by
                cases t3 with
                | nil => simp at c1
                | cons b t => exact ⟨t, by simp at c1; rw [c1]⟩
              subst ht4
              simp only [List.drop_succ_cons, List.drop_zero, List.length_cons] at L hlt3
              by_cases c2 : ¬ (rateR (seg 124 t4)).2.1.1 = 0 ∨ (kindOf word = 2 ∧ ¬ (rateR (seg 124 t4)).1 = 1000000)
              · rw [if_pos c2] at L
                exact Or.inl ⟨18, _, L, by decide, by omega, by omega⟩
              rw [if_neg c2] at L
              by_cases c3 : (124 : UInt8) ∈ t4
              · rw [if_pos c3] at L
                have := seg_lt c3
                exact Or.inl ⟨11, _, L, by decide, by omega, by omega⟩
              rw [if_neg c3, seg_all c3] at L
              rw [seg_all c3] at c2
              refine Or.inr ⟨name, value, word, 124 :: 64 :: t4, _, _, hs, hn, hfree, hp, hk, hg, Or.inr ⟨t4, rfl, ?_, rfl, fun h2 => ?_, c3⟩, L⟩
              · exact Classical.byContradiction fun h => c2 (Or.inl h)
              · exact Classical.byContradiction fun h => c2 (Or.inr ⟨h2, h⟩)
            · rw [if_pos c1] at L
              exact Or.inl ⟨11, _, L, by decide, by omega, by omega⟩
          · have hw : seg 124 t2 = t2 := seg_all hb2
            rw [hw] at hk hg
            have hs : s = name ++ 58 :: (value ++ 124 :: (t2 ++ [])) := by rw [List.append_nil, ← hsp2, ← hsp]
            have L := sd_short hn hfree hp hk hg
            have hs' := hs
            rw [List.append_nil] at hs'
            rw [← hs'] at L
            exact Or.inr ⟨name, value, t2, [], _, _, hs, hn, hfree, hp, hk, hg, Or.inl ⟨rfl, rfl⟩, L⟩
        · left
          refine ⟨11, (s.length : Int), ?_, by decide, by omega, by omega⟩
          rw [e1]
          unfold valueS
          rw [if_neg (fun h => h hv), decide_eq_false hb, if_pos rfl]; rfl
      · left
        refine ⟨17, ((name.length + 1 : Nat) : Int), ?_, by decide, by omega, by omega⟩
        rw [e1]
        unfold valueS
        rw [if_pos hv]; rfl
    · left
      refine ⟨11, (s.length : Int), ?_, by decide, by omega, by omega⟩
      unfold sdParse nameS
      have hn0 : ¬ ¬ (textF 1 (seg 58 s) 1 200).1 = 0 := by unfold nameOK at hn; simpa using hn
      rw [if_neg hn0, decide_eq_false h58, if_pos rfl]; rfl
  · left
    refine ⟨15, 0, ?_, by decide, by omega, by omega⟩
    unfold sdParse nameS
    rw [if_pos (fun h => hn (by unfold nameOK; simp [h]))]; rfl
end Go.AM
set_option linter.unusedVariables false
set_option linter.unusedSimpArgs false
namespace Go.AM
def parseNum (s : List UInt8) (lo hi : Int) : NumR :=
  if s = [] then numR 0 13 0 else if 0 ≤ badK isDig 0 s then numR 0 14 (badK isDig 0 s) else if s.head? = some 48 ∧ 1 < s.length then numR 0 11 0
  else if 9223372036854775808 ≤ val s ∨ (val s : Int) < lo ∨ (val s : Int) > hi then numR 0 10 0 else numR (val s) 0 0
theorem o_atoi (n : Nat) {s : List UInt8} (hd : Digs s) (hn : s ≠ []) (hs : s.length ≤ 1000000) : O.atoi n s = some (if val s < 9223372036854775808 then ((val s : Int), false, ()) else (Lib.atoiSat s, true, ())) := by
  unfold O.atoi
  have : Nat.ble s.length big47 = true := by rw [Nat.ble_eq]; unfold big47; omega
  rw [this, cond_true, atoi_digs hd hn]
  by_cases h : val s < 9223372036854775808
  · rw [if_pos h, if_pos h]
  · rw [if_neg h, if_neg h]
theorem parse_num (n : Nat) (s : List UInt8) (lo hi : Int) (hs : s.length ≤ 1000000) (hn : s.length < n) : F.num_Parse n s lo hi = some (parseNum s lo hi) := by
  unfold F.num_Parse parseNum
  rw [text_cls n 4 s _ _ (by omega) hn, some_bind', textF4 s (by omega)]
  by_cases h0 : s = []
  · rw [if_pos h0, if_pos h0]; rfl
  rw [if_neg h0, if_neg h0]
  by_cases h1 : 0 ≤ badK isDig 0 s
  · rw [if_pos h1, if_pos h1]; rfl
  rw [if_neg h1, if_neg h1]
  have e : (!((0 : Int) == 0 && (0 : Int) == 0)) = false := rfl
  simp only [e, cond_false]
  have hd := digs_of_bad h1
  cases s with
  | nil => exact absurd rfl h0
  | cons b r =>
    have ei : idx (b :: r) (0 : Int) = some b := rfl
    rw [ei, some_bind', o_atoi n hd h0 hs, some_bind']
    have tail : ∀ (p : Bool) (A : Option NumR), (bif p then A else A) = A := by intro p A; cases p <;> rfl
    have core : (bif (if val (b :: r) < 9223372036854775808 then ((val (b :: r) : Int), false, ()) else (Lib.atoiSat (b :: r), true, ())).2.1 then (F.num_fault n 10 0).bind fun y6 => some ((y6.1, (y6.2.1.1, y6.2.1.2.1, ()), ()))
        else bif decide ((if val (b :: r) < 9223372036854775808 then ((val (b :: r) : Int), false, ()) else (Lib.atoiSat (b :: r), true, ())).1 < lo) then (F.num_fault n 10 0).bind fun y6 => some ((y6.1, (y6.2.1.1, y6.2.1.2.1, ()), ()))
        else bif decide ((if val (b :: r) < 9223372036854775808 then ((val (b :: r) : Int), false, ()) else (Lib.atoiSat (b :: r), true, ())).1 > hi) then (F.num_fault n 10 0).bind fun y6 => some ((y6.1, (y6.2.1.1, y6.2.1.2.1, ()), ()))
        else some (((if val (b :: r) < 9223372036854775808 then ((val (b :: r) : Int), false, ()) else (Lib.atoiSat (b :: r), true, ())).1, ((0 : Int), (0 : Int), ()), ())))
        = some (if 9223372036854775808 ≤ val (b :: r) ∨ (val (b :: r) : Int) < lo ∨ (val (b :: r) : Int) > hi then numR 0 10 0 else numR (val (b :: r)) 0 0) := by
      by_cases hv : val (b :: r) < 9223372036854775808
      · rw [if_pos hv]
        simp only [cond_false]
        by_cases g1 : (val (b :: r) : Int) < lo
        · rw [bif_pos g1, if_pos (Or.inr (Or.inl g1))]; rfl
        · rw [bif_neg g1]
          by_cases g2 : (val (b :: r) : Int) > hi
          · rw [bif_pos g2, if_pos (Or.inr (Or.inr g2))]; rfl
          · rw [bif_neg g2, if_neg (by omega)]; rfl
      · rw [if_neg hv, if_pos (Or.inl (by omega))]; rfl
    by_cases hb : b = 48
    · subst hb
      have e2 : ((((48 : UInt8).toNat : Nat) : Int) == 48) = true := rfl
      rw [e2, cond_true]
      by_cases hl : 1 < (48 :: r).length
      · rw [bif_pos (by omega), if_pos (show (48 :: r).head? = some 48 ∧ 1 < (48 :: r).length from ⟨rfl, hl⟩)]; rfl
      · rw [bif_neg (by omega), if_neg (show ¬ ((48 :: r).head? = some 48 ∧ 1 < (48 :: r).length) from fun h => hl h.2)]; exact core
    · have e2 : ((b.toNat : Int) == 48) = false := by
        have : ¬ (b.toNat : Int) = 48 := fun h => hb (u8_ext (by simp; omega))
        simpa using this
      rw [e2, cond_false, if_neg (show ¬ ((b :: r).head? = some 48 ∧ 1 < (b :: r).length) from fun h => hb (by simpa using h.1))]; exact core
theorem time_eq (n : Nat) (s : List UInt8) (hs : s.length ≤ 1000000) (hn : s.length < n) : F.num_Time n s = some (parseNum s 1 1099511627776) := by
  unfold F.num_Time
  rw [parse_num n s _ _ hs hn, some_bind']
theorem parse_back {s : List UInt8} {lo hi : Int} (h : (parseNum s lo hi).2.1.1 = 0) : (parseNum s lo hi).2.1.2.1 = 0 ∧ (parseNum s lo hi).1 = (val s : Int) ∧ val s < 9223372036854775808 ∧ lo ≤ (val s : Int) ∧ (val s : Int) ≤ hi ∧ Digs s ∧ Norm s := by
  unfold parseNum at h ⊢
  by_cases h0 : s = []
  · rw [if_pos h0] at h; cases h
  rw [if_neg h0] at h ⊢
  by_cases h1 : 0 ≤ badK isDig 0 s
  · rw [if_pos h1] at h; cases h
  rw [if_neg h1] at h ⊢
  by_cases h2 : s.head? = some 48 ∧ 1 < s.length
  · rw [if_pos h2] at h; cases h
  rw [if_neg h2] at h ⊢
  by_cases h3 : 9223372036854775808 ≤ val s ∨ (val s : Int) < lo ∨ (val s : Int) > hi
  · rw [if_pos h3] at h; cases h
  rw [if_neg h3]
  refine ⟨rfl, rfl, by omega, by omega, by omega, digs_of_bad h1, h0, fun h => ?_⟩
  have h4 : ¬ 1 < s.length := fun hl => h2 ⟨h, hl⟩
  have : 0 < s.length := List.length_pos_iff.2 h0
  omega
end Go.AM
set_option linter.unusedVariables false
set_option linter.unusedSimpArgs false
namespace Go.AM
theorem decL_beq (x y : DecL) : ((x.1 == y.1) && ((x.2.1 == y.2.1) && (x.2.2 == y.2.2))) = decide (x = y) := by
  obtain ⟨a, b, c⟩ := x
  obtain ⟨a', b', c'⟩ := y
  by_cases h : ((a, b, c) : DecL) = (a', b', c')
  · rw [decide_eq_true h]
    simp only [Prod.mk.injEq] at h
    simp [h.1, h.2.1, h.2.2]
  · rw [decide_eq_false h]
    cases h1 : (a == a') && ((b == b') && (c == c')) with
    | false => rfl
    | true =>
      simp only [Bool.and_eq_true, beq_iff_eq] at h1
      exact absurd (by rw [h1.1, h1.2.1, h1.2.2]) h
theorem tagL_beq (x y : TagL) : ((x.1 == y.1) && (x.2 == y.2)) = decide (x = y) := by
  obtain ⟨a, b⟩ := x
  obtain ⟨a', b'⟩ := y
  by_cases h : ((a, b) : TagL) = (a', b')
  · rw [decide_eq_true h]
    simp only [Prod.mk.injEq] at h
    simp [h.1, h.2]
  · rw [decide_eq_false h]
    cases h1 : (a == a') && (b == b') with
    | false => rfl
    | true =>
      simp only [Bool.and_eq_true, beq_iff_eq] at h1
      exact absurd (by rw [h1.1, h1.2]) h
theorem refeq_decs (n : Nat) (X : Type) (k0 : List UInt8 → Int → List DecL → Int → List TagL → Int → List UInt8 → Int → List DecL → Int → List TagL → Int → Option X) (kr : Bool → List UInt8 → Int → List DecL → Int → List TagL → Int → List UInt8 → Int → List DecL → Int → List TagL → Int → Option X) (nm : List UInt8) (k : Int) (vs : List DecL) (r : Int) (ts : List TagL) (t : Int) (hs : vs.length ≤ 10000) : ∀ (j i m : Nat), i + j = vs.length → j < m →
    F.ref07_Equal.L4 n k0 kr m (i : Int) nm k vs r ts t nm k vs r ts t = k0 nm k vs r ts t nm k vs r ts t := by
  intro j
  induction j with
  | zero =>
    intro i m hi hm
    obtain ⟨m, rfl⟩ : ∃ q, m = q + 1 := ⟨m - 1, by omega⟩
    show F.ref07_Equal.L4.step n (F.ref07_Equal.L4 n k0 kr m) k0 kr _ _ _ _ _ _ _ _ _ _ _ _ _ = _
    unfold F.ref07_Equal.L4.step
    rw [bif_neg (by omega)]
  | succ j ih =>
    intro i m hi hm
    obtain ⟨m, rfl⟩ : ∃ q, m = q + 1 := ⟨m - 1, by omega⟩
    show F.ref07_Equal.L4.step n (F.ref07_Equal.L4 n k0 kr m) k0 kr _ _ _ _ _ _ _ _ _ _ _ _ _ = _
    unfold F.ref07_Equal.L4.step
    rw [bif_pos (by omega), idx_lt (by omega : i < vs.length), some_bind', some_bind', decL_beq, decide_eq_true rfl, Bool.not_true, cond_false, wrap_succ (by omega), ih (i + 1) m (by omega) (by omega)]
theorem refeq_tags (n : Nat) (X : Type) (k0 : List UInt8 → Int → List DecL → Int → List TagL → Int → List UInt8 → Int → List DecL → Int → List TagL → Int → Option X) (kr : Bool → List UInt8 → Int → List DecL → Int → List TagL → Int → List UInt8 → Int → List DecL → Int → List TagL → Int → Option X) (nm : List UInt8) (k : Int) (vs : List DecL) (r : Int) (ts : List TagL) (t : Int) (hs : ts.length ≤ 10000) : ∀ (j i m : Nat), i + j = ts.length → j < m →
    F.ref07_Equal.L9 n k0 kr m (i : Int) nm k vs r ts t nm k vs r ts t = k0 nm k vs r ts t nm k vs r ts t := by
  intro j
  induction j with
  | zero =>
    intro i m hi hm
    obtain ⟨m, rfl⟩ : ∃ q, m = q + 1 := ⟨m - 1, by omega⟩
    show F.ref07_Equal.L9.step n (F.ref07_Equal.L9 n k0 kr m) k0 kr _ _ _ _ _ _ _ _ _ _ _ _ _ = _
    unfold F.ref07_Equal.L9.step
    rw [bif_neg (by omega)]
  | succ j ih =>
    intro i m hi hm
    obtain ⟨m, rfl⟩ : ∃ q, m = q + 1 := ⟨m - 1, by omega⟩
    show F.ref07_Equal.L9.step n (F.ref07_Equal.L9 n k0 kr m) k0 kr _ _ _ _ _ _ _ _ _ _ _ _ _ = _
    unfold F.ref07_Equal.L9.step
    rw [bif_pos (by omega), idx_lt (by omega : i < ts.length), some_bind', some_bind', tagL_beq, decide_eq_true rfl, Bool.not_true, cond_false, wrap_succ (by omega), ih (i + 1) m (by omega) (by omega)]
theorem refequal_refl (n : Nat) (hn : 200000 ≤ n) (a : MetD) (h1 : a.2.2.1.length ≤ 10000) (h2 : a.2.2.2.2.1.length ≤ 10000) : F.ref07_Equal n a a = some true := by
  obtain ⟨nm, k, vs, r, ts, t, _⟩ := a
  simp only at h1 h2
  unfold F.ref07_Equal
  simp only [beq_self_eq_true, Bool.not_true, cond_false]
  refine (refeq_decs n Bool _ _ nm k vs r ts t h1 vs.length 0 n (by omega) (by omega)).trans ?_
  exact refeq_tags n Bool _ _ nm k vs r ts t h2 ts.length 0 n (by omega) (by omega)
end Go.AM
set_option linter.unusedVariables false
set_option linter.unusedSimpArgs false
namespace Go.AM
theorem parse_ok {s : List UInt8} (h : (parseR s).2.1.1 = 0) : ∃ (neg : Bool) (c : Nat) (e : Int), parseR s = ((neg, (c : Int), e, ()), (0, 0, ()), ()) ∧ c < two64 ∧ (-9223372036854775808 ≤ e ∧ e ≤ 9223372036854775807) ∧ checkR neg c e = 0 := by
  rcases parse_cases s with ⟨h1, _⟩ | h1
  · exact absurd h h1
  · exact h1
end Go.AM
set_option linter.unusedVariables false
set_option linter.unusedSimpArgs false
namespace Go.AM
abbrev timeR (s : List UInt8) : NumR := parseNum s 1 1099511627776
abbrev OkG (name : List UInt8) (d : DecL) (t : Int) : MetR := ((name, 2, [d], 1000000, [], t, ()), (0, 0, ()), ())
def timeS (name : List UInt8) (d : DecL) (u : List UInt8) (p : Nat) : MetR :=
  if ¬ (timeR (seg 32 u)).2.1.1 = 0 then badM 20 (p : Int) else if 32 ∈ u then badM 11 ((p + (seg 32 u).length : Nat) : Int) else OkG name d (timeR (seg 32 u)).1
def valueG (name : List UInt8) (u : List UInt8) (p : Nat) : MetR :=
  if ¬ (parseR (seg 32 u)).2.1.1 = 0 then badM 17 (p : Int) else if ¬ 32 ∈ u then badM 11 ((p + (seg 32 u).length : Nat) : Int)
  else timeS name ((parseR (seg 32 u)).1.1, (parseR (seg 32 u)).1.2.1, (parseR (seg 32 u)).1.2.2.1) (u.drop ((seg 32 u).length + 1)) (p + (seg 32 u).length + 1)
def grParse (s : List UInt8) : MetR :=
  if nameOK (seg 32 s) = false then badM 15 0 else if ¬ 32 ∈ s then badM 11 ((seg 32 s).length : Int) else valueG (seg 32 s) (s.drop ((seg 32 s).length + 1)) ((seg 32 s).length + 1)
theorem parseNum_at {s : List UInt8} {lo hi : Int} (h : (parseNum s lo hi).2.1.1 = 0) : (parseNum s lo hi).2.1.2.1 = 0 := (parse_back h).1
theorem faultN_both {c a : Int} (h : c = 0 → a = 0) : (!((c == 0) && (a == 0))) = !(c == 0) := by
  by_cases hc : c = 0
  · rw [hc, h hc]; rfl
  · rw [beq_eq_false_iff_ne.2 hc]; rfl
section
variable {X : Type} (n : Nat) (rec : Int → Int → Bool → List UInt8 → Int → List DecL → Int → List TagL → Int → Int → Int → List UInt8 → Int → List DecL → Int → List TagL → Int → Int → Int → List UInt8 → Nat → Nat → Nat → Nat → Option X)
  (k0 kr : List UInt8 → Int → List DecL → Int → List TagL → Int → Int → Int → List UInt8 → Int → List DecL → Int → List TagL → Int → Int → Int → List UInt8 → Nat → Nat → Nat → Nat → Option X)
  (b0 : List UInt8) (b1 : Int) (b2 : List DecL) (b3 : Int) (b4 : List TagL) (b5 b6 b7 : Int) (nm : List UInt8) (kd : Int) (vs : List DecL) (rt : Int) (ts : List TagL) (tm c a : Int) (s : List UInt8) (i0 i1 i2 i3 : Nat)
theorem g_end (p i : Int) : F.graphite_Parse.L2_graphite_cut_1.step n rec k0 kr p i false b0 b1 b2 b3 b4 b5 b6 b7 nm kd vs rt ts tm c a s i0 i1 i2 i3 = k0 b0 b1 b2 b3 b4 b5 b6 b7 nm kd vs rt ts tm c a s i0 i1 i2 i3 := rfl
theorem g_round0 (hn : 200000 ≤ n) (p : Nat) (hp : p ≤ s.length) (hs : s.length ≤ 10000) :
    F.graphite_Parse.L2_graphite_cut_1.step n rec k0 kr (p : Int) 0 true b0 b1 b2 b3 b4 b5 b6 b7 nm kd vs rt ts tm c a s i0 i1 i2 i3 =
      (if nameOK (seg 32 (s.drop p)) = false then kr b0 b1 b2 b3 b4 b5 b6 b7 (seg 32 (s.drop p)) kd vs rt ts tm 15 (p : Int) s i0 i1 i2 i3
      else if ¬ 32 ∈ s.drop p then kr b0 b1 b2 b3 b4 b5 b6 b7 (seg 32 (s.drop p)) kd vs rt ts tm 11 ((p + (seg 32 (s.drop p)).length : Nat) : Int) s i0 i1 i2 i3
      else rec ((p + (seg 32 (s.drop p)).length + 1 : Nat) : Int) 1 true b0 b1 b2 b3 b4 b5 b6 b7 (seg 32 (s.drop p)) kd vs rt ts tm c a s i0 i1 i2 i3) := by
  unfold F.graphite_Parse.L2_graphite_cut_1.step
  have hl := seg_le 32 (s.drop p)
  simp only [List.length_drop] at hl
  rw [cond_true, sub_tail hp, some_bind', cut_eq n 32 (by simp; omega), some_bind']
  simp only [beq_self_eq_true, cond_true]
  rw [text_cls n 1 _ 1 200 (by omega) (by omega), some_bind', textF_both]
  have e1 : ((textF 1 (seg 32 (s.drop p)) 1 200).1 == 0) = nameOK (seg 32 (s.drop p)) := rfl
  have w1 : IntKind.wrap .i64 ((p : Int) + ((seg 32 (s.drop p)).length : Int)) = ((p + (seg 32 (s.drop p)).length : Nat) : Int) := by rw [wrap_in (by omega)]; omega
  have w2 : IntKind.wrap .i64 ((p : Int) + (IntKind.wrap .i64 (((seg 32 (s.drop p)).length : Int) + (1 : Int)))) = ((p + (seg 32 (s.drop p)).length + 1 : Nat) : Int) := by rw [wrap_in (x := ((seg 32 (s.drop p)).length : Int) + 1) (by omega), wrap_in (by omega)]; omega
  have w3 : IntKind.wrap .i64 ((0 : Int) + 1) = 1 := rfl
  rw [e1, w1, w2, w3]
  cases nameOK (seg 32 (s.drop p))
  · rfl
  · have d2 : decide ((0 : Int) < 2) = true := rfl
    rw [Bool.not_true, cond_false, if_neg (by simp), d2]
    by_cases hm : 32 ∈ s.drop p
    · rw [decide_eq_true hm, if_neg (fun h => h hm)]; rfl
    · rw [decide_eq_false hm, if_pos hm]; rfl
theorem g_round1 (hn : 200000 ≤ n) (p : Nat) (hp : p ≤ s.length) (hs : s.length ≤ 10000) :
    F.graphite_Parse.L2_graphite_cut_1.step n rec k0 kr (p : Int) 1 true b0 b1 b2 b3 b4 b5 b6 b7 nm kd vs rt ts tm c a s i0 i1 i2 i3 =
      (if ¬ (parseR (seg 32 (s.drop p))).2.1.1 = 0 then kr b0 b1 b2 b3 b4 b5 b6 b7 nm kd vs rt ts tm 17 (p : Int) s i0 i1 i2 i3
      else if ¬ 32 ∈ s.drop p then kr b0 b1 b2 b3 b4 b5 b6 b7 nm kd [((parseR (seg 32 (s.drop p))).1.1, (parseR (seg 32 (s.drop p))).1.2.1, (parseR (seg 32 (s.drop p))).1.2.2.1)] rt ts tm 11 ((p + (seg 32 (s.drop p)).length : Nat) : Int) s i0 i1 1 i3
      else rec ((p + (seg 32 (s.drop p)).length + 1 : Nat) : Int) 2 true b0 b1 b2 b3 b4 b5 b6 b7 nm kd [((parseR (seg 32 (s.drop p))).1.1, (parseR (seg 32 (s.drop p))).1.2.1, (parseR (seg 32 (s.drop p))).1.2.2.1)] rt ts tm c a s i0 i1 1 i3) := by
  unfold F.graphite_Parse.L2_graphite_cut_1.step
  have hl := seg_le 32 (s.drop p)
  simp only [List.length_drop] at hl
  rw [cond_true, sub_tail hp, some_bind', cut_eq n 32 (by simp; omega), some_bind']
  have g1 : ((1 : Int) == 0) = false := rfl
  simp only [beq_self_eq_true, cond_true, g1, cond_false]
  have w1 : IntKind.wrap .i64 ((p : Int) + ((seg 32 (s.drop p)).length : Int)) = ((p + (seg 32 (s.drop p)).length : Nat) : Int) := by rw [wrap_in (by omega)]; omega
  have w2 : IntKind.wrap .i64 ((p : Int) + (IntKind.wrap .i64 (((seg 32 (s.drop p)).length : Int) + (1 : Int)))) = ((p + (seg 32 (s.drop p)).length + 1 : Nat) : Int) := by rw [wrap_in (x := ((seg 32 (s.drop p)).length : Int) + 1) (by omega), wrap_in (by omega)]; omega
  have w3 : IntKind.wrap .i64 ((1 : Int) + 1) = 2 := rfl
  rw [decparse_eq n hn _ (by omega), some_bind', faultN_both (fun h => parseR_at h), w1, w2, w3]
  by_cases h0 : (parseR (seg 32 (s.drop p))).2.1.1 = 0
  · have e0 : ((parseR (seg 32 (s.drop p))).2.1.1 == 0) = true := by simp [h0]
    have d2 : decide ((1 : Int) < 2) = true := rfl
    rw [e0, Bool.not_true, cond_false, if_neg (fun h => h h0), d2]
    by_cases hm : 32 ∈ s.drop p
    · rw [decide_eq_true hm, if_neg (fun h => h hm)]; rfl
    · rw [decide_eq_false hm, if_pos hm]; rfl
  · have e0 : ((parseR (seg 32 (s.drop p))).2.1.1 == 0) = false := by simpa using h0
    rw [e0, if_pos h0]; rfl
theorem g_round2 (hn : 200000 ≤ n) (p : Nat) (hp : p ≤ s.length) (hs : s.length ≤ 10000) :
    F.graphite_Parse.L2_graphite_cut_1.step n rec k0 kr (p : Int) 2 true b0 b1 b2 b3 b4 b5 b6 b7 nm kd vs rt ts tm c a s i0 i1 i2 i3 =
      (if ¬ (timeR (seg 32 (s.drop p))).2.1.1 = 0 then kr b0 b1 b2 b3 b4 b5 b6 b7 nm kd vs rt ts tm 20 (p : Int) s i0 i1 i2 i3
      else if 32 ∈ s.drop p then kr b0 b1 b2 b3 b4 b5 b6 b7 nm kd vs rt ts (timeR (seg 32 (s.drop p))).1 11 ((p + (seg 32 (s.drop p)).length : Nat) : Int) s i0 i1 i2 i3
      else rec ((p + (seg 32 (s.drop p)).length + 1 : Nat) : Int) 3 false b0 b1 b2 b3 b4 b5 b6 b7 nm kd vs rt ts (timeR (seg 32 (s.drop p))).1 c a s i0 i1 i2 i3) := by
  unfold F.graphite_Parse.L2_graphite_cut_1.step
  have hl := seg_le 32 (s.drop p)
  simp only [List.length_drop] at hl
  rw [cond_true, sub_tail hp, some_bind', cut_eq n 32 (by simp; omega), some_bind']
  have g1 : ((2 : Int) == 0) = false := rfl
  have g2 : ((2 : Int) == 1) = false := rfl
  simp only [g1, g2, cond_false]
  have w1 : IntKind.wrap .i64 ((p : Int) + ((seg 32 (s.drop p)).length : Int)) = ((p + (seg 32 (s.drop p)).length : Nat) : Int) := by rw [wrap_in (by omega)]; omega
  have w2 : IntKind.wrap .i64 ((p : Int) + (IntKind.wrap .i64 (((seg 32 (s.drop p)).length : Int) + (1 : Int)))) = ((p + (seg 32 (s.drop p)).length + 1 : Nat) : Int) := by rw [wrap_in (x := ((seg 32 (s.drop p)).length : Int) + 1) (by omega), wrap_in (by omega)]; omega
  have w3 : IntKind.wrap .i64 ((2 : Int) + 1) = 3 := rfl
  rw [time_eq n _ (by omega) (by omega), some_bind', faultN_both (fun h => parseNum_at h), w1, w2, w3]
  by_cases h0 : (timeR (seg 32 (s.drop p))).2.1.1 = 0
  · have e0 : ((timeR (seg 32 (s.drop p))).2.1.1 == 0) = true := by simp [h0]
    have d2 : decide ((2 : Int) < 2) = false := rfl
    rw [e0, Bool.not_true, cond_false, if_neg (fun h => h h0), d2]
    by_cases hm : 32 ∈ s.drop p
    · rw [decide_eq_true hm, if_pos hm]; rfl
    · rw [decide_eq_false hm, if_neg hm]; rfl
  · have e0 : ((timeR (seg 32 (s.drop p))).2.1.1 == 0) = false := by simpa using h0
    rw [e0, if_pos h0]; rfl
end
theorem grParse_eq (n : Nat) (hn : 200000 ≤ n) (s : List UInt8) (hs : s.length ≤ 10000) : F.graphite_Parse n s = some (grParse s) := by
  unfold F.graphite_Parse
  generalize hk0 : (fun (e6_b0_0 : List UInt8) (e6_b0_1 : Int) (e6_b0_2 : List DecL) (e6_b0_3 : Int) (e6_b0_4 : List TagL) (e6_b0_5 e6_b1_0 e6_b1_1 : Int) (e6_b2_0 : List UInt8) (e6_b2_1 : Int) (e6_b2_2 : List DecL) (e6_b2_3 : Int) (e6_b2_4 : List TagL) (e6_b2_5 e6_b3_0 e6_b3_1 : Int) (e6_b4_0 : List UInt8) (e6_k0 e6_k1 e6_k2 e6_k3 : Nat) =>
      bif !((e6_b3_0 == (0 : Int)) && (e6_b3_1 == (0 : Int))) then
        some (((([], (0 : Int), [], (0 : Int), [], (0 : Int), ()), (e6_b3_0, e6_b3_1, ()), ()) : MetR))
      else
        some (((e6_b2_0, e6_b2_1, e6_b2_2, e6_b2_3, e6_b2_4, e6_b2_5, ()), (e6_b3_0, e6_b3_1, ()), ()))) = k0
  have hbad : ∀ (b0 : List UInt8) (b1 : Int) (b2 : List DecL) (b3 : Int) (b4 : List TagL) (b5 b6 b7 : Int) (nm : List UInt8) (kd : Int) (vs : List DecL) (rt : Int) (ts : List TagL) (tm c a : Int) (s : List UInt8) (i0 i1 i2 i3 : Nat), ¬ c = 0 → k0 b0 b1 b2 b3 b4 b5 b6 b7 nm kd vs rt ts tm c a s i0 i1 i2 i3 = some (badM c a) := by
    intro b0 b1 b2 b3 b4 b5 b6 b7 nm kd vs rt ts tm c a s i0 i1 i2 i3 hc
    rw [← hk0]
    simp only
    rw [beq_eq_false_iff_ne.2 hc]; rfl
  have hok : ∀ (b0 : List UInt8) (b1 : Int) (b2 : List DecL) (b3 : Int) (b4 : List TagL) (b5 b6 b7 : Int) (nm : List UInt8) (kd : Int) (vs : List DecL) (rt : Int) (ts : List TagL) (tm : Int) (s : List UInt8) (i0 i1 i2 i3 : Nat), k0 b0 b1 b2 b3 b4 b5 b6 b7 nm kd vs rt ts tm 0 0 s i0 i1 i2 i3 = some ((nm, kd, vs, rt, ts, tm, ()), (0, 0, ()), ()) := by
    intro b0 b1 b2 b3 b4 b5 b6 b7 nm kd vs rt ts tm s i0 i1 i2 i3
    rw [← hk0]; rfl
  obtain ⟨q, hq⟩ : ∃ q, n = q + 1 + 1 + 1 + 1 := ⟨n - 4, by omega⟩
  have st : ∀ m p i b b0 b1 b2 b3 b4 b5 b6 b7 nm kd vs rt ts tm c a s i0 i1 i2 i3, F.graphite_Parse.L2_graphite_cut_1 n k0 k0 (m + 1) p i b b0 b1 b2 b3 b4 b5 b6 b7 nm kd vs rt ts tm c a s i0 i1 i2 i3 = F.graphite_Parse.L2_graphite_cut_1.step n (F.graphite_Parse.L2_graphite_cut_1 n k0 k0 m) k0 k0 p i b b0 b1 b2 b3 b4 b5 b6 b7 nm kd vs rt ts tm c a s i0 i1 i2 i3 := fun _ _ _ _ _ _ _ _ _ _ _ _ _ _ _ _ _ _ _ _ _ _ _ _ _ => rfl
  have key : F.graphite_Parse.L2_graphite_cut_1 n k0 k0 (q + 1 + 1 + 1 + 1) 0 0 true [] 0 [] 0 [] 0 0 0 [] 2 [] 1000000 [] 0 0 0 s 0 0 0 0 = some (grParse s) := by
    have hl := seg_le 32 s
    have r0 := g_round0 n (F.graphite_Parse.L2_graphite_cut_1 n k0 k0 (q + 1 + 1 + 1)) k0 k0 [] 0 [] 0 [] 0 0 0 [] 2 [] 1000000 [] 0 0 0 s 0 0 0 0 hn 0 (by omega) hs
    rw [st]
    refine r0.trans ?_
    rw [List.drop_zero, Nat.zero_add]
    unfold grParse
    by_cases h1 : nameOK (seg 32 s) = false
    · rw [if_pos h1, if_pos h1]; exact hbad _ _ _ _ _ _ _ _ _ _ _ _ _ _ _ _ _ _ _ _ _ (by decide)
    rw [if_neg h1, if_neg h1]
    by_cases h2 : ¬ 32 ∈ s
    · rw [if_pos h2, if_pos h2]; exact hbad _ _ _ _ _ _ _ _ _ _ _ _ _ _ _ _ _ _ _ _ _ (by decide)
    rw [if_neg h2, if_neg h2]
    have hlt := seg_lt (Classical.not_not.1 h2)
    generalize hA : (seg 32 s).length = A at *
    have hl2 := seg_le 32 (s.drop (A + 1))
    simp only [List.length_drop] at hl2
    rw [st, g_round1 n _ k0 k0 _ _ _ _ _ _ _ _ _ _ _ _ _ _ _ _ s _ _ _ _ hn (A + 1) (by omega) hs]
    unfold valueG
    by_cases h3 : ¬ (parseR (seg 32 (s.drop (A + 1)))).2.1.1 = 0
    · rw [if_pos h3, if_pos h3]; exact hbad _ _ _ _ _ _ _ _ _ _ _ _ _ _ _ _ _ _ _ _ _ (by decide)
    rw [if_neg h3, if_neg h3]
    by_cases h4 : ¬ 32 ∈ s.drop (A + 1)
    · rw [if_pos h4, if_pos h4]; exact hbad _ _ _ _ _ _ _ _ _ _ _ _ _ _ _ _ _ _ _ _ _ (by decide)
    rw [if_neg h4, if_neg h4]
    have hlt2 := seg_lt (Classical.not_not.1 h4)
    simp only [List.length_drop] at hlt2
    have hd2 : (s.drop (A + 1)).drop ((seg 32 (s.drop (A + 1))).length + 1) = s.drop (A + 1 + (seg 32 (s.drop (A + 1))).length + 1) := by rw [List.drop_drop]; rfl
    rw [hd2]
    generalize hB : A + 1 + (seg 32 (s.drop (A + 1))).length = B at *
    rw [st, g_round2 n _ k0 k0 _ _ _ _ _ _ _ _ _ _ _ _ _ _ _ _ s _ _ _ _ hn (B + 1) (by omega) hs]
    unfold timeS
    by_cases h5 : ¬ (timeR (seg 32 (s.drop (B + 1)))).2.1.1 = 0
    · rw [if_pos h5, if_pos h5]; exact hbad _ _ _ _ _ _ _ _ _ _ _ _ _ _ _ _ _ _ _ _ _ (by decide)
    rw [if_neg h5, if_neg h5]
    by_cases h6 : 32 ∈ s.drop (B + 1)
    · rw [if_pos h6, if_pos h6]; exact hbad _ _ _ _ _ _ _ _ _ _ _ _ _ _ _ _ _ _ _ _ _ (by decide)
    rw [if_neg h6, if_neg h6, st, g_end]
    exact hok _ _ _ _ _ _ _ _ _ _ _ _ _ _ _ _ _ _ _
  rw [← hq] at key
  exact key
end Go.AM
set_option linter.unusedVariables false
set_option linter.unusedSimpArgs false
namespace Go.AM
theorem gr_cases (s : List UInt8) : (∃ c a : Int, grParse s = badM c a ∧ c ≠ 0 ∧ 0 ≤ a ∧ a ≤ s.length) ∨
    (∃ name value time d, s = name ++ 32 :: (value ++ 32 :: time) ∧ nameOK name = true ∧ (32 : UInt8) ∉ name ∧ (32 : UInt8) ∉ value ∧ (32 : UInt8) ∉ time ∧ parseR value = ((d.1, d.2.1, d.2.2, ()), (0, 0, ()), ()) ∧ (timeR time).2.1.1 = 0 ∧ grParse s = OkG name d (timeR time).1) := by
  unfold grParse
  have hl := seg_le 32 s
  by_cases h1 : nameOK (seg 32 s) = false
  · rw [if_pos h1]
    exact Or.inl ⟨15, 0, rfl, by decide, by omega, by omega⟩
  rw [if_neg h1]
  by_cases h2 : ¬ 32 ∈ s
  · rw [if_pos h2]
    exact Or.inl ⟨11, _, rfl, by decide, by omega, by omega⟩
  rw [if_neg h2]
  have h2' := Classical.not_not.1 h2
  have hsp := seg_split h2'
  have hfr := seg_free 32 s
  have hlen := congrArg List.length hsp
  simp only [List.length_append, List.length_cons] at hlen
  generalize seg 32 s = name at *
  generalize s.drop (name.length + 1) = t at *
  unfold valueG
  have hl2 := seg_le 32 t
  by_cases h3 : ¬ (parseR (seg 32 t)).2.1.1 = 0
  · rw [if_pos h3]
    exact Or.inl ⟨17, _, rfl, by decide, by omega, by omega⟩
  rw [if_neg h3]
  by_cases h4 : ¬ 32 ∈ t
  · rw [if_pos h4]
    exact Or.inl ⟨11, _, rfl, by decide, by omega, by omega⟩
  rw [if_neg h4]
  have h4' := Classical.not_not.1 h4
  have hsp2 := seg_split h4'
  have hfr2 := seg_free 32 t
  have hlen2 := congrArg List.length hsp2
  simp only [List.length_append, List.length_cons] at hlen2
  generalize seg 32 t = value at *
  generalize t.drop (value.length + 1) = u at *
  unfold timeS
  have hl3 := seg_le 32 u
  by_cases h5 : ¬ (timeR (seg 32 u)).2.1.1 = 0
  · rw [if_pos h5]
    exact Or.inl ⟨20, _, rfl, by decide, by omega, by omega⟩
  rw [if_neg h5]
  by_cases h6 : 32 ∈ u
  · rw [if_pos h6]
    exact Or.inl ⟨11, _, rfl, by decide, by omega, by omega⟩
  rw [if_neg h6]
  rw [seg_all h6] at h5 ⊢
  have h3' := Classical.not_not.1 h3
  have hat := parseR_at h3'
  refine Or.inr ⟨name, value, u, ((parseR value).1.1, (parseR value).1.2.1, (parseR value).1.2.2.1), by rw [← hsp2, ← hsp], by simpa using h1, hfr, hfr2, h6, ?_, Classical.not_not.1 h5, rfl⟩
  generalize parseR value = z at h3' hat
  obtain ⟨⟨a, b, c, _⟩, ⟨x, y, _⟩, _⟩ := z
  simp only at h3' hat
  subst h3' hat
  rfl
end Go.AM
set_option linter.unusedVariables false
set_option linter.unusedSimpArgs false
namespace Go.AM
def insD (t : TagL) : List TagL → List TagL
  | [] => [t]
  | x :: r => if ltT x t then x :: insD t r else if x = t then x :: r else t :: x :: r
def normT (l : List TagL) : List TagL := l.foldl (fun o t => insD t o) []
abbrev StrictT (l : List TagL) : Prop := l.Pairwise fun a b => ltT a b = true
theorem insD_mem (t : TagL) : ∀ (l : List TagL) (x : TagL), x ∈ insD t l ↔ x = t ∨ x ∈ l
  | [], x => by simp [insD]
  | y :: r, x => by
    unfold insD
    split
    · simp only [List.mem_cons, insD_mem t r x]
      constructor
      · rintro (h | h | h) <;> simp [h]
      · rintro (h | h | h) <;> simp [h]
    · split
      · rename_i e
        subst e
        simp only [List.mem_cons]
        constructor
        · rintro (h | h) <;> simp [h]
        · rintro (h | h | h) <;> simp [h]
      · simp only [List.mem_cons]
theorem insD_strict (t : TagL) : ∀ (l : List TagL), StrictT l → StrictT (insD t l)
  | [], _ => by simp [insD, StrictT]
  | y :: r, h => by
    obtain ⟨h1, h2⟩ := List.pairwise_cons.1 h
    unfold insD
    split
    · rename_i hy
      refine List.pairwise_cons.2 ⟨fun x hx => ?_, insD_strict t r h2⟩
      rcases (insD_mem t r x).1 hx with rfl | hx
      · exact hy
      · exact h1 x hx
    · rename_i hy
      split
      · exact h
      · rename_i hne
        have hty : ltT t y = true := by
          cases hc : ltT t y
          · exact absurd (ltT_total (by simpa using hy) hc) hne
          · rfl
        refine List.pairwise_cons.2 ⟨fun x hx => ?_, h⟩
        rcases List.mem_cons.1 hx with rfl | hx
        · exact hty
        · exact ltT_trans hty (h1 x hx)
theorem strict_unique : ∀ (a b : List TagL), StrictT a → StrictT b → (∀ x, x ∈ a ↔ x ∈ b) → a = b
  | [], [], _, _, _ => rfl
  | [], y :: b, _, _, h => by have := (h y).2 (by simp); cases this
  | x :: a, [], _, _, h => by have := (h x).1 (by simp); cases this
  | x :: a, y :: b, ha, hb, h => by
    obtain ⟨h1, h2⟩ := List.pairwise_cons.1 ha
    obtain ⟨h3, h4⟩ := List.pairwise_cons.1 hb
    have e : x = y := by
      rcases List.mem_cons.1 ((h x).1 (by simp)) with e | e
      · exact e
      · rcases List.mem_cons.1 ((h y).2 (by simp)) with e' | e'
        · exact e'.symm
        · have := ltT_asymm (h1 y e'); rw [h3 x e] at this; cases this
    subst e
    rw [strict_unique a b h2 h4 (fun z => ?_)]
    have hx := h z
    simp only [List.mem_cons] at hx
    constructor
    · intro hz
      rcases hx.1 (Or.inr hz) with rfl | h'
      · have := h1 _ hz; rw [ltT_irrefl] at this; cases this
      · exact h'
    · intro hz
      rcases hx.2 (Or.inr hz) with rfl | h'
      · have := h3 _ hz; rw [ltT_irrefl] at this; cases this
      · exact h'
theorem normT_fold : ∀ (l o : List TagL), StrictT o → StrictT (l.foldl (fun o t => insD t o) o) ∧ ∀ x, x ∈ l.foldl (fun o t => insD t o) o ↔ x ∈ o ∨ x ∈ l
  | [], o, h => ⟨h, fun x => by simp⟩
  | t :: l, o, h => by
    obtain ⟨h1, h2⟩ := normT_fold l (insD t o) (insD_strict t o h)
    refine ⟨h1, fun x => ?_⟩
    rw [List.foldl_cons, h2 x, insD_mem, List.mem_cons]
    constructor
    · rintro ((h | h) | h) <;> simp [h]
    · rintro (h | h | h) <;> simp [h]
theorem normT_strict (l : List TagL) : StrictT (normT l) := (normT_fold l [] List.Pairwise.nil).1
theorem normT_mem (l : List TagL) (x : TagL) : x ∈ normT l ↔ x ∈ l := by
  unfold normT; rw [(normT_fold l [] List.Pairwise.nil).2 x]; simp
theorem insD_len (t : TagL) : ∀ l, (insD t l).length ≤ l.length + 1
  | [] => by simp [insD]
  | y :: r => by
    unfold insD
    have := insD_len t r
    split
    · simp; omega
    · split <;> simp
theorem normT_len (l : List TagL) : (normT l).length ≤ l.length := by
  have : ∀ (l o : List TagL), (l.foldl (fun o t => insD t o) o).length ≤ o.length + l.length := by
    intro l
    induction l with
    | nil => intro o; simp
    | cons t l ih => intro o; have h1 := ih (insD t o); have h2 := insD_len t o; simp only [List.foldl_cons, List.length_cons]; omega
  have h := this l []
  simp only [List.length_nil, Nat.zero_add] at h
  exact h
def dedF (D : List TagL) (t : TagL) : List TagL := if D.getLast? = some t then D else D ++ [t]
theorem dedF_fold : ∀ (s D : List TagL), SortedT s → StrictT D → (∀ a ∈ D, ∀ b ∈ s, ltT b a = false) → StrictT (s.foldl dedF D) ∧ ∀ x, x ∈ s.foldl dedF D ↔ x ∈ D ∨ x ∈ s
  | [], D, _, h, _ => ⟨h, fun x => by simp⟩
  | t :: s, D, hs, hD, hb => by
    obtain ⟨h1, h2⟩ := List.pairwise_cons.1 hs
    have key : StrictT (dedF D t) ∧ (∀ x, x ∈ dedF D t ↔ x ∈ D ∨ x = t) := by
      unfold dedF
      split
      · rename_i e
        have ht : t ∈ D := List.mem_of_getLast? e
        exact ⟨hD, fun x => ⟨Or.inl, fun h => h.elim id (fun e => e ▸ ht)⟩⟩
      · rename_i e
        refine ⟨?_, fun x => by simp⟩
        refine List.pairwise_append.2 ⟨hD, List.pairwise_singleton _ _, fun a ha b hb' => ?_⟩
        rw [List.mem_singleton.1 hb']
        have h0 := hb a ha t (by simp)
        cases hc : ltT a t
        · exfalso
          have : a = t := ltT_total hc h0
          subst this
          apply e
          have : ∀ (D : List TagL), StrictT D → (∀ x ∈ D, ltT a x = false) → a ∈ D → D.getLast? = some a := by
            intro D
            induction D with
            | nil => intro _ _ h; cases h
            | cons y D ih =>
              intro hp hm hin
              obtain ⟨p1, p2⟩ := List.pairwise_cons.1 hp
              cases D with
              | nil => rcases List.mem_cons.1 hin with rfl | h
                       · rfl
                       · cases h
              | cons z D =>
                rw [List.getLast?_cons_cons]
                refine ih p2 (fun x hx => hm x (List.mem_cons_of_mem _ hx)) ?_
                rcases List.mem_cons.1 hin with rfl | h
                · have := p1 z (by simp); rw [hm z (by simp)] at this; cases this
                · exact h
          exact this D hD (fun x hx => hb x hx a (by simp)) ha
        · rfl
    obtain ⟨k1, k2⟩ := key
    obtain ⟨f1, f2⟩ := dedF_fold s (dedF D t) h2 k1 (fun a ha b hb' => by
      rcases (k2 a).1 ha with ha | rfl
      · exact hb a ha b (List.mem_cons_of_mem _ hb')
      · exact h1 b hb')
    refine ⟨f1, fun x => ?_⟩
    rw [List.foldl_cons, f2 x, k2 x, List.mem_cons]
    constructor
    · rintro ((h | h) | h) <;> simp [h]
    · rintro (h | h | h) <;> simp [h]
theorem ded_norm (l : List TagL) : (sortTags l).foldl dedF [] = normT l := by
  obtain ⟨h1, h2⟩ := dedF_fold (sortTags l) [] (sortTags_sorted l) List.Pairwise.nil (fun a ha => by cases ha)
  refine strict_unique _ _ h1 (normT_strict l) (fun x => ?_)
  rw [h2 x, normT_mem, (sortTags_perm l).mem_iff]; simp
theorem upd_set {α : Type} : ∀ (l : List α) (k : Nat) (x : α), upd l k x = l.set k x
  | [], _, _ => rfl
  | _ :: l, 0, _ => rfl
  | _ :: l, k + 1, x => by simp [upd, upd_set l k x]
end Go.AM
set_option linter.unusedVariables false
set_option linter.unusedSimpArgs false
namespace Go.AM
theorem getLast_take {α : Type} {L D : List α} {k : Nat} (h : L.take D.length = D) (hk : D.length = k + 1) : L[k]? = D.getLast? := by
  rw [List.getLast?_eq_getElem?]
  have : D[D.length - 1]? = (L.take D.length)[D.length - 1]? := by rw [h]
  rw [this, hk, List.getElem?_take]
  simp
theorem take_set {α : Type} {L D : List α} (x : α) (h : L.take D.length = D) (hk : D.length < L.length) : (L.set D.length x).take (D ++ [x]).length = D ++ [x] := by
  rw [List.length_append, List.length_singleton, List.take_add_one, List.take_set_of_le (Nat.le_refl _), h]
  simp [hk]
theorem drop_set {α : Type} (L : List α) (i k : Nat) (x : α) (h : i ≤ k) : (L.set i x).drop (k + 1) = L.drop (k + 1) := List.drop_set_of_lt (by omega)
theorem norm_loop (n : Nat) (X : Type) (k0 : (Nat × Nat) → Int → (Nat × List TagL) → (Nat × List TagL) → (Nat × List TagL) → Option X) (v N : Nat) (hN : N ≤ 100000) (b0 b1 : Nat × List TagL) :
    ∀ (r D L : List TagL) (i m : Nat), L.drop i = r → i ≤ N → r.length < m → D.length ≤ i → (i = 0 ↔ D = []) → L.length = N → L.take D.length = D →
    ∃ L', L'.take (r.foldl dedF D).length = r.foldl dedF D ∧ L'.length = N ∧ F.tag_Normal.L5 n k0 m (v, N) (D.length : Int) (v, N) (N : Int) (i : Int) b0 b1 (v, L) = k0 (v, N) ((r.foldl dedF D).length : Int) b0 b1 (v, L') := by
  intro r
  induction r with
  | nil =>
    intro D L i m hr hi hm hD h0 hL hT
    obtain ⟨m, rfl⟩ : ∃ p, m = p + 1 := ⟨m - 1, by omega⟩
    refine ⟨L, hT, hL, ?_⟩
    rw [F.tag_Normal.L5]
    unfold F.tag_Normal.L5.step
    dsimp only
    rw [bif_neg (by have := drop_nil' hr; omega)]
    rfl
  | cons x r ih =>
    intro D L i m hr hi hm hD h0 hL hT
    obtain ⟨m, rfl⟩ : ∃ p, m = p + 1 := ⟨m - 1, by simp at hm; omega⟩
    obtain ⟨l1, g1, t1⟩ := drop_cons hr
    have hw : IntKind.wrap .i64 ((D.length : Int) + 1) = ((D.length + 1 : Nat) : Int) := wrap_succ (by omega)
    have hput : ∃ L', L'.take (r.foldl dedF (D ++ [x])).length = r.foldl dedF (D ++ [x]) ∧ L'.length = N ∧ F.tag_Normal.L5 n k0 m (v, N) (((D ++ [x]).length : Nat) : Int) (v, N) (N : Int) ((i + 1 : Nat) : Int) b0 b1 (v, L.set D.length x) = k0 (v, N) ((r.foldl dedF (D ++ [x])).length : Int) b0 b1 (v, L') :=
      ih (D ++ [x]) (L.set D.length x) (i + 1) m (by rw [drop_set L D.length i x hD]; exact t1) (by omega) (by simp at hm; omega) (by simp; omega) (by simp) (by simpa using hL) (take_set x hT (by omega))
    rw [F.tag_Normal.L5]
    unfold F.tag_Normal.L5.step
    dsimp only
    rw [List.foldl_cons]
    have hb1 : (decide ((0 : Int) ≤ (i : Int)) && decide ((i : Int) < (N : Int))) = true := by simp; omega
    have hb2 : (decide ((0 : Int) ≤ (D.length : Int)) && decide ((D.length : Int) < (N : Int))) = true := by simp; omega
    have hbe : Nat.beq v v = true := Nat.beq_refl v
    rw [bif_pos (by omega : (i : Int) < (N : Int)), hb1, hbe, cond_true, cond_true, idx_nat, g1, some_bind', wrap_succ (by omega : i < 4611686018427387904)]
    by_cases hi0 : i = 0
    · have hD0 := h0.1 hi0
      have e0 : ((i : Int) == 0) = true := by simp [hi0]
      rw [e0, cond_true, hb2, cond_true, cond_true, idx_lt (by omega : D.length < L.length), some_bind', hw, Int.toNat_natCast, upd_set]
      have hd : dedF D x = D ++ [x] := by rw [hD0]; rfl
      rw [hd]
      obtain ⟨L', q1, q2, q3⟩ := hput
      refine ⟨L', q1, q2, ?_⟩
      rw [← q3, List.length_append, List.length_singleton]
    · have e0 : ((i : Int) == 0) = false := by simpa using hi0
      have hne : D ≠ [] := fun h => hi0 (h0.2 h)
      have hpos : 0 < D.length := List.length_pos_iff.2 hne
      have hwp : IntKind.wrap .i64 ((D.length : Int) - 1) = ((D.length - 1 : Nat) : Int) := by rw [wrap_in (by omega)]; omega
      have hb3 : (decide ((0 : Int) ≤ ((D.length - 1 : Nat) : Int)) && decide (((D.length - 1 : Nat) : Int) < (N : Int))) = true := by simp; omega
      obtain ⟨y, hy⟩ : ∃ y, D.getLast? = some y := ⟨_, List.getLast?_eq_some_getLast hne⟩
      have gl : L[D.length - 1]? = some y := by rw [getLast_take hT (by omega), hy]
      rw [e0, cond_false, hwp, hb3, cond_true, cond_true, idx_nat, gl, some_bind', tagL_beq]
      by_cases hxy : x = y
      · rw [decide_eq_true hxy, Bool.not_true, cond_false]
        have hd : dedF D x = D := by unfold dedF; rw [hy, hxy, if_pos rfl]
        rw [hd]
        exact ih D L (i + 1) m t1 (by omega) (by simp at hm; omega) (by omega) (by simp [hne]) hL hT
      · rw [decide_eq_false hxy, Bool.not_false, cond_true, hb2, cond_true, cond_true, idx_lt (by omega : D.length < L.length), some_bind', hw, Int.toNat_natCast, upd_set]
        have hd : dedF D x = D ++ [x] := by unfold dedF; rw [hy, if_neg (by simpa using fun h : y = x => hxy h.symm)]
        rw [hd]
        obtain ⟨L', q1, q2, q3⟩ := hput
        refine ⟨L', q1, q2, ?_⟩
        rw [← q3, List.length_append, List.length_singleton]
theorem clip_eq (n : Nat) (l : List TagL) : F.slices_Clip_api_Tag_api_Tag n l = some l := by
  unfold F.slices_Clip_api_Tag_api_Tag
  rw [beq_self_eq_true, cond_true, show (0 : Int) = ((0 : Nat) : Int) from rfl, sub_nat l 0 l.length (by omega) (by omega)]
  simp
theorem norm_out (n : Nat) (hn : 200000 ≤ n) (l : List TagL) (hl : l.length ≤ 100000) (v : Nat) (b0 b1 : Nat × List TagL) :
    F.tag_Normal.L5 n (fun (e11_3 : Nat × Nat) (e11_4 : Int) (e11_b0_0 e11_b1_0 e11_b2_0 : Nat × List TagL) =>
          bif Nat.beq e11_3.1 e11_b2_0.1 then
            (sub e11_b2_0.2 (0 : Int) e11_4).bind fun x12 =>
              (F.slices_Clip_api_Tag_api_Tag n x12).bind fun y13 =>
                some (y13)
          else
            none) n (v, l.length) (0 : Int) (v, l.length) (l.length : Int) (0 : Int) b0 b1 (v, sortTags l) = some (normT l) := by
  obtain ⟨L', q1, q2, q3⟩ := norm_loop n _ (fun (e11_3 : Nat × Nat) (e11_4 : Int) (e11_b0_0 e11_b1_0 e11_b2_0 : Nat × List TagL) =>
          bif Nat.beq e11_3.1 e11_b2_0.1 then
            (sub e11_b2_0.2 (0 : Int) e11_4).bind fun x12 =>
              (F.slices_Clip_api_Tag_api_Tag n x12).bind fun y13 =>
                some (y13)
          else
            none) v l.length hl b0 b1 (sortTags l) [] (sortTags l) 0 n rfl (by omega) (by rw [sortTags_length]; omega) (by simp) (by simp) (sortTags_length l) rfl
  refine q3.trans ?_
  rw [ded_norm] at q1 ⊢
  dsimp only
  rw [Nat.beq_refl, cond_true, show (0 : Int) = ((0 : Nat) : Int) from rfl, sub_nat L' 0 _ (by omega) (by rw [q2]; exact normT_len l), q1]
  simp only [some_bind', List.drop_zero, clip_eq]
theorem tagNormal_eq (n : Nat) (hn : 200000 ≤ n) (l : List TagL) (hl : l.length ≤ 100000) : F.tag_Normal n l = some (normT l) := by
  have e1 : (decide ((0 + l.length) * 32 ≤ 2 ^ 46) && decide (0 < 32 ∧ 32 ≤ 2 ^ 20)) = true := by
    rw [decide_eq_true (by omega)]; rfl
  have e2 : ∀ l : List TagL, l.length ≤ 100000 → (Nat.beq (sortTags l).length l.length && Nat.blt l.length strMax) = true := by
    intro l hl
    rw [sortTags_length, Nat.beq_refl, Bool.true_and, strMax_eq]
    exact Nat.ble_eq ▸ (by omega : l.length + 1 ≤ 4611686018427387904)
  unfold F.tag_Normal
  rw [List.nil_append, e1, cond_true, e2 l hl, cond_true]
  cases l with
  | nil =>
    have h1 := norm_out n hn [] (by simp) 1 (1, []) (1, [])
    have h2 := norm_out n hn [] (by simp) 2 (1, []) (1, [])
    refine Eq.trans (b := both (some (normT [])) (some (normT []))) ?_ (both_same _)
    rw [List.isEmpty_nil, cond_true]
    congr 1
  | cons t l =>
    exact norm_out n hn (t :: l) hl 2 (1, []) (1, [])
end Go.AM
set_option linter.unusedVariables false
set_option linter.unusedSimpArgs false
namespace Go.AM
def zeroM : MetD := ([], (0 : Int), [], (0 : Int), [], (0 : Int), ())
end Go.AM
set_option linter.unusedVariables false
set_option linter.unusedSimpArgs false
namespace Go.AM
def TagS (t : TagL) : Prop := t.1.length ≤ 1000 ∧ t.2.length ≤ 1000
theorem textF_zero {c : Int} {s : List UInt8} {lo hi : Int} (h : (textF c s lo hi).1 = 0) : lo ≤ (s.length : Int) ∧ (s.length : Int) ≤ hi ∧ s.all (cls c) = true := by
  unfold textF at h
  split at h
  · cases h
  · split at h
    · cases h
    · split at h
      · cases h
      · split at h
        · cases h
        · rename_i h1 h2 h3 h4
          exact ⟨by omega, by omega, Classical.byContradiction fun hh => h4 ((badK_ge _ _ _).2 hh)⟩
theorem tagGood_le {t : TagL} (h : tagGood t = true) : TagS t := by
  unfold tagGood at h
  simp only [Bool.and_eq_true, beq_iff_eq] at h
  have h1 := textF_zero h.1
  have h2 := textF_zero h.2
  exact ⟨by omega, by omega⟩
end Go.AM
set_option linter.unusedVariables false
set_option linter.unusedSimpArgs false
namespace Go.AM
structure RightM (m : MetD) : Prop where
  ok : MetOK m
  chk : chkM m = 0
theorem right_vals {m : MetD} (h : RightM m) : (∀ d ∈ m.2.2.1, DecLOK d ∧ decC d = 0) ∧ 1 ≤ m.2.2.1.length ∧ m.2.2.1.length ≤ 64 := by
  have := (chk_zero h.chk).2.2.1
  unfold valsB at this
  simp only [Bool.and_eq_true, decide_eq_true_eq] at this
  refine ⟨fun d hd => ⟨h.ok.2.1.2 d hd, ?_⟩, this.1, this.2.1⟩
  simpa using List.all_eq_true.1 this.2.2 d hd
theorem right_tags {m : MetD} (h : RightM m) : (∀ t ∈ m.2.2.2.2.1, TagS t ∧ tagGood t = true) ∧ m.2.2.2.2.1.length ≤ 32 := by
  have := (chk_zero h.chk).2.2.2.2.1
  unfold tagsB at this
  simp only [Bool.and_eq_true, decide_eq_true_eq] at this
  exact ⟨fun t ht => ⟨tagGood_le (List.all_eq_true.1 this.2 t ht), List.all_eq_true.1 this.2 t ht⟩, this.1⟩
theorem nameOK_le {s : List UInt8} (h : nameOK s = true) : 1 ≤ s.length ∧ s.length ≤ 200 := by
  rw [nameOK_eq] at h
  simp only [Bool.and_eq_true, decide_eq_true_eq] at h
  exact h.2
end Go.AM
set_option linter.unusedVariables false
set_option linter.unusedSimpArgs false
namespace Go.AM
abbrev Res (α : Type) := Except (Int × Int) α
def kindR (s : List UInt8) : Int := if s = [99] then 1 else if s = [103] then 2 else if s = [109, 115] then 3 else if s = [104] then 4 else if s = [100] then 5 else 0
theorem kind_eq (n : Nat) (hn : 100 ≤ n) (s : List UInt8) : F.dog_Kind n s = some (if kindR s = 0 then (0, 16, ()) else (kindR s, 0, ())) := by
  obtain ⟨m, hm⟩ : ∃ q, n = q + 7 := ⟨n - 7, by omega⟩
  unfold F.dog_Kind
  rw [show F.dog_words n = some ([], [99], [103], [109, 115], [104], [100], ()) from rfl, some_bind']
  have L : ∀ (k0 : Unit → Option (Int × Int × Unit)) (kr : Int → Int → Option (Int × Int × Unit)), F.dog_Kind.L2 n k0 kr (m + 7) s ([], [99], [103], [109, 115], [104], [100], ()) (0 : Int) = if s = [99] then kr 1 0 else if s = [103] then kr 2 0 else if s = [109, 115] then kr 3 0 else if s = [104] then kr 4 0 else if s = [100] then kr 5 0 else k0 () := by
    intro k0 kr
    have e1 : ([99] == s) = decide (s = [99]) := by by_cases h : s = [99] <;> simp [h]; exact fun h' => h h'.symm
    have e2 : ([103] == s) = decide (s = [103]) := by by_cases h : s = [103] <;> simp [h]; exact fun h' => h h'.symm
    have e3 : ([109, 115] == s) = decide (s = [109, 115]) := by by_cases h : s = [109, 115] <;> simp [h]; exact fun h' => h h'.symm
    have e4 : ([104] == s) = decide (s = [104]) := by by_cases h : s = [104] <;> simp [h]; exact fun h' => h h'.symm
    have e5 : ([100] == s) = decide (s = [100]) := by by_cases h : s = [100] <;> simp [h]; exact fun h' => h h'.symm
    show (bif [99] == s then kr 1 0 else bif [103] == s then kr 2 0 else bif [109, 115] == s then kr 3 0 else bif [104] == s then kr 4 0 else bif [100] == s then kr 5 0 else k0 ()) = _
    rw [e1, e2, e3, e4, e5]
    simp only [bdec]
  rw [hm] at L ⊢
  refine (L _ _).trans ?_
  unfold kindR
  repeat' split
  all_goals first | rfl | (simp_all)
def readVals : List (List UInt8) → List DecL → Int → Except Int (List DecL)
  | [], acc, _ => .ok acc
  | v :: r, acc, at_ => if (parseR v).2.1.1 = 0 ∧ acc.length ≠ 64 then readVals r (acc ++ [((parseR v).1.1, (parseR v).1.2.1, (parseR v).1.2.2.1)]) (at_ + v.length + 1) else .error at_
def restN (c : UInt8) (s : List UInt8) : List UInt8 := if c ∈ s then s.drop ((seg c s).length + 1) else []
def firstR (s : List UInt8) : Res (List UInt8 × List DecL) :=
  if nameOK (seg 58 s) = false then .error (15, 0)
  else if 58 ∉ s then .error (11, (s.length : Int))
  else match readVals (splitL 58 (restN 58 s)) [] ((seg 58 s).length + 1) with
    | .ok vs => .ok (seg 58 s, vs)
    | .error at_ => .error (17, at_)
def tagsR : List (List UInt8) → List TagL → Int → Except Int (List TagL)
  | [], acc, _ => .ok acc
  | p :: r, acc, at_ => if tagGood (seg 58 p, restN 58 p) = true ∧ ¬ (58 ∈ p ∧ restN 58 p = []) then tagsR r (acc ++ [(seg 58 p, restN 58 p)]) (at_ + p.length + 1) else .error at_
def moreR (m : MetD) (last : Int) : List UInt8 → Except Int (MetD × Int)
  | [] => .error 11
  | x :: s =>
    if x = 64 then (if 0 < last then .error 11 else if (rateR s).2.1.1 ≠ 0 ∨ (m.2.1 = 2 ∧ (rateR s).1 ≠ 1000000) then .error 18 else .ok ((m.1, m.2.1, m.2.2.1, (rateR s).1, m.2.2.2.2.1, m.2.2.2.2.2.1, ()), 1))
    else if x = 35 then (if 1 < last then .error 11 else match tagsR (splitL 44 s) [] 0 with
      | .error _ => .error 19
      | .ok l => if 32 < l.length then .error 19 else .ok ((m.1, m.2.1, m.2.2.1, m.2.2.2.1, normT l, m.2.2.2.2.2.1, ()), 2))
    else if x = 84 then (if 2 < last then .error 11 else if (parseNum s 1 1099511627776).2.1.1 ≠ 0 then .error 20 else .ok ((m.1, m.2.1, m.2.2.1, m.2.2.2.1, m.2.2.2.2.1, (parseNum s 1 1099511627776).1, ()), 3))
    else .error 11
def restR : List (List UInt8) → Int → MetD → Int → Res MetD
  | [], _, m, _ => .ok m
  | p :: r, at_, m, last => match moreR m last p with
    | .error e => .error (e, at_)
    | .ok (m', last') => restR r (at_ + p.length + 1) m' last'
def secondR (s p : List UInt8) (nm : List UInt8) (vs : List DecL) : List (List UInt8) → Res MetD
  | [] => .error (11, (s.length : Int))
  | q :: r => if kindR q = 0 then .error (16, (p.length : Int) + 1) else restR r ((p.length : Int) + 1 + (q.length + 1)) (nm, kindR q, vs, 1000000, [], 0, ()) 0
def linesR (s : List UInt8) : List (List UInt8) → Res MetD
  | [] => .error (11, 0)
  | p :: r => match firstR p with
    | .error e => .error e
    | .ok x => secondR s p x.1 x.2 r
abbrev ParseD := MetD × (Int × Int × Unit) × Unit
def outP : Res MetD → ParseD
  | .ok m => (m, (0, 0, ()), ())
  | .error e => (zeroM, (e.1, e.2, ()), ())
def parseD (s : List UInt8) : ParseD := if 8192 < s.length then (zeroM, (12, 0, ()), ()) else outP (linesR s (splitL 124 s))
theorem restN_le (c : UInt8) (s : List UInt8) : (restN c s).length ≤ s.length := by
  unfold restN; split <;> simp
theorem splitL_seg (c : UInt8) (s : List UInt8) : splitL c s = if c ∈ s then seg c s :: splitL c (restN c s) else [s] := by
  induction s with
  | nil => rfl
  | cons x s ih =>
    by_cases hx : x = c
    · subst hx
      have e1 : seg x (x :: s) = [] := by rw [seg_cons, if_pos rfl]
      have e2 : restN x (x :: s) = s := by unfold restN; rw [if_pos (by simp), e1]; rfl
      rw [if_pos (by simp), e1, e2, splitL, if_pos rfl]
    · have hmem : (c ∈ x :: s) ↔ c ∈ s := by simp [show ¬ c = x from fun h => hx h.symm]
      rw [splitL, if_neg hx, ih]
      by_cases hc : c ∈ s
      · rw [if_pos hc, if_pos (hmem.2 hc)]
        have e1 : seg c (x :: s) = x :: seg c s := by rw [seg_cons, if_neg hx]
        have e2 : restN c (x :: s) = restN c s := by unfold restN; rw [if_pos hc, if_pos (hmem.2 hc), e1]; rfl
        rw [e1, e2]
      · rw [if_neg hc, if_neg (fun h => hc (hmem.1 h))]
def sumL (l : List (List UInt8)) : Nat := (l.map fun p => p.length + 1).sum
theorem splitL_sum (c : UInt8) (s : List UInt8) : sumL (splitL c s) = s.length + 1 := by
  induction s with
  | nil => rfl
  | cons x s ih =>
    rw [splitL]
    split
    · simp only [sumL, List.map_cons, List.sum_cons, List.length_nil, List.length_cons] at ih ⊢
      omega
    · have hne := splitL_ne c s
      revert ih hne
      cases splitL c s with
      | nil => intro _ h; exact absurd rfl h
      | cons p l =>
        intro ih _
        simp only [sumL, List.map_cons, List.sum_cons, List.length_cons] at ih ⊢
        omega
theorem sumL_len (l : List (List UInt8)) : l.length ≤ sumL l := by
  induction l with
  | nil => simp [sumL]
  | cons p l ih => simp only [sumL, List.map_cons, List.sum_cons, List.length_cons] at ih ⊢; omega
theorem sumL_mem {l : List (List UInt8)} {p : List UInt8} (h : p ∈ l) : p.length + 1 ≤ sumL l := by
  induction l with
  | nil => cases h
  | cons q l ih =>
    simp only [sumL, List.map_cons, List.sum_cons] at ih ⊢
    rcases List.mem_cons.1 h with rfl | h
    · omega
    · have := ih h; omega
theorem split_eq (n : Nat) (c : UInt8) {s : List UInt8} (hs : s.length ≤ 1000000) : O.split1 n s [c] = some (splitL c s) := by
  unfold O.split1
  dsimp only
  rw [decide_eq_true (by omega)]; rfl
theorem parseR_bad (s : List UInt8) : ((parseR s).2.1.1 == 0 && (parseR s).2.1.2.1 == 0) = decide ((parseR s).2.1.1 = 0) := by
  by_cases h : (parseR s).2.1.1 = 0
  · rw [decide_eq_true h, h, parseR_at h]; rfl
  · rw [decide_eq_false h, beq_eq_false_iff_ne.2 h]; rfl
theorem tagsR_loop (n : Nat) (hn : 200000 ≤ n) (X : Type) (k0 kr : List TagL → Int → Int → Nat → Option X) (ps : List (List UInt8)) (hs : sumL ps ≤ 10000) (b0 b1 : Int) : ∀ (r : List (List UInt8)) (acc : List TagL) (a : Int) (i m : Nat), ps.drop i = r → acc.length ≤ i → i ≤ ps.length → r.length < m → 0 ≤ a → a + sumL r ≤ 10000 →
    F.tag_Parse.L4 n k0 kr m acc a ps (ps.length : Int) (i : Int) b0 b1 acc.length = match tagsR r acc a with
      | .ok l => k0 l b0 b1 l.length
      | .error e => kr [] 19 e 0 := by
  intro r
  have hpl := sumL_len ps
  induction r with
  | nil =>
    intro acc a i m h1 h2 hi hm ha has
    obtain ⟨m, rfl⟩ : ∃ q, m = q + 1 := ⟨m - 1, by omega⟩
    rw [F.tag_Parse.L4]
    unfold F.tag_Parse.L4.step
    dsimp only
    rw [bif_neg (by have := drop_nil' h1; omega)]
    rfl
  | cons p r ih =>
    intro acc a i m h1 h2 hi hm ha has
    obtain ⟨m, rfl⟩ : ∃ q, m = q + 1 := ⟨m - 1, by simp at hm; omega⟩
    obtain ⟨l1, g1, t1⟩ := drop_cons h1
    simp only [List.length_cons] at hm
    simp only [sumL, List.map_cons, List.sum_cons] at has
    have hp := sumL_mem (List.mem_of_getElem? g1)
    have hsl := seg_le 58 p
    have hrl := restN_le 58 p
    have hih := ih (acc ++ [(seg 58 p, restN 58 p)]) (a + p.length + 1) (i + 1) m t1 (by simp; omega) (by omega) (by omega) (by omega) (by simp only [sumL]; omega)
    have hcut : F.strings_Cut n p [58] = some (seg 58 p, restN 58 p, decide (58 ∈ p), ()) := cut_eq n 58 (by omega)
    have hw : IntKind.wrap .i64 (a + IntKind.wrap .i64 ((p.length : Int) + 1)) = a + p.length + 1 := by
      rw [wrap_succ (by omega), wrap_in (by omega)]; omega
    have hg : (decide ((acc.length + 1) * 32 ≤ 2 ^ 46) && decide (0 < 32 ∧ 32 ≤ 2 ^ 20)) = true := by rw [decide_eq_true (by omega)]; rfl
    rw [F.tag_Parse.L4]
    unfold F.tag_Parse.L4.step
    dsimp only
    rw [bif_pos (by omega), idx_nat, g1, some_bind', hcut, some_bind']
    dsimp only
    have hc := tag_chk n hn (t := (seg 58 p, restN 58 p)) ⟨by show (seg 58 p).length ≤ 10000; omega, by show (restN 58 p).length ≤ 10000; omega⟩
    dsimp only at hc
    rw [hc, some_bind', hw, wrap_succ (by omega), hg, Nat.beq_refl, cond_true, cond_true, tagsR]
    cases tagGood (seg 58 p, restN 58 p)
    · rw [if_neg (by simp)]; rfl
    · rw [cond_true, beq_self_eq_true, Bool.not_true, cond_false, bdec]
      by_cases hin : (58 : UInt8) ∈ p
      · rw [if_pos hin]
        by_cases h0 : restN 58 p = []
        · rw [h0, beq_self_eq_true, cond_true, if_neg (by simp [hin])]
        · rw [beq_eq_false_iff_ne.2 h0, cond_false, if_pos ⟨rfl, by simp [h0]⟩]
          exact hih
      · rw [if_neg hin, if_pos ⟨rfl, by simp [hin]⟩]
        exact hih
theorem tagParse_eq (n : Nat) (hn : 200000 ≤ n) (s : List UInt8) (hs : s.length ≤ 9000) : F.tag_Parse n s = some (match tagsR (splitL 44 s) [] 0 with | .ok l => (l, (0, 0, ()), ()) | .error e => ([], (19, e, ()), ())) := by
  unfold F.tag_Parse
  have h1 := splitL_sum 44 s
  have h2 := sumL_len (splitL 44 s)
  rw [split_eq n 44 (by omega), some_bind']
  refine (tagsR_loop n hn _ _ _ (splitL 44 s) (by omega) 0 0 (splitL 44 s) [] 0 0 n rfl (by simp) (by omega) (by omega) (by omega) (by omega)).trans ?_
  cases tagsR (splitL 44 s) [] 0 <;> rfl
end Go.AM
set_option linter.unusedVariables false
set_option linter.unusedSimpArgs false
namespace Go.AM
end Go.AM
set_option linter.unusedVariables false
set_option linter.unusedSimpArgs false
namespace Go.AM
abbrev KR := List UInt8 → Int → List DecL → Int → List TagL → Int → Int → Int → List UInt8 → Int → List DecL → Int → List TagL → Int → Int → Int → Int → Int → Int → Int → Nat → Nat → Nat → Option ParseD
abbrev K8 := List UInt8 → List (List UInt8) → List UInt8 → Int → List DecL → Int → List TagL → Int → Int → Int → List UInt8 → Int → List DecL → Int → List TagL → Int → Int → Int → Int → Int → Nat → Nat → Nat → Option ParseD
def badP (e a : Int) : ParseD := (zeroM, (e, a, ()), ())
theorem first_loop (n : Nat) (hn : 200000 ≤ n) (k1 kr : KR) (ps : List (List UInt8)) (hs : sumL ps ≤ 9000)
    (c0 : List UInt8) (c1 : Int) (c2 : List DecL) (c3 : Int) (c4 : List TagL) (c5 d0 d1 : Int) (e0 : List UInt8) (e1 : Int) (e3 : Int) (e4 : List TagL) (e5 e7 f0 f1 : Int) (q0 q1 : Nat)
    (hbad : ∀ acc a l, kr c0 c1 c2 c3 c4 c5 d0 d1 e0 e1 acc e3 e4 e5 0 e7 f0 f1 17 a q0 q1 l = some (badP 17 a)) :
    ∀ (r : List (List UInt8)) (acc : List DecL) (a : Int) (i m : Nat), ps.drop i = r → acc.length ≤ i → i ≤ ps.length → r.length < m → 0 ≤ a → a + sumL r ≤ 10000 →
    F.dog_Parse.L9_dog_reader_first n k1 kr m a ps (ps.length : Int) (i : Int) c0 c1 c2 c3 c4 c5 d0 d1 e0 e1 acc e3 e4 e5 0 e7 f0 f1 0 0 q0 q1 acc.length = match readVals r acc a with
      | .ok vs => k1 c0 c1 c2 c3 c4 c5 d0 d1 e0 e1 vs e3 e4 e5 0 e7 f0 f1 0 0 q0 q1 vs.length
      | .error b => some (badP 17 b) := by
  intro r
  have hpl := sumL_len ps
  induction r with
  | nil =>
    intro acc a i m h1 h2 hi hm ha has
    obtain ⟨m, rfl⟩ : ∃ q, m = q + 1 := ⟨m - 1, by omega⟩
    rw [F.dog_Parse.L9_dog_reader_first]
    unfold F.dog_Parse.L9_dog_reader_first.step
    dsimp only
    rw [bif_neg (by have := drop_nil' h1; omega)]
    rfl
  | cons p r ih =>
    intro acc a i m h1 h2 hi hm ha has
    obtain ⟨m, rfl⟩ : ∃ q, m = q + 1 := ⟨m - 1, by simp at hm; omega⟩
    obtain ⟨l1, g1, t1⟩ := drop_cons h1
    simp only [List.length_cons] at hm
    simp only [sumL, List.map_cons, List.sum_cons] at has
    have hp := sumL_mem (List.mem_of_getElem? g1)
    have hih := ih (acc ++ [((parseR p).1.1, (parseR p).1.2.1, (parseR p).1.2.2.1)]) (a + p.length + 1) (i + 1) m t1 (by simp; omega) (by omega) (by omega) (by omega) (by simp only [sumL]; omega)
    have hw : IntKind.wrap .i64 (a + IntKind.wrap .i64 ((p.length : Int) + 1)) = a + p.length + 1 := by
      rw [wrap_succ (by omega), wrap_in (by omega)]; omega
    have hw0 : IntKind.wrap .i64 (0 + a) = a := by rw [Int.zero_add, wrap_in (by omega)]
    have hg : (decide ((acc.length + 1) * 24 ≤ 2 ^ 46) && decide (0 < 24 ∧ 24 ≤ 2 ^ 20)) = true := by rw [decide_eq_true (by omega)]; rfl
    have h64 : ((acc.length : Int) == 64) = decide (acc.length = 64) := by
      by_cases h : acc.length = 64
      · rw [h]; rfl
      · rw [decide_eq_false h, beq_eq_false_iff_ne]; omega
    rw [F.dog_Parse.L9_dog_reader_first]
    unfold F.dog_Parse.L9_dog_reader_first.step
    dsimp only
    rw [bif_pos (by omega), idx_nat, g1, some_bind', decparse_eq n hn p (by omega), some_bind', parseR_bad, hw, hw0, wrap_succ (by omega), hg, Nat.beq_refl, cond_true, cond_true, h64, readVals]
    by_cases h0 : (parseR p).2.1.1 = 0
    · rw [decide_eq_true h0, Bool.not_true, cond_false]
      by_cases h6 : acc.length = 64
      · rw [decide_eq_true h6, cond_true, if_neg (by simp [h6])]
        exact hbad _ _ _
      · rw [decide_eq_false h6, cond_false, if_pos ⟨h0, h6⟩]
        exact hih
    · rw [decide_eq_false h0, Bool.not_false, cond_true, if_neg (by simp [h0])]
      exact hbad _ _ _
theorem prefix_eq (n : Nat) (c x : UInt8) (s : List UInt8) : F.strings_CutPrefix n (x :: s) [c] = some (if x = c then (s, true, ()) else (x :: s, false, ())) := by
  unfold F.strings_CutPrefix F.stringslite_CutPrefix F.stringslite_HasPrefix
  have h1 : sub (x :: s) 0 (([c] : List UInt8).length : Int) = some [x] := by
    rw [show (0 : Int) = ((0 : Nat) : Int) from rfl, show (([c] : List UInt8).length : Int) = ((1 : Nat) : Int) from rfl, sub_nat (x :: s) 0 1 (by omega) (by simp)]; rfl
  have h2 : sub (x :: s) (([c] : List UInt8).length : Int) ((x :: s).length : Int) = some s := by
    rw [show (([c] : List UInt8).length : Int) = ((1 : Nat) : Int) from rfl, sub_nat (x :: s) 1 _ (by simp) (by omega), List.take_length]; rfl
  rw [bif_pos (by simp; omega), h1, h2]
  by_cases h : x = c
  · subst h
    simp
  · rw [if_neg h]
    have : ([x] == [c]) = false := by simpa using h
    simp [this]
theorem prefix_nil (n : Nat) (c : UInt8) : F.strings_CutPrefix n [] [c] = some ([], false, ()) := rfl
theorem rate_bad (s : List UInt8) : ((rateR s).2.1.1 == 0 && (rateR s).2.1.2.1 == 0) = decide ((rateR s).2.1.1 = 0) := by
  by_cases h : (rateR s).2.1.1 = 0
  · rw [decide_eq_true h, h, (rate_ok h).1]; rfl
  · rw [decide_eq_false h, beq_eq_false_iff_ne.2 h]; rfl
theorem time_bad (s : List UInt8) : ((parseNum s 1 1099511627776).2.1.1 == 0 && (parseNum s 1 1099511627776).2.1.2.1 == 0) = decide ((parseNum s 1 1099511627776).2.1.1 = 0) := by
  by_cases h : (parseNum s 1 1099511627776).2.1.1 = 0
  · rw [decide_eq_true h, h, (parse_back h).1]; rfl
  · rw [decide_eq_false h, beq_eq_false_iff_ne.2 h]; rfl
theorem tagsR_len : ∀ (r : List (List UInt8)) (acc : List TagL) (a : Int) (l : List TagL), tagsR r acc a = .ok l → l.length = acc.length + r.length
  | [], acc, a, l, h => by cases h; simp
  | p :: r, acc, a, l, h => by
    rw [tagsR] at h
    split at h
    · have := tagsR_len r _ _ _ h
      simp at this ⊢; omega
    · cases h
theorem more_eq (n : Nat) (hn : 200000 ≤ n) (k0 kr : KR) (p : List UInt8) (hs : p.length ≤ 9000)
    (c0 : List UInt8) (c1 : Int) (c2 : List DecL) (c3 : Int) (c4 : List TagL) (c5 d0 d1 : Int) (e0 : List UInt8) (e1 : Int) (e2 : List DecL) (e3 : Int) (e4 : List TagL) (e5 a last f0 f1 : Int) (q0 q1 q2 : Nat) (ha : 0 ≤ a ∧ a ≤ 100000)
    (hk0 : k0 c0 c1 c2 c3 c4 c5 d0 d1 e0 e1 e2 e3 e4 e5 a last f0 f1 0 0 q0 q1 q2 = some (badP 11 a))
    (hbad : ∀ l e, e ≠ 0 → kr c0 c1 c2 c3 c4 c5 d0 d1 e0 e1 e2 e3 e4 e5 a l f0 f1 e a q0 q1 q2 = some (badP e a)) (m : Nat) (hm : 5 ≤ m) :
    F.dog_Parse.L2_dog_reader_more n k0 kr m p ([64], (), [35], (), [84], (), ()) (0 : Int) c0 c1 c2 c3 c4 c5 d0 d1 e0 e1 e2 e3 e4 e5 a last f0 f1 0 0 q0 q1 q2 = match moreR (e0, e1, e2, e3, e4, e5, ()) last p with
      | .error e => some (badP e a)
      | .ok (w, l) => kr c0 c1 c2 c3 c4 c5 d0 d1 w.1 w.2.1 w.2.2.1 w.2.2.2.1 w.2.2.2.2.1 w.2.2.2.2.2.1 a l f0 f1 0 0 q0 q1 q2 := by
  obtain ⟨m, rfl⟩ : ∃ q, m = q + 4 := ⟨m - 4, by omega⟩
  have hw0 : IntKind.wrap .i64 (a + 0) = a := by rw [Int.add_zero, wrap_in (by omega)]
  have w1 : IntKind.wrap .i64 ((0 : Int) + 1) = 1 := rfl
  have w2 : IntKind.wrap .i64 ((1 : Int) + 1) = 2 := rfl
  have w3 : IntKind.wrap .i64 ((2 : Int) + 1) = 3 := rfl
  have b1 : ((1 : Int) == 0) = false := rfl
  have b2 : ((2 : Int) == 0) = false := rfl
  have b3 : ((2 : Int) == 1) = false := rfl
  cases p with
  | nil =>
    rw [moreR]
    rw [F.dog_Parse.L2_dog_reader_more]
    unfold F.dog_Parse.L2_dog_reader_more.step
    dsimp only
    rw [bif_pos (by omega), beq_self_eq_true, cond_true, prefix_nil, some_bind', Bool.not_false, cond_true, w1, F.dog_Parse.L2_dog_reader_more]
    unfold F.dog_Parse.L2_dog_reader_more.step
    dsimp only
    rw [bif_pos (by omega), b1, beq_self_eq_true, cond_true, cond_false, prefix_nil, some_bind', Bool.not_false, cond_true, w2, F.dog_Parse.L2_dog_reader_more]
    unfold F.dog_Parse.L2_dog_reader_more.step
    dsimp only
    rw [bif_pos (by omega), b2, b3, beq_self_eq_true, cond_true, cond_false, cond_false, prefix_nil, some_bind', Bool.not_false, cond_true, w3, F.dog_Parse.L2_dog_reader_more]
    unfold F.dog_Parse.L2_dog_reader_more.step
    dsimp only
    rw [bif_neg (by omega)]
    exact hk0
  | cons x s =>
    simp only [List.length_cons] at hs
    rw [moreR]
    rw [F.dog_Parse.L2_dog_reader_more]
    unfold F.dog_Parse.L2_dog_reader_more.step
    dsimp only
    rw [bif_pos (by omega), beq_self_eq_true, cond_true, prefix_eq, some_bind', w1, hw0]
    by_cases h64 : x = 64
    · rw [if_pos h64, if_pos h64]
      dsimp only
      rw [Bool.not_true, cond_false, bdec]
      by_cases hl : 0 < last
      · rw [if_pos hl, if_pos hl]; exact hk0
      · rw [if_neg hl, if_neg hl, rate_num n (by omega) s (by omega) (by omega), some_bind', rate_bad]
        by_cases h0 : (rateR s).2.1.1 = 0
        · rw [decide_eq_true h0, Bool.not_true, cond_false]
          by_cases h2 : e1 = 2
          · rw [h2, beq_self_eq_true, cond_true]
            by_cases h1 : (rateR s).1 = 1000000
            · rw [h1, beq_self_eq_true, Bool.not_true, cond_false, if_neg (by simp [h0])]
            · rw [beq_eq_false_iff_ne.2 h1, Bool.not_false, cond_true, if_pos (by simp [h1])]
              rw [h2] at hbad
              exact hbad _ _ (by decide)
          · rw [beq_eq_false_iff_ne.2 h2, cond_false, if_neg (by simp [h0, h2])]
        · rw [decide_eq_false h0, Bool.not_false, cond_true, if_pos (by simp [h0])]
          exact hbad _ _ (by decide)
    rw [if_neg h64, if_neg h64]
    dsimp only
    rw [Bool.not_false, cond_true]
    rw [F.dog_Parse.L2_dog_reader_more]
    unfold F.dog_Parse.L2_dog_reader_more.step
    dsimp only
    rw [bif_pos (by omega), b1, beq_self_eq_true, cond_false, cond_true, prefix_eq, some_bind', w2, hw0]
    by_cases h35 : x = 35
    · rw [if_pos h35, if_pos h35]
      dsimp only
      rw [Bool.not_true, cond_false, bdec]
      by_cases hl : 1 < last
      · rw [if_pos hl, if_pos hl]; exact hk0
      · have hsl := splitL_sum 44 s
        have hsn := sumL_len (splitL 44 s)
        rw [if_neg hl, if_neg hl, tagParse_eq n hn s (by omega), some_bind']
        cases hT : tagsR (splitL 44 s) [] 0 with
        | error e =>
          dsimp only
          rw [show ((19 : Int) == 0) = false from rfl, Bool.false_and, Bool.not_false, cond_true]
          exact hbad _ _ (by decide)
        | ok l =>
          have hll := tagsR_len _ _ _ _ hT
          simp only [List.length_nil, Nat.zero_add] at hll
          dsimp only
          rw [beq_self_eq_true, Bool.and_self, Bool.not_true, cond_false, bdec]
          by_cases h32 : 32 < l.length
          · rw [if_pos (by omega), if_pos h32]
            exact hbad _ _ (by decide)
          · rw [if_neg (by omega), if_neg h32, tagNormal_eq n hn l (by omega), some_bind']
    rw [if_neg h35, if_neg h35]
    dsimp only
    rw [Bool.not_false, cond_true]
    rw [F.dog_Parse.L2_dog_reader_more]
    unfold F.dog_Parse.L2_dog_reader_more.step
    dsimp only
    rw [bif_pos (by omega), b2, b3, beq_self_eq_true, cond_false, cond_false, cond_true, prefix_eq, some_bind', w3, hw0]
    by_cases h84 : x = 84
    · rw [if_pos h84, if_pos h84]
      dsimp only
      rw [Bool.not_true, cond_false, bdec]
      by_cases hl : 2 < last
      · rw [if_pos hl, if_pos hl]; exact hk0
      · rw [if_neg hl, if_neg hl, time_eq n s (by omega) (by omega), some_bind', time_bad]
        by_cases h0 : (parseNum s 1 1099511627776).2.1.1 = 0
        · rw [decide_eq_true h0, Bool.not_true, cond_false, if_neg (by simp [h0])]
        · rw [decide_eq_false h0, Bool.not_false, cond_true, if_pos h0]
          exact hbad _ _ (by decide)
    rw [if_neg h84, if_neg h84]
    dsimp only
    rw [Bool.not_false, cond_true]
    rw [F.dog_Parse.L2_dog_reader_more]
    unfold F.dog_Parse.L2_dog_reader_more.step
    dsimp only
    rw [bif_neg (by omega)]
    exact hk0
structure K8OK (s : List UInt8) (ps : List (List UInt8)) (k0 : K8) : Prop where
  bad : ∀ c0 c1 c2 c3 c4 c5 d0 d1 e0 e1 e2 e3 e4 e5 e6 e7 e a q0 q1 q2, e ≠ 0 → k0 s ps c0 c1 c2 c3 c4 c5 d0 d1 e0 e1 e2 e3 e4 e5 e6 e7 e a q0 q1 q2 = some (badP e a)
  ok : 2 ≤ ps.length → ∀ c0 c1 c2 c3 c4 c5 d0 d1 e0 e1 e2 e3 e4 e5 e6 e7 q0 q1 q2, k0 s ps c0 c1 c2 c3 c4 c5 d0 d1 e0 e1 e2 e3 e4 e5 e6 e7 0 0 q0 q1 q2 = some ((e0, e1, e2, e3, e4, e5, ()), (0, 0, ()), ())
  one : ps.length < 2 → ∀ c0 c1 c2 c3 c4 c5 d0 d1 e0 e1 e2 e3 e4 e5 e6 e7 q0 q1 q2, k0 s ps c0 c1 c2 c3 c4 c5 d0 d1 e0 e1 e2 e3 e4 e5 e6 e7 0 0 q0 q1 q2 = some (badP 11 (s.length : Int))
theorem at_step {a : Int} (p : List UInt8) (h : 0 ≤ a ∧ a + p.length + 1 ≤ 100000) : IntKind.wrap .i64 (a + IntKind.wrap .i64 ((p.length : Int) + 1)) = a + p.length + 1 := by
  rw [wrap_succ (by omega), wrap_in (by omega)]; omega
theorem drest_loop (n : Nat) (hn : 200000 ≤ n) (k0 : K8) (s : List UInt8) (ps : List (List UInt8)) (hs : sumL ps ≤ 9000) (hk : K8OK s ps k0) (h2 : 2 ≤ ps.length)
    (c0 : List UInt8) (c1 : Int) (c2 : List DecL) (c3 : Int) (c4 : List TagL) (c5 d0 d1 : Int) (q0 q1 q2 : Nat) :
    ∀ (r : List (List UInt8)) (a : Int) (w : MetD) (last : Int) (i m : Nat), ps.drop i = r → 2 ≤ i → i ≤ ps.length → r.length < m → 0 ≤ a → a + sumL r ≤ 10000 →
    F.dog_Parse.L8 n k0 m s ps ps (ps.length : Int) (i : Int) c0 c1 c2 c3 c4 c5 d0 d1 w.1 w.2.1 w.2.2.1 w.2.2.2.1 w.2.2.2.2.1 w.2.2.2.2.2.1 a last 0 0 q0 q1 q2 = some (outP (restR r a w last)) := by
  intro r
  have hpl := sumL_len ps
  induction r with
  | nil =>
    intro a w last i m h1 hi2 hi hm ha has
    obtain ⟨m, rfl⟩ : ∃ q, m = q + 1 := ⟨m - 1, by omega⟩
    rw [F.dog_Parse.L8]
    unfold F.dog_Parse.L8.step
    dsimp only
    rw [bif_neg (by have := drop_nil' h1; omega), restR]
    exact hk.ok h2 _ _ _ _ _ _ _ _ _ _ _ _ _ _ _ _ _ _ _
  | cons p r ih =>
    intro a w last i m h1 hi2 hi hm ha has
    obtain ⟨m, rfl⟩ : ∃ q, m = q + 1 := ⟨m - 1, by simp at hm; omega⟩
    obtain ⟨l1, g1, t1⟩ := drop_cons h1
    simp only [List.length_cons] at hm
    simp only [sumL, List.map_cons, List.sum_cons] at has
    have hp := sumL_mem (List.mem_of_getElem? g1)
    have hw0 : IntKind.wrap .i64 (a + 0) = a := by rw [Int.add_zero, wrap_in (by omega)]
    rw [F.dog_Parse.L8]
    unfold F.dog_Parse.L8.step
    dsimp only
    rw [bif_pos (by omega), idx_nat, g1, some_bind', bif_neg (by omega : ¬ (i : Int) < 2)]
    refine (more_eq n hn _ _ p (by omega) c0 c1 c2 c3 c4 c5 d0 d1 w.1 w.2.1 w.2.2.1 w.2.2.2.1 w.2.2.2.2.1 w.2.2.2.2.2.1 a last 0 0 q0 q1 q2 (by omega) ?_ ?_ n (by omega)).trans ?_
    · rw [hw0, Bool.false_and, Bool.not_false, cond_true]
      exact hk.bad _ _ _ _ _ _ _ _ _ _ _ _ _ _ _ _ _ _ _ _ _ (by decide)
    · intro l e he
      rw [beq_eq_false_iff_ne.2 he, Bool.false_and, Bool.not_false, cond_true]
      exact hk.bad _ _ _ _ _ _ _ _ _ _ _ _ _ _ _ _ _ _ _ _ _ he
    · have hww : (w.1, w.2.1, w.2.2.1, w.2.2.2.1, w.2.2.2.2.1, w.2.2.2.2.2.1, ()) = w := rfl
      rw [hww, restR]
      cases moreR w last p with
      | error e => rfl
      | ok x =>
        obtain ⟨w', l'⟩ := x
        dsimp only
        rw [at_step p (by omega), wrap_succ (by omega)]
        exact ih (a + p.length + 1) w' l' (i + 1) m t1 (by omega) (by omega) (by omega) (by omega) (by simp only [sumL]; omega)
theorem nameB (s : List UInt8) : (((textF 1 s 1 200).1 == 0) && ((textF 1 s 1 200).2.1 == 0)) = nameOK s := textF_both 1 s 1 200
theorem lines_eq (n : Nat) (hn : 200000 ≤ n) (k0 : K8) (s : List UInt8) (ps : List (List UInt8)) (hne : ps ≠ []) (hs : sumL ps ≤ 9000) (hsl : s.length ≤ 9000) (hk : K8OK s ps k0) (c0 : List UInt8) (c1 : Int) (c2 : List DecL) (c3 : Int) (c4 : List TagL) (c5 d0 d1 : Int) (q0 q1 : Nat) :
    F.dog_Parse.L8 n k0 n s ps ps (ps.length : Int) (0 : Int) c0 c1 c2 c3 c4 c5 d0 d1 [] 0 [] 1000000 [] 0 0 0 0 0 q0 q1 0 = some (outP (linesR s ps)) := by
  have hpl := sumL_len ps
  cases ps with
  | nil => exact absurd rfl hne
  | cons p r =>
    obtain ⟨m, hm⟩ : ∃ q, n = q + 2 := ⟨n - 2, by omega⟩
    have hp := sumL_mem (show p ∈ p :: r by simp)
    have hseg := seg_le 58 p
    have hrn := restN_le 58 p
    have hcut : F.strings_Cut n p [58] = some (seg 58 p, restN 58 p, decide (58 ∈ p), ()) := cut_eq n 58 (by omega)
    have hw0 : ∀ x : Int, 0 ≤ x ∧ x ≤ 100000 → IntKind.wrap .i64 (0 + x) = x := fun x hx => by rw [Int.zero_add, wrap_in (by omega)]
    have key : ∀ m, 20001 ≤ m + 1 → F.dog_Parse.L8 n k0 (m + 1) s (p :: r) (p :: r) ((p :: r).length : Int) (0 : Int) c0 c1 c2 c3 c4 c5 d0 d1 [] 0 [] 1000000 [] 0 0 0 0 0 q0 q1 0 = match firstR p with
        | .error e => some (badP e.1 e.2)
        | .ok x => F.dog_Parse.L8 n k0 m s (p :: r) (p :: r) ((p :: r).length : Int) ((1 : Nat) : Int) c0 c1 c2 c3 c4 c5 d0 d1 x.1 0 x.2 1000000 [] 0 ((p.length : Int) + 1) 0 0 0 q0 q1 x.2.length := by
      intro m hm
      rw [F.dog_Parse.L8]
      unfold F.dog_Parse.L8.step
      dsimp only
      rw [bif_pos (by simp only [List.length_cons]; omega), show idx (p :: r) 0 = some p from rfl, some_bind', bif_pos (by omega : (0 : Int) < 2), beq_self_eq_true, cond_true, hcut, some_bind']
      dsimp only
      rw [text_cls n 1 _ 1 200 (by omega) (by omega), some_bind', nameB]
      unfold firstR
      cases hnm : nameOK (seg 58 p)
      · rw [Bool.not_false, cond_true, if_pos rfl, hw0 0 (by omega), Bool.false_and, Bool.not_false, cond_true]
        exact hk.bad _ _ _ _ _ _ _ _ _ _ _ _ _ _ _ _ _ _ _ _ _ (by decide)
      · rw [Bool.not_true, cond_false, if_neg (by simp)]
        by_cases hin : (58 : UInt8) ∈ p
        · rw [decide_eq_true hin, Bool.not_true, cond_false, if_neg (by simp [hin]), split_eq n 58 (by omega), some_bind']
          have hsum := splitL_sum 58 (restN 58 p)
          have hsn := sumL_len (splitL 58 (restN 58 p))
          have hrl : (seg 58 p).length + 1 + (restN 58 p).length ≤ p.length := by
            unfold restN
            rw [if_pos hin, List.length_drop]
            have := seg_lt hin
            omega
          have hA : IntKind.wrap .i64 (((seg 58 p).length : Int) + 1) = ((seg 58 p).length : Int) + 1 := wrap_in (by omega)
          have hP : IntKind.wrap .i64 ((p.length : Int) + 1) = (p.length : Int) + 1 := wrap_in (by omega)
          rw [hA, hP]
          refine (first_loop n hn _ _ (splitL 58 (restN 58 p)) (by omega) c0 c1 c2 c3 c4 c5 d0 d1 (seg 58 p) 0 1000000 [] 0 0 0 0 q0 q1 ?_ (splitL 58 (restN 58 p)) [] _ 0 n rfl (by simp) (by omega) (by omega) (by omega) (by omega)).trans ?_
          · intro acc a l
            rw [show ((17 : Int) == 0) = false from rfl, Bool.false_and, Bool.not_false, cond_true]
            exact hk.bad _ _ _ _ _ _ _ _ _ _ _ _ _ _ _ _ _ _ _ _ _ (by decide)
          · cases readVals (splitL 58 (restN 58 p)) [] (((seg 58 p).length : Int) + 1) with
            | error b => rfl
            | ok vs =>
              dsimp only
              rw [Bool.and_self, Bool.not_true, cond_false, hw0 ((p.length : Int) + 1) (by omega)]
              rfl
        · rw [decide_eq_false hin, Bool.not_false, cond_true, if_pos hin, hw0 _ (by omega), Bool.false_and, Bool.not_false, cond_true]
          exact hk.bad _ _ _ _ _ _ _ _ _ _ _ _ _ _ _ _ _ _ _ _ _ (by decide)
    have key2 : ∀ m, 20001 ≤ m + 1 → ∀ nm (vs : List DecL) (a : Int) (l : Nat), a = (p.length : Int) + 1 → F.dog_Parse.L8 n k0 (m + 1) s (p :: r) (p :: r) ((p :: r).length : Int) ((1 : Nat) : Int) c0 c1 c2 c3 c4 c5 d0 d1 nm 0 vs 1000000 [] 0 a 0 0 0 q0 q1 l = some (outP (secondR s p nm vs r)) := by
      intro m hm nm vs a l hA
      rw [F.dog_Parse.L8]
      unfold F.dog_Parse.L8.step
      dsimp only
      cases r with
      | nil =>
        rw [bif_neg (by simp), secondR]
        exact hk.one (by simp) _ _ _ _ _ _ _ _ _ _ _ _ _ _ _ _ _ _ _
      | cons q r =>
        have hq := sumL_mem (show q ∈ p :: q :: r by simp)
        rw [bif_pos (by simp only [List.length_cons]; omega), show idx (p :: q :: r) ((1 : Nat) : Int) = some q from rfl, some_bind', bif_pos (by omega), show (((1 : Nat) : Int) == 0) = false from rfl, cond_false, show (((1 : Nat) : Int) == 1) = true from rfl, cond_true, kind_eq n (by omega), some_bind']
        have hwa : IntKind.wrap .i64 (a + 0) = a := by rw [Int.add_zero, wrap_in (by omega)]
        rw [secondR]
        by_cases h0 : kindR q = 0
        · rw [if_pos h0, if_pos h0]
          dsimp only
          rw [show ((16 : Int) == 0) = false from rfl, Bool.not_false, cond_true, Bool.false_and, Bool.not_false, cond_true, hwa, hA]
          exact hk.bad _ _ _ _ _ _ _ _ _ _ _ _ _ _ _ _ _ _ _ _ _ (by decide)
        · rw [if_neg h0, if_neg h0]
          dsimp only
          rw [beq_self_eq_true, Bool.not_true, cond_false, Bool.and_self, Bool.not_true, cond_false]
          simp only [sumL, List.map_cons, List.sum_cons, List.length_cons] at hs hpl
          rw [at_step q (by omega), show IntKind.wrap .i64 (((1 : Nat) : Int) + 1) = ((2 : Nat) : Int) from rfl, hA]
          have := drest_loop n hn k0 s (p :: q :: r) (by simp only [sumL, List.map_cons, List.sum_cons]; omega) hk (by simp) c0 c1 c2 c3 c4 c5 d0 d1 q0 q1 l r ((p.length : Int) + 1 + (q.length + 1)) (nm, kindR q, vs, 1000000, [], 0, ()) 0 2 m rfl (by omega) (by simp) (by omega) (by omega) (by simp only [sumL]; omega)
          rw [show (p.length : Int) + 1 + (q.length + 1) = (p.length : Int) + 1 + q.length + 1 by omega] at this ⊢
          exact this
    have k1 := key (m + 1) (by omega)
    have k2 := key2 m (by omega)
    have hmm : n = m + 1 + 1 := hm
    rw [linesR]
    have goal : ∀ j, j = m + 1 + 1 → F.dog_Parse.L8 n k0 j s (p :: r) (p :: r) ((p :: r).length : Int) (0 : Int) c0 c1 c2 c3 c4 c5 d0 d1 [] 0 [] 1000000 [] 0 0 0 0 0 q0 q1 0 = some (outP (match firstR p with
      | .error e => .error e
      | .ok x => secondR s p x.1 x.2 r)) := by
      intro j hj
      rw [hj, k1]
      cases firstR p with
      | error e => rfl
      | ok x => exact k2 x.1 x.2 _ _ rfl
    exact goal n hmm
theorem parse_eq (n : Nat) (hn : 200000 ≤ n) (s : List UInt8) (hs : s.length ≤ 1000000) : F.dog_Parse n s = some (parseD s) := by
  unfold F.dog_Parse parseD
  rw [bdec]
  by_cases h : 8192 < s.length
  · rw [if_pos (by omega), if_pos h]; rfl
  · rw [if_neg (by omega), if_neg h, split_eq n 124 hs, some_bind']
    have hsum := splitL_sum 124 s
    refine lines_eq n hn _ s (splitL 124 s) (splitL_ne 124 s) (by omega) (by omega) ⟨?_, ?_, ?_⟩ [] 0 [] 0 [] 0 0 0 0 0
    · intro c0 c1 c2 c3 c4 c5 d0 d1 e0 e1 e2 e3 e4 e5 e6 e7 e a q0 q1 q2 he
      rw [beq_eq_false_iff_ne.2 he, Bool.false_and, cond_false, Bool.not_false, cond_true]
      rfl
    · intro h2 c0 c1 c2 c3 c4 c5 d0 d1 e0 e1 e2 e3 e4 e5 e6 e7 q0 q1 q2
      rw [beq_self_eq_true, Bool.and_self, cond_true, bif_neg (by omega), Bool.not_true, cond_false]
    · intro h2 c0 c1 c2 c3 c4 c5 d0 d1 e0 e1 e2 e3 e4 e5 e6 e7 q0 q1 q2
      rw [beq_self_eq_true, Bool.and_self, cond_true, bif_pos (by omega), Bool.false_and, Bool.not_false, cond_true]
      rfl
end Go.AM
set_option linter.unusedVariables false
set_option linter.unusedSimpArgs false
namespace Go.AM
end Go.AM
set_option linter.unusedVariables false
set_option linter.unusedSimpArgs false
namespace Go.AM
end Go.AM
set_option linter.unusedVariables false
set_option linter.unusedSimpArgs false
namespace Go.AM
theorem tagsR_good : ∀ (r : List (List UInt8)) (acc : List TagL) (a : Int) (l : List TagL), tagsR r acc a = .ok l → (∀ t ∈ acc, tagGood t = true) → ∀ t ∈ l, tagGood t = true
  | [], acc, a, l, h, hg => by cases h; exact hg
  | p :: r, acc, a, l, h, hg => by
    rw [tagsR] at h
    split at h
    · rename_i hc
      refine tagsR_good r _ _ _ h (fun t ht => ?_)
      rcases List.mem_append.1 ht with ht | ht
      · exact hg t ht
      · rw [List.mem_singleton.1 ht]; exact hc.1
    · cases h
theorem tagS_ok {t : TagL} (h : TagS t) : TagLOK t := ⟨by have := h.1; omega, by have := h.2; omega⟩
end Go.AM
set_option linter.unusedVariables false
set_option linter.unusedSimpArgs false
namespace Go.AM
end Go.AM
set_option linter.unusedVariables false
set_option linter.unusedSimpArgs false
namespace Go.AM
structure InvM (m : MetD) : Prop where
  nm : nameOK m.1 = true
  kd : kindB m.2.1 = true
  vs : (∀ d ∈ m.2.2.1, DecLOK d ∧ decC d = 0) ∧ 1 ≤ m.2.2.1.length ∧ m.2.2.1.length ≤ 64
  rt : rateB m.2.1 m.2.2.2.1 = true
  tg : (∀ t ∈ m.2.2.2.2.1, tagGood t = true) ∧ m.2.2.2.2.1.length ≤ 32 ∧ StrictT m.2.2.2.2.1
  tm : timeB m.2.2.2.2.2.1 = true
theorem InvM.right {m : MetD} (h : InvM m) : RightM m := by
  have hn := nameOK_le h.nm
  refine ⟨⟨by omega, ⟨by have := h.vs.2.2; omega, fun d hd => (h.vs.1 d hd).1⟩, by have := h.tg.2.1; omega, fun t ht => tagS_ok (tagGood_le (h.tg.1 t ht))⟩, ?_⟩
  have hv : valsB m.2.2.1 = true := by
    unfold valsB
    simp only [Bool.and_eq_true, decide_eq_true_eq]
    exact ⟨h.vs.2.1, h.vs.2.2, List.all_eq_true.2 (fun d hd => by simp [(h.vs.1 d hd).2])⟩
  have ht : tagsB m.2.2.2.2.1 = true := by
    unfold tagsB
    simp only [Bool.and_eq_true, decide_eq_true_eq]
    exact ⟨h.tg.2.1, List.all_eq_true.2 h.tg.1⟩
  unfold chkM
  rw [h.nm, h.kd, hv, h.rt, ht, h.tm]
  rfl
theorem RightM.inv {m : MetD} (h : RightM m) (hs : StrictT m.2.2.2.2.1) : InvM m := by
  obtain ⟨c1, c2, c3, c4, c5, c6⟩ := chk_zero h.chk
  have ht := right_tags h
  exact ⟨c1, c2, right_vals h, c4, ⟨fun t htm => (ht.1 t htm).2, ht.2, hs⟩, c6⟩
theorem parse_decl {p : List UInt8} (h : (parseR p).2.1.1 = 0) : DecLOK ((parseR p).1.1, (parseR p).1.2.1, (parseR p).1.2.2.1) ∧ decC ((parseR p).1.1, (parseR p).1.2.1, (parseR p).1.2.2.1) = 0 := by
  obtain ⟨neg, c, e, h1, h2, h3, h4⟩ := parse_ok h
  rw [h1]
  refine ⟨⟨trivial, ⟨by simp, ?_⟩, h3⟩, h4⟩
  have := two64_eq
  simp only
  omega
theorem readVals_ok : ∀ (r : List (List UInt8)) (acc : List DecL) (a : Int) (vs : List DecL), readVals r acc a = .ok vs → (∀ d ∈ acc, DecLOK d ∧ decC d = 0) → acc.length ≤ 64 → (∀ d ∈ vs, DecLOK d ∧ decC d = 0) ∧ vs.length ≤ 64 ∧ vs.length = acc.length + r.length
  | [], acc, a, vs, h, hd, hl => by cases h; exact ⟨hd, hl, by simp⟩
  | p :: r, acc, a, vs, h, hd, hl => by
    rw [readVals] at h
    split at h
    · rename_i hc
      have hr := readVals_ok r _ _ _ h (fun d hd' => by
        rcases List.mem_append.1 hd' with hd' | hd'
        · exact hd d hd'
        · rw [List.mem_singleton.1 hd']; exact parse_decl hc.1) (by simp; omega)
      refine ⟨hr.1, hr.2.1, ?_⟩
      have := hr.2.2
      simp at this ⊢
      omega
    · cases h
theorem readVals_err : ∀ (r : List (List UInt8)) (acc : List DecL) (a b : Int), readVals r acc a = .error b → a ≤ b ∧ b < a + sumL r
  | [], acc, a, b, h => by cases h
  | p :: r, acc, a, b, h => by
    rw [readVals] at h
    simp only [sumL, List.map_cons, List.sum_cons]
    split at h
    · have := readVals_err r _ _ _ h
      simp only [sumL] at this
      omega
    · cases h; omega
theorem kindR_ok {s : List UInt8} (h : kindR s ≠ 0) : kindB (kindR s) = true := by
  revert h
  unfold kindR
  repeat' split
  all_goals first | (intro _; rfl) | (intro h; exact absurd rfl h)
theorem moreR_ok {m : MetD} (h : InvM m) {last : Int} {p : List UInt8} {m' : MetD} {l : Int} (hr : moreR m last p = .ok (m', l)) : InvM m' := by
  cases p with
  | nil => cases hr
  | cons x s =>
    rw [moreR] at hr
    split at hr
    · split at hr
      · cases hr
      · split at hr
        · cases hr
        · rename_i hc
          cases hr
          have h0 : (rateR s).2.1.1 = 0 := Classical.byContradiction fun hh => hc (Or.inl hh)
          obtain ⟨_, r1, r2, _⟩ := rate_ok h0
          refine ⟨h.nm, h.kd, h.vs, ?_, h.tg, h.tm⟩
          unfold rateB
          simp only [Bool.and_eq_true, decide_eq_true_eq]
          refine ⟨r1, r2, ?_⟩
          by_cases h2 : m.2.1 = 2
          · have : (rateR s).1 = 1000000 := Classical.byContradiction fun hh => hc (Or.inr ⟨h2, hh⟩)
            simp [this]
          · simp [h2]
    · split at hr
      · split at hr
        · cases hr
        · split at hr
          · cases hr
          · rename_i l' hT
            split at hr
            · cases hr
            · rename_i h32
              cases hr
              have hg := tagsR_good _ _ _ _ hT (fun t ht => by cases ht)
              refine ⟨h.nm, h.kd, h.vs, h.rt, ⟨fun t ht => hg t ((normT_mem _ _).1 ht), ?_, normT_strict _⟩, h.tm⟩
              have := normT_len l'
              show (normT l').length ≤ 32
              omega
      · split at hr
        · split at hr
          · cases hr
          · split at hr
            · cases hr
            · rename_i hc
              cases hr
              have h0 : (parseNum s 1 1099511627776).2.1.1 = 0 := Classical.byContradiction hc
              obtain ⟨_, r1, r2, r3, r4, _⟩ := parse_back h0
              refine ⟨h.nm, h.kd, h.vs, h.rt, h.tg, ?_⟩
              unfold timeB
              simp only [Bool.and_eq_true, decide_eq_true_eq]
              rw [r1]
              omega
        · cases hr
theorem moreR_err {m : MetD} {last : Int} {p : List UInt8} {e : Int} (hr : moreR m last p = .error e) : e ≠ 0 := by
  cases p with
  | nil => cases hr; decide
  | cons x s =>
    rw [moreR] at hr
    split at hr
    · split at hr
      · cases hr; decide
      · split at hr <;> cases hr; decide
    · split at hr
      · split at hr
        · cases hr; decide
        · split at hr
          · cases hr; decide
          · split at hr <;> cases hr; decide
      · split at hr
        · split at hr
          · cases hr; decide
          · split at hr <;> cases hr; decide
        · cases hr; decide
theorem restR_ok : ∀ (r : List (List UInt8)) (a : Int) (m : MetD) (last : Int), InvM m → (∀ m', restR r a m last = .ok m' → InvM m') ∧ (∀ e b, restR r a m last = .error (e, b) → e ≠ 0 ∧ a ≤ b ∧ b < a + sumL r)
  | [], a, m, last, h => ⟨fun m' hr => by cases hr; exact h, fun e b hr => by cases hr⟩
  | p :: r, a, m, last, h => by
    rw [restR]
    simp only [sumL, List.map_cons, List.sum_cons]
    cases hm : moreR m last p with
    | error e => exact ⟨fun m' hr => (by cases hr), fun e b hr => by cases hr; exact ⟨moreR_err hm, by omega, by omega⟩⟩
    | ok x =>
      obtain ⟨m1, l1⟩ := x
      obtain ⟨h1, h2⟩ := restR_ok r (a + p.length + 1) m1 l1 (moreR_ok h hm)
      refine ⟨h1, fun e b hr => ?_⟩
      have := h2 e b hr
      simp only [sumL] at this
      omega
theorem firstR_ok {s : List UInt8} {nm : List UInt8} {vs : List DecL} (h : firstR s = .ok (nm, vs)) : nameOK nm = true ∧ (∀ d ∈ vs, DecLOK d ∧ decC d = 0) ∧ 1 ≤ vs.length ∧ vs.length ≤ 64 := by
  unfold firstR at h
  split at h
  · cases h
  · rename_i hnm
    split at h
    · cases h
    · split at h
      · rename_i vs' hv
        cases h
        obtain ⟨h1, h2, h3⟩ := readVals_ok _ _ _ _ hv (fun d hd => by cases hd) (by simp)
        have := List.length_pos_iff.2 (splitL_ne 58 (restN 58 s))
        simp only [List.length_nil, Nat.zero_add] at h3
        exact ⟨by simpa using hnm, h1, by omega, h2⟩
      · cases h
theorem firstR_err {s : List UInt8} {e a : Int} (h : firstR s = .error (e, a)) : e ≠ 0 ∧ 0 ≤ a ∧ a ≤ s.length := by
  unfold firstR at h
  split at h
  · cases h; exact ⟨by decide, by omega, by omega⟩
  · split at h
    · cases h; exact ⟨by decide, by omega, by omega⟩
    · rename_i hin
      split at h
      · cases h
      · rename_i b hv
        cases h
        have h1 := readVals_err _ _ _ _ hv
        have h2 := splitL_sum 58 (restN 58 s)
        have hin' : (58 : UInt8) ∈ s := Classical.byContradiction hin
        have h3 : (restN 58 s).length = s.length - ((seg 58 s).length + 1) := by unfold restN; rw [if_pos hin', List.length_drop]
        have h4 := seg_lt hin'
        exact ⟨by decide, by omega, by omega⟩
theorem linesR_ok (s : List UInt8) (ps : List (List UInt8)) (hsum : sumL ps = s.length + 1) : (∀ m, linesR s ps = .ok m → InvM m) ∧ (∀ e a, linesR s ps = .error (e, a) → e ≠ 0 ∧ 0 ≤ a ∧ a ≤ s.length) := by
  cases ps with
  | nil => exact ⟨fun m h => (by cases h), fun e a h => by cases h; exact ⟨by decide, by omega, by omega⟩⟩
  | cons p r =>
    simp only [sumL, List.map_cons, List.sum_cons] at hsum
    rw [linesR]
    cases hf : firstR p with
    | error x =>
      obtain ⟨e, a⟩ := x
      refine ⟨fun m h => (by cases h), fun e a h => ?_⟩
      cases h
      have := firstR_err hf
      exact ⟨this.1, this.2.1, by omega⟩
    | ok x =>
      obtain ⟨nm, vs⟩ := x
      obtain ⟨h1, h2, h3, h4⟩ := firstR_ok hf
      dsimp only
      cases r with
      | nil =>
        rw [secondR]
        exact ⟨fun m h => (by cases h), fun e a h => by cases h; exact ⟨by decide, by omega, by omega⟩⟩
      | cons q r =>
        simp only [List.map_cons, List.sum_cons] at hsum
        rw [secondR]
        by_cases h0 : kindR q = 0
        · rw [if_pos h0]
          exact ⟨fun m h => (by cases h), fun e a h => by cases h; exact ⟨by decide, by omega, by omega⟩⟩
        · rw [if_neg h0]
          have inv : InvM (nm, kindR q, vs, 1000000, [], 0, ()) := ⟨h1, kindR_ok h0, ⟨h2, h3, h4⟩, by
            unfold rateB; simp, ⟨fun t ht => (by cases ht), by simp, List.Pairwise.nil⟩, (show timeB 0 = true by decide)⟩
          obtain ⟨g1, g2⟩ := restR_ok r ((p.length : Int) + 1 + (q.length + 1)) _ 0 inv
          refine ⟨g1, fun e a h => ?_⟩
          have := g2 e a h
          simp only [sumL] at this
          omega
theorem parseD_cases (s : List UInt8) : ((parseD s).2.1 = (0, 0, ()) ∧ InvM (parseD s).1) ∨ (∃ e a, e ≠ 0 ∧ 0 ≤ a ∧ a ≤ (s.length : Int) ∧ parseD s = badP e a) := by
  unfold parseD
  split
  · exact Or.inr ⟨12, 0, by decide, by omega, by omega, rfl⟩
  · obtain ⟨h1, h2⟩ := linesR_ok s (splitL 124 s) (splitL_sum 124 s)
    cases hl : linesR s (splitL 124 s) with
    | ok m => exact Or.inl ⟨rfl, h1 m hl⟩
    | error x =>
      obtain ⟨e, a⟩ := x
      obtain ⟨g1, g2, g3⟩ := h2 e a hl
      exact Or.inr ⟨e, a, g1, g2, g3, rfl⟩
end Go.AM
set_option linter.unusedVariables false
set_option linter.unusedSimpArgs false
namespace Go.AM
theorem splitL_app {c : UInt8} {a : List UInt8} (h : c ∉ a) (t : List UInt8) : splitL c (a ++ c :: t) = a :: splitL c t := by
  rw [splitL_seg, if_pos (by simp)]
  have e := seg_app h t
  have e2 : restN c (a ++ c :: t) = t := by
    unfold restN
    rw [if_pos (by simp), e]
    simp
  rw [e, e2]
end Go.AM
set_option linter.unusedVariables false
set_option linter.unusedSimpArgs false
namespace Go.AM
def sdM (s : List UInt8) : MetR := (sdParse s).getD (badM 11 0)
theorem sdM_eq (s : List UInt8) : sdParse s = some (sdM s) := by
  unfold sdM
  rcases sd_cases s with ⟨c, a, h, _⟩ | ⟨_, _, _, _, _, _, _, _, _, _, _, _, _, h⟩ <;> rw [h] <;> rfl
def fmtB (f : Int) : Bool := decide (1 ≤ f) && decide (f ≤ 3)
def parseT (s : List UInt8) (f : Int) : MetR :=
  if fmtB f = false then badM 29 0 else if 8192 < s.length then badM 12 0 else if f = 1 then sdM s else if f = 2 then parseD s else grParse s
theorem fmt_three {f : Int} (h : fmtB f = true) : f = 1 ∨ f = 2 ∨ f = 3 := by
  unfold fmtB at h
  simp only [Bool.and_eq_true, decide_eq_true_eq] at h
  omega
theorem textParse_eq (n : Nat) (hn : 200000 ≤ n) (s : List UInt8) (hs : s.length ≤ 1000000000) (f : Int) : F.text_Parse n s f = some (parseT s f) := by
  unfold F.text_Parse parseT
  have hd : decide ((s.length : Int) > 8192) = decide (8192 < s.length) := decide_eq_decide.2 (by omega)
  rw [hd]
  cases hf : fmtB f
  · have h1 : f ≠ 1 := fun e => by rw [e] at hf; cases hf
    have h2 : f ≠ 2 := fun e => by rw [e] at hf; cases hf
    have h3 : f ≠ 3 := fun e => by rw [e] at hf; cases hf
    rw [beq_eq_false_iff_ne.2 h1, beq_eq_false_iff_ne.2 h2, beq_eq_false_iff_ne.2 h3, if_pos rfl]
    rfl
  · rw [if_neg (by simp)]
    by_cases hl : 8192 < s.length
    · rw [decide_eq_true hl, if_pos hl]
      rcases fmt_three hf with rfl | rfl | rfl <;> rfl
    · rw [decide_eq_false hl, if_neg hl]
      rcases fmt_three hf with rfl | rfl | rfl
      · rw [beq_self_eq_true, cond_true, cond_false, sdParse_eq n hn s (by omega), sdM_eq, if_pos rfl]
        rfl
      · rw [show ((2 : Int) == 1) = false from rfl, cond_false, beq_self_eq_true, cond_true, cond_false, parse_eq n hn s (by omega), if_neg (by decide), if_pos rfl]
        rfl
      · rw [show ((3 : Int) == 1) = false from rfl, show ((3 : Int) == 2) = false from rfl, cond_false, cond_false, beq_self_eq_true, cond_true, cond_false, grParse_eq n hn s (by omega), if_neg (by decide), if_neg (by decide)]
        rfl
theorem parseT_cases (s : List UInt8) (f : Int) : ((parseT s f).2.1 = (0, 0, ()) ∧ (parseT s f).1.2.2.1.length ≤ 64 ∧ (parseT s f).1.2.2.2.2.1.length ≤ 32) ∨ (∃ c a, c ≠ 0 ∧ 0 ≤ a ∧ a ≤ (s.length : Int) ∧ parseT s f = badM c a) := by
  unfold parseT
  split
  · exact Or.inr ⟨29, 0, by decide, by omega, by omega, rfl⟩
  · split
    · exact Or.inr ⟨12, 0, by decide, by omega, by omega, rfl⟩
    · split
      · rcases sd_cases s with ⟨c, a, h, h1, h2, h3⟩ | ⟨_, _, _, _, _, _, _, _, _, _, _, _, _, h⟩
        · rw [sdM_eq] at h
          exact Or.inr ⟨c, a, h1, h2, h3, Option.some.inj h⟩
        · rw [sdM_eq] at h
          rw [Option.some.inj h]
          exact Or.inl ⟨rfl, (show (1 : Nat) ≤ 64 by omega), (show (0 : Nat) ≤ 32 by omega)⟩
      · split
        · rcases parseD_cases s with ⟨h, hI⟩ | ⟨e, a, h1, h2, h3, h⟩
          · exact Or.inl ⟨h, hI.vs.2.2, hI.tg.2.1⟩
          · exact Or.inr ⟨e, a, h1, h2, h3, h⟩
        · rcases gr_cases s with ⟨c, a, h, h1, h2, h3⟩ | ⟨_, _, _, _, _, _, _, _, _, _, _, h⟩
          · exact Or.inr ⟨c, a, h1, h2, h3, h⟩
          · rw [h]
            exact Or.inl ⟨rfl, (show (1 : Nat) ≤ 64 by omega), (show (0 : Nat) ≤ 32 by omega)⟩
end Go.AM
set_option linter.unusedVariables false
set_option linter.unusedSimpArgs false
namespace Go.AM
abbrev MetL := List UInt8 × Int × List DecL × Int × List TagL × Int
def toL (m : MetD) : MetL := (m.1, m.2.1, m.2.2.1, m.2.2.2.1, m.2.2.2.2.1, m.2.2.2.2.2.1)
def opM (m : MetL) : MetD := (m.1, m.2.1, m.2.2.1, m.2.2.2.1, m.2.2.2.2.1, m.2.2.2.2.2, ())
def BatOK (l : List MetL) : Prop := ∀ m ∈ l, MetOK (opM m)
def RightB (l : List MetL) : Prop := l.length ≤ 1000 ∧ ∀ m ∈ l, RightM (opM m) ∧ StrictT m.2.2.2.2.1
theorem RightB.ok {l : List MetL} (h : RightB l) : BatOK l := fun m hm => (h.2 m hm).1.ok
end Go.AM
set_option linter.unusedVariables false
set_option linter.unusedSimpArgs false
namespace Go.AM
end Go.AM
set_option linter.unusedVariables false
set_option linter.unusedSimpArgs false
namespace Go.AM
def SmallL (l : List MetL) : Prop := ∀ x ∈ l, x.2.2.1.length ≤ 1000 ∧ x.2.2.2.2.1.length ≤ 1000
theorem requal_loop (n : Nat) (hn : 200000 ≤ n) (X : Type) (k0 : Unit → Option X) (kr : Bool → Option X) (l : List MetL) (hl : l.length ≤ 1000) (hs : SmallL l) : ∀ (j i m : Nat), i + j = l.length → j < m → F.ref08_Equal.L4 n k0 kr m l l (i : Int) = k0 () := by
  intro j
  induction j with
  | zero =>
    intro i m h1 hm
    obtain ⟨m, rfl⟩ : ∃ q, m = q + 1 := ⟨m - 1, by omega⟩
    rw [F.ref08_Equal.L4]
    unfold F.ref08_Equal.L4.step
    dsimp only
    rw [bif_neg (by omega)]
  | succ j ih =>
    intro i m h1 hm
    obtain ⟨m, rfl⟩ : ∃ q, m = q + 1 := ⟨m - 1, by omega⟩
    have hx := hs l[i] (List.getElem_mem (by omega))
    have he : F.ref07_Equal n (l[i].1, l[i].2.1, l[i].2.2.1, l[i].2.2.2.1, l[i].2.2.2.2.1, l[i].2.2.2.2.2, ()) (l[i].1, l[i].2.1, l[i].2.2.1, l[i].2.2.2.1, l[i].2.2.2.2.1, l[i].2.2.2.2.2, ()) = some true :=
      refequal_refl n hn (l[i].1, l[i].2.1, l[i].2.2.1, l[i].2.2.2.1, l[i].2.2.2.2.1, l[i].2.2.2.2.2, ()) (by have := hx.1; show l[i].2.2.1.length ≤ _; omega) (by have := hx.2; show l[i].2.2.2.2.1.length ≤ _; omega)
    rw [F.ref08_Equal.L4]
    unfold F.ref08_Equal.L4.step
    dsimp only
    rw [bif_pos (by omega), idx_lt (by omega : i < l.length), some_bind', some_bind', he, some_bind', Bool.not_true, cond_false, wrap_succ (by omega), ih (i + 1) m (by omega) (by omega)]
theorem requal_refl (n : Nat) (hn : 200000 ≤ n) (l : List MetL) (hl : l.length ≤ 1000) (hs : SmallL l) : F.ref08_Equal n l l = some true := by
  unfold F.ref08_Equal
  rw [beq_self_eq_true, Bool.not_true, cond_false]
  exact requal_loop n hn Bool _ _ l hl hs l.length 0 n (by omega) (by omega)
end Go.AM
set_option linter.unusedVariables false
set_option linter.unusedSimpArgs false
namespace Go.AM
abbrev EvL := Int × Int × Int × List MetL × Int × Int
abbrev LnL := Int × Int × List UInt8 × Bool
theorem eqK_same {X : Type} (a : Option (List AV)) (k : Option X) : eqK a a k = k := by unfold eqK; rw [if_pos rfl]
theorem bcut_eq (n : Nat) {s : List UInt8} (h : s ≠ []) (hs : s.length ≤ 1000000) : F.bytes_Cut n s [10] = some (seg 10 s, restN 10 s, decide (10 ∈ s), ()) := by
  unfold F.bytes_Cut
  have hi : O.bindex n s [10] = some (Lib.indexByte s 10) := by
    cases s with
    | nil => exact absurd rfl h
    | cons x s => rfl
  rw [hi, some_bind', seg_idx]
  by_cases hm : 10 ∈ s
  · have hl := seg_lt hm
    rw [if_pos hm, bif_pos (by omega), decide_eq_true hm]
    have e1 : sub s 0 ((seg 10 s).length : Int) = some (seg 10 s) := by
      have := sub_nat s 0 (seg 10 s).length (by omega) (by omega)
      rw [List.drop_zero, seg_take] at this
      exact this
    have e2 : sub s (((seg 10 s).length + 1 : Nat) : Int) (s.length : Int) = some (restN 10 s) := by
      rw [sub_tail (by omega)]
      unfold restN
      rw [if_pos hm]
    rw [e1, some_bind']
    show (sub s (IntKind.wrap .i64 (((seg 10 s).length : Int) + 1)) _).bind _ = _
    rw [wrap_succ (by omega), e2]
    rfl
  · rw [if_neg hm, bif_neg (by omega), decide_eq_false hm]
    unfold restN
    rw [if_neg hm, seg_all hm]
def lineEv (f : Int) (x : LnL) : EvL :=
  if x.2.2.2 = true then (2, x.1, x.2.1, [], 12, x.1) else if (parseT x.2.2.1 f).2.1.1 = 0 then (1, x.1, x.2.1, [toL (parseT x.2.2.1 f).1], 0, 0) else (2, x.1, x.2.1, [], (parseT x.2.2.1 f).2.1.1, x.1 + (parseT x.2.2.1 f).2.1.2.1)
theorem growE {X : Type} {v : List EvL} (h : v.length ≤ 100000) (y : Option X) : (bif decide ((v.length + 1) * 64 ≤ 2 ^ 46) && decide (0 < 64 ∧ 64 ≤ 2 ^ 20) then y else none) = y := by
  rw [decide_eq_true (by omega)]; rfl
theorem growN {X : Type} {v : List LnL} (h : v.length ≤ 100000) (y : Option X) : (bif decide ((v.length + 1) * 40 ≤ 2 ^ 46) && decide (0 < 40 ∧ 40 ≤ 2 ^ 20) then y else none) = y := by
  rw [decide_eq_true (by omega)]; rfl
theorem txt_loop (n : Nat) (hn : 200000 ≤ n) (X : Type) (k0 : Int → Bool → Bool → Int → Int → Int → List UInt8 → Bool → List EvL → List UInt8 → List LnL → List UInt8 → Nat → Nat → Option X) (f : Int) (ls : List LnL) (hl : ls.length ≤ 100000) (hx : ∀ x ∈ ls, x.2.2.1.length ≤ 100000 ∧ 0 ≤ x.1 ∧ x.1 ≤ 1000000)
    (b4 b5 : Bool) (c0 c1 c2 : Int) (c3 : List UInt8) (c4 : Bool) (d4 : List UInt8) (d6 : List LnL) (d7 : List UInt8) (q0 q1 : Nat) :
    ∀ (r : List LnL) (i m : Nat) (out : List EvL), ls.drop i = r → out.length ≤ i → r.length < m →
    F.sess_Whole.L2_sess_Sess_text_1 n k0 m ls (ls.length : Int) (i : Int) f b4 b5 c0 c1 c2 c3 c4 out d4 d6 d7 q0 q1 out.length = k0 f b4 b5 c0 c1 c2 c3 c4 (out ++ r.map (lineEv f)) d4 d6 d7 q1 (out ++ r.map (lineEv f)).length := by
  intro r
  induction r with
  | nil =>
    intro i m out hi ho hm
    have := drop_nil' hi
    obtain ⟨m, rfl⟩ : ∃ q, m = q + 1 := ⟨m - 1, by omega⟩
    rw [F.sess_Whole.L2_sess_Sess_text_1]
    unfold F.sess_Whole.L2_sess_Sess_text_1.step
    dsimp only
    rw [bif_neg (by omega), List.map_nil, List.append_nil]
  | cons x r ih =>
    intro i m out hi ho hm
    obtain ⟨g1, g2, g3⟩ := drop_cons hi
    obtain ⟨m, rfl⟩ : ∃ q, m = q + 1 := ⟨m - 1, by omega⟩
    obtain ⟨hx1, hx2, hx3⟩ := hx x (List.mem_of_getElem? g2)
    have next : ∀ y : EvL, y = lineEv f x → F.sess_Whole.L2_sess_Sess_text_1 n k0 m ls (ls.length : Int) ((i + 1 : Nat) : Int) f b4 b5 c0 c1 c2 c3 c4 (out ++ [y]) d4 d6 d7 q0 q1 (out ++ [y]).length = k0 f b4 b5 c0 c1 c2 c3 c4 (out ++ (x :: r).map (lineEv f)) d4 d6 d7 q1 (out ++ (x :: r).map (lineEv f)).length := by
      rintro y rfl
      refine (ih (i + 1) m _ g3 (by simp; omega) (by simp at hm; omega)).trans ?_
      simp only [List.append_assoc, List.singleton_append, List.map_cons]
    rw [F.sess_Whole.L2_sess_Sess_text_1]
    unfold F.sess_Whole.L2_sess_Sess_text_1.step
    dsimp only
    rw [bif_pos (by omega), idx_nat, g2, some_bind', wrap_succ (by omega)]
    cases hL : x.2.2.2
    · rw [cond_false, textParse_eq n hn _ (by omega), some_bind']
      rcases parseT_cases x.2.2.1 f with ⟨p1, p2, p3⟩ | ⟨c, a, hc, ha, hb, hp⟩
      · rw [p1]
        rw [show (!(((0 : Int), (0 : Int), ()).1 == 0 && ((0 : Int), (0 : Int), ()).2.1 == 0)) = false from rfl, cond_false, growE (by omega), Nat.beq_refl, cond_true]
        refine next _ ?_
        unfold lineEv
        rw [if_neg (by rw [hL]; decide), p1, if_pos rfl]
        rfl
      · rw [hp]
        have hb0 : (c == 0) = false := beq_eq_false_iff_ne.2 hc
        rw [show (badM c a).2.1.1 = c from rfl, show (badM c a).2.1.2.1 = a from rfl, hb0, Bool.false_and, Bool.not_false, cond_true, growE (by omega), Nat.beq_refl, cond_true, wrap_in (by omega)]
        refine next _ ?_
        unfold lineEv
        rw [if_neg (by rw [hL]; decide), hp, if_neg (by exact hc)]
    · rw [cond_true, growE (by omega), Nat.beq_refl, cond_true]
      refine next _ ?_
      unfold lineEv
      rw [if_pos hL]
def lnS (mo : Int) : List (List UInt8) → Nat → List LnL
  | [], _ => []
  | [_], _ => []
  | p :: q :: r, a => ((a : Int), ((a + p.length + 1 : Nat) : Int), (if (p.length : Int) > mo then [] else p), decide ((p.length : Int) > mo)) :: lnS mo (q :: r) (a + p.length + 1)
def lstS : List (List UInt8) → List UInt8
  | [] => []
  | [p] => p
  | _ :: q :: r => lstS (q :: r)
theorem lstS_cons {p : List UInt8} {l : List (List UInt8)} (h : l ≠ []) : lstS (p :: l) = lstS l := by
  cases l with
  | nil => exact absurd rfl h
  | cons q r => rfl
theorem lnS_cons (mo : Int) {p : List UInt8} {l : List (List UInt8)} (h : l ≠ []) (a : Nat) : lnS mo (p :: l) a = ((a : Int), ((a + p.length + 1 : Nat) : Int), (if (p.length : Int) > mo then [] else p), decide ((p.length : Int) > mo)) :: lnS mo l (a + p.length + 1) := by
  cases l with
  | nil => exact absurd rfl h
  | cons q r => rfl
theorem splitS_ne (c : UInt8) (s : List UInt8) : splitL c s ≠ [] := by
  rw [splitL_seg]
  split <;> simp
theorem restS_len {s : List UInt8} (h : 10 ∈ s) : (restN 10 s).length + (seg 10 s).length + 1 = s.length := by
  have := seg_lt h
  unfold restN
  rw [if_pos h, List.length_drop]
  omega
theorem ln_loop (n : Nat) (X : Type) (k0 : Int → Bool → Bool → Int → Int → Int → List UInt8 → Bool → List EvL → List UInt8 → List LnL → List UInt8 → Nat → Nat → Nat → Option X) (f mo : Int) (hmo : 1 ≤ mo) (b4 b5 c4 : Bool) (ev : List EvL) (d4 : List UInt8) (q1 : Nat) :
    ∀ (m : Nat) (s : List UInt8) (a : Nat) (out : List LnL), s.length < m → a + s.length ≤ 100000 → out.length ≤ a →
    ∃ op t, F.sess_Whole.L0_line_pieces_1 n k0 m f b4 b5 mo (a : Int) (a : Int) [] c4 ev d4 out s 0 q1 out.length =
      k0 f b4 b5 mo ((a + s.length : Nat) : Int) ((a + s.length - (lstS (splitL 10 s)).length : Nat) : Int) op c4 ev d4 (out ++ lnS mo (splitL 10 s) a) [] t q1 (out ++ lnS mo (splitL 10 s) a).length := by
  have fin : ∀ (m : Nat) (at' fr : Int) (op : List UInt8) (out : List LnL) (t : Nat), F.sess_Whole.L0_line_pieces_1 n k0 (m + 1) f b4 b5 mo at' fr op c4 ev d4 out [] t q1 out.length = k0 f b4 b5 mo at' fr op c4 ev d4 out [] t q1 out.length := fun m at' fr op out t => rfl
  intro m
  induction m with
  | zero => intro s a out h; omega
  | succ m ih =>
    intro s a out hm ha ho
    by_cases hs : s = []
    · subst hs
      refine ⟨[], 0, (fin m _ _ _ _ _).trans ?_⟩
      show _ = k0 f b4 b5 mo _ _ _ _ _ _ (out ++ []) _ _ _ (out ++ []).length
      rw [List.append_nil]
      rfl
    have hlen : 0 < s.length := List.length_pos_iff.2 hs
    have hsl := seg_le 10 s
    have e1 : IntKind.wrap .i64 ((a : Int) + ((seg 10 s).length : Int)) = ((a + (seg 10 s).length : Nat) : Int) := by rw [wrap_in (by omega)]; omega
    have e2 : IntKind.wrap .i64 (((a + (seg 10 s).length : Nat) : Int) + 1) = ((a + (seg 10 s).length + 1 : Nat) : Int) := wrap_succ (by omega)
    have e3 : IntKind.wrap .i64 (((a + (seg 10 s).length + 1 : Nat) : Int) - 1) = ((a + (seg 10 s).length : Nat) : Int) := by rw [wrap_in (by omega)]; omega
    have e4 : IntKind.wrap .i64 (((a + (seg 10 s).length : Nat) : Int) - (a : Int)) = ((seg 10 s).length : Int) := by rw [wrap_in (by omega)]; omega
    rw [F.sess_Whole.L0_line_pieces_1]
    unfold F.sess_Whole.L0_line_pieces_1.step
    dsimp only
    rw [bif_pos (by omega)]
    have hc : F.bytes_Cut n s [UInt8.ofNat ((10 : Int)).toNat] = some (seg 10 s, restN 10 s, decide (10 ∈ s), ()) := bcut_eq n hs (by omega)
    rw [hc, some_bind']
    dsimp only
    simp only [e1, e2, e3, e4, eqK_same]
    by_cases hin : 10 ∈ s
    · have hr := restS_len hin
      have hS : splitL 10 s = seg 10 s :: splitL 10 (restN 10 s) := by rw [splitL_seg, if_pos hin]
      have hne := splitS_ne 10 (restN 10 s)
      have next : ∀ x : LnL, x = ((a : Int), ((a + (seg 10 s).length + 1 : Nat) : Int), (if ((seg 10 s).length : Int) > mo then [] else seg 10 s), decide (((seg 10 s).length : Int) > mo)) →
          ∃ op t, F.sess_Whole.L0_line_pieces_1 n k0 m f b4 b5 mo ((a + (seg 10 s).length + 1 : Nat) : Int) ((a + (seg 10 s).length + 1 : Nat) : Int) [] c4 ev d4 (out ++ [x]) (restN 10 s) 0 q1 (out ++ [x]).length =
            k0 f b4 b5 mo ((a + s.length : Nat) : Int) ((a + s.length - (lstS (splitL 10 s)).length : Nat) : Int) op c4 ev d4 (out ++ lnS mo (splitL 10 s) a) [] t q1 (out ++ lnS mo (splitL 10 s) a).length := by
        rintro x rfl
        obtain ⟨op, t, h⟩ := ih (restN 10 s) (a + (seg 10 s).length + 1) (out ++ [((a : Int), ((a + (seg 10 s).length + 1 : Nat) : Int), (if ((seg 10 s).length : Int) > mo then [] else seg 10 s), decide (((seg 10 s).length : Int) > mo))]) (by omega) (by omega) (by simp; omega)
        refine ⟨op, t, h.trans ?_⟩
        rw [hS, lstS_cons hne, lnS_cons mo hne, show a + (seg 10 s).length + 1 + (restN 10 s).length = a + s.length from by omega]
        simp only [List.append_assoc, List.singleton_append]
      rw [decide_eq_true hin]
      by_cases hlong : ((seg 10 s).length : Int) > mo
      · rw [if_pos hlong, decide_eq_true hlong] at next
        simp only [decide_eq_true hlong, cond_true, Bool.not_true, cond_false]
        rw [growN (by omega), Nat.beq_refl, cond_true]
        exact next _ rfl
      · rw [if_neg hlong, decide_eq_false hlong] at next
        have hsub : sub ([] : List UInt8) (0 : Int) (([] : List UInt8).length : Int) = some [] := rfl
        simp only [decide_eq_false hlong, cond_true, Bool.not_false, cond_false, beq_self_eq_true, hsub, some_bind', List.nil_append]
        rw [show (decide ((([] : List UInt8).length + (seg 10 s).length) * 1 ≤ 2 ^ 46) && decide (0 < 1 ∧ 1 ≤ 2 ^ 20)) = true from by rw [decide_eq_true (by simp; omega)]; rfl, cond_true, growN (by omega), Nat.beq_refl, cond_true]
        exact next _ rfl
    · have hS : splitL 10 s = [s] := by rw [splitL_seg, if_neg hin]
      have hseg := seg_all hin
      have hrest : restN 10 s = [] := by unfold restN; rw [if_neg hin]
      obtain ⟨m, rfl⟩ : ∃ q, m = q + 1 := ⟨m - 1, by omega⟩
      have key : ∀ op t, ∃ op' t', F.sess_Whole.L0_line_pieces_1 n k0 (m + 1) f b4 b5 mo ((a + s.length : Nat) : Int) (a : Int) op c4 ev d4 out [] t q1 out.length =
            k0 f b4 b5 mo ((a + s.length : Nat) : Int) ((a + s.length - (lstS (splitL 10 s)).length : Nat) : Int) op' c4 ev d4 (out ++ lnS mo (splitL 10 s) a) [] t' q1 (out ++ lnS mo (splitL 10 s) a).length := fun op t => by
        refine ⟨op, t, (fin m _ _ _ _ _).trans ?_⟩
        rw [hS, show lstS [s] = s from rfl, show lnS mo [s] a = [] from rfl, List.append_nil, show a + s.length - s.length = a from by omega]
      rw [decide_eq_false hin, hseg, hrest]
      by_cases hlong : (s.length : Int) > mo
      · simp only [decide_eq_true hlong, cond_true, cond_false]
        exact key _ _
      · have hsub : sub ([] : List UInt8) (0 : Int) (([] : List UInt8).length : Int) = some [] := rfl
        simp only [decide_eq_false hlong, cond_true, Bool.not_false, cond_false, beq_self_eq_true, hsub, some_bind', List.nil_append]
        rw [show (decide ((([] : List UInt8).length + s.length) * 1 ≤ 2 ^ 46) && decide (0 < 1 ∧ 1 ≤ 2 ^ 20)) = true from by rw [decide_eq_true (by simp; omega)]; rfl, cond_true]
        exact key _ _
theorem lnS_ok (mo : Int) : ∀ (ps : List (List UInt8)) (a L : Nat), (∀ p ∈ ps, p.length ≤ 100000) → (a : Nat) + ((ps.map fun p => p.length + 1).sum) ≤ L → L ≤ 1000000 → ∀ x ∈ lnS mo ps a, x.2.2.1.length ≤ 100000 ∧ 0 ≤ x.1 ∧ x.1 ≤ 1000000
  | [], _, _, _, _, _, x, hx => by cases hx
  | [_], _, _, _, _, _, x, hx => by cases hx
  | p :: q :: r, a, L, hp, hs, hL, x, hx => by
    simp only [List.map_cons, List.sum_cons] at hs
    rcases List.mem_cons.1 hx with rfl | hx
    · refine ⟨?_, by simp, by simp; omega⟩
      show (if (p.length : Int) > mo then [] else p).length ≤ _
      split
      · simp
      · exact hp p (by simp)
    · exact lnS_ok mo (q :: r) (a + p.length + 1) L (fun y hy => hp y (by simp [hy])) (by simp only [List.map_cons, List.sum_cons]; omega) hL x hx
theorem splitS_sum (s : List UInt8) : ∀ m, s.length < m → ((splitL 10 s).map fun p => p.length + 1).sum = s.length + 1 := by
  intro m
  induction m generalizing s with
  | zero => intro h; omega
  | succ m ih =>
    intro hm
    rw [splitL_seg]
    by_cases h : 10 ∈ s
    · have hr := restS_len h
      rw [if_pos h, List.map_cons, List.sum_cons, ih (restN 10 s) (by omega)]
      omega
    · rw [if_neg h]; simp
theorem splitS_mem (s : List UInt8) : ∀ m, s.length < m → ∀ p ∈ splitL 10 s, p.length ≤ s.length ∧ 10 ∉ p := by
  intro m
  induction m generalizing s with
  | zero => intro h; omega
  | succ m ih =>
    intro hm p hp
    rw [splitL_seg] at hp
    by_cases h : 10 ∈ s
    · have hr := restS_len h
      rw [if_pos h] at hp
      rcases List.mem_cons.1 hp with rfl | hp
      · exact ⟨seg_le 10 s, seg_free 10 s⟩
      · obtain ⟨h1, h2⟩ := ih (restN 10 s) (by omega) p hp
        exact ⟨by omega, h2⟩
    · rw [if_neg h] at hp
      rw [List.mem_singleton.1 hp]
      exact ⟨Nat.le_refl _, h⟩
theorem lnS_len (mo : Int) : ∀ (ps : List (List UInt8)) (a : Nat), (lnS mo ps a).length ≤ (ps.map fun p => p.length + 1).sum
  | [], _ => by simp [lnS]
  | [_], _ => by simp [lnS]
  | p :: q :: r, a => by
    have := lnS_len mo (q :: r) (a + p.length + 1)
    rw [List.map_cons, List.sum_cons]
    simp only [lnS, List.length_cons] at this ⊢
    omega
def tailE (p : List UInt8) (a : Nat) : List EvL := if p = [] then [] else [(3, (a : Int), ((a + p.length : Nat) : Int), [], 30, (a : Int))]
def evS (f mo : Int) : List (List UInt8) → Nat → List EvL
  | [], _ => []
  | [p], a => tailE p a
  | p :: q :: r, a => lineEv f ((a : Int), ((a + p.length + 1 : Nat) : Int), (if (p.length : Int) > mo then [] else p), decide ((p.length : Int) > mo)) :: evS f mo (q :: r) (a + p.length + 1)
theorem evS_ln (f mo : Int) : ∀ (ps : List (List UInt8)) (a : Nat), ps ≠ [] → evS f mo ps a = (lnS mo ps a).map (lineEv f) ++ tailE (lstS ps) (a + (ps.map fun p => p.length + 1).sum - 1 - (lstS ps).length)
  | [], _, h => absurd rfl h
  | [p], a, _ => by
    show tailE p a = [] ++ tailE p (a + ([p.length + 1] : List Nat).sum - 1 - p.length)
    rw [List.nil_append, show a + ([p.length + 1] : List Nat).sum - 1 - p.length = a from by simp]
  | p :: q :: r, a, _ => by
    have := evS_ln f mo (q :: r) (a + p.length + 1) (by simp)
    show lineEv f _ :: evS f mo (q :: r) (a + p.length + 1) = lineEv f _ :: (lnS mo (q :: r) (a + p.length + 1)).map (lineEv f) ++ _
    rw [this, List.cons_append]
    congr 2
    rw [show lstS (p :: q :: r) = lstS (q :: r) from rfl, List.map_cons (a := p), List.sum_cons]
    congr 1
    omega
abbrev WhoR := List EvL × Int × Unit
theorem sc8_eq (n : Nat) (kr : List EvL → Int → Nat → Option WhoR) (hr : ∀ a b k, kr a b k = some (a, b, ())) (l m : List EvL) (h : l.length + m.length ≤ 1000000) (k : Nat) : F.sess_Whole.C8 n kr 0 l m l.length k = some (l ++ m, 0, ()) := by
  unfold F.sess_Whole.C8
  rw [show (!((0 : Int) == 0)) = false from rfl, cond_false, show (decide ((l.length + m.length) * 64 ≤ 2 ^ 46) && decide (0 < 64 ∧ 64 ≤ 2 ^ 20)) = true from by rw [decide_eq_true (by omega)]; rfl, cond_true, Nat.beq_refl, cond_true, hr]
theorem sc5_eq (n : Nat) (kr krx : List EvL → Int → Nat → Option WhoR) (hr : ∀ a b k, kr a b k = some (a, b, ())) (f mo : Int) (hf : f = 1 ∨ f = 2 ∨ f = 3) (l : List EvL) (hl : l.length ≤ 100000) (fr : Nat) (p op : List UInt8) (k : Nat) :
    F.sess_Whole.C5 n kr krx 0 l f false false mo ((fr + p.length : Nat) : Int) (fr : Int) op false l.length k = some (l ++ tailE p fr, 0, ()) := by
  have h8 : ∀ (m : List EvL) (t : Nat), m.length ≤ 1 → F.sess_Whole.C8 n (fun a b k => kr a b k) 0 l m l.length t = some (l ++ m, 0, ()) := fun m t hm => sc8_eq n _ hr l m (by omega) t
  unfold F.sess_Whole.C5
  rw [show (!((0 : Int) == 0)) = false from rfl, cond_false, cond_false, cond_false, beq_eq_false_iff_ne.2 (by omega : f ≠ 4), cond_false, cond_false]
  unfold tailE
  by_cases h : p = []
  · subst h
    rw [if_pos rfl, show (((fr + ([] : List UInt8).length : Nat) : Int) == (fr : Int)) = true from by simp, cond_true]
    exact h8 [] _ (by simp)
  · have hp : 0 < p.length := List.length_pos_iff.2 h
    rw [if_neg h, beq_eq_false_iff_ne.2 (by omega), cond_false]
    cases decide (IntKind.wrap .i64 (((fr + p.length : Nat) : Int) - (fr : Int)) > mo)
    · exact h8 [(3, (fr : Int), ((fr + p.length : Nat) : Int), [], 30, (fr : Int))] 1 (by simp)
    · exact h8 [(3, (fr : Int), ((fr + p.length : Nat) : Int), [], 30, (fr : Int))] 1 (by simp)
theorem whole_text (n : Nat) (hn : 200000 ≤ n) (f mo : Int) (hf : f = 1 ∨ f = 2 ∨ f = 3) (h1 : 1 ≤ mo) (h2 : mo ≤ 8192) (b : List UInt8) (hb : b.length ≤ 10000) : F.sess_Whole n f mo b = some (evS f mo (splitL 10 b) 0, 0, ()) := by
  have hsum := splitS_sum b _ (Nat.lt_succ_self _)
  have hlnl := lnS_len mo (splitL 10 b) 0
  have hok := lnS_ok mo (splitL 10 b) 0 (b.length + 1) (fun p hp => by have := (splitS_mem b _ (Nat.lt_succ_self _) p hp).1; omega) (by omega) (by omega)
  have hev : evS f mo (splitL 10 b) 0 = (lnS mo (splitL 10 b) 0).map (lineEv f) ++ tailE (lstS (splitL 10 b)) (b.length - (lstS (splitL 10 b)).length) := by
    rw [evS_ln f mo _ 0 (splitS_ne 10 b), hsum]
    congr 2
    omega
  have hlst : (lstS (splitL 10 b)).length ≤ b.length := by
    have : ∀ l : List (List UInt8), l ≠ [] → lstS l ∈ l := by
      intro l
      induction l with
      | nil => intro h; exact absurd rfl h
      | cons p l ih =>
        intro _
        cases l with
        | nil => simp [lstS]
        | cons q r => exact List.mem_cons_of_mem _ (ih (by simp))
    exact (splitS_mem b _ (Nat.lt_succ_self _) _ (this _ (splitS_ne 10 b))).1
  have hat : (((0 + b.length : Nat)) : Int) = ((b.length - (lstS (splitL 10 b)).length + (lstS (splitL 10 b)).length : Nat) : Int) := by omega
  have hfr : ((0 + b.length - (lstS (splitL 10 b)).length : Nat) : Int) = ((b.length - (lstS (splitL 10 b)).length : Nat) : Int) := by omega
  have hml : ((lnS mo (splitL 10 b) 0).map (lineEv f)).length ≤ 100000 := by rw [List.length_map]; omega
  unfold F.sess_Whole
  rcases hf with rfl | rfl | rfl
  all_goals
    first
      | rw [show ((1 : Int) == 1) = true from rfl]
      | rw [show ((2 : Int) == 1) = false from rfl, show ((2 : Int) == 2) = true from rfl]
      | rw [show ((3 : Int) == 1) = false from rfl, show ((3 : Int) == 2) = false from rfl, show ((3 : Int) == 3) = true from rfl]
    simp only [cond_true, cond_false]
    rw [bif_neg (by omega), bif_neg (by omega)]
    obtain ⟨op, t, h⟩ := ln_loop n WhoR _ _ mo h1 false false false [] b 0 n b 0 [] (by omega) (by omega) (by simp)
    refine h.trans ?_
    rw [List.nil_append]
    refine (txt_loop n hn WhoR _ _ (lnS mo (splitL 10 b) 0) (by omega) hok false false mo _ _ op false b _ [] _ t (lnS mo (splitL 10 b) 0) 0 n [] rfl (by simp) (by omega)).trans ?_
    rw [List.nil_append, cond_false, hat, hfr, hev]
    exact sc5_eq n _ _ (fun _ _ _ => rfl) _ mo (by omega) _ hml _ _ op t
end Go.AM
set_option linter.unusedVariables false
set_option linter.unusedSimpArgs false
namespace Go.AM
theorem one_refl (n : Nat) (x : Int × Int × Int × List MetL × Int × Int × Unit) (h : F.ref08_Equal n x.2.2.2.1 x.2.2.2.1 = some true) : F.law22_one n x x = some true := by
  unfold F.law22_one
  simp only [beq_self_eq_true, cond_true, h, some_bind']
theorem req_nil (n : Nat) (hn : 200000 ≤ n) : F.ref08_Equal n [] [] = some true := requal_refl n hn [] (by simp) (fun x hx => by cases hx)
theorem lineEv_cases (f : Int) (t : List UInt8) (lg : Bool) : (lg = false ∧ (parseT t f).2.1 = (0, 0, ()) ∧ (parseT t f).1.2.2.1.length ≤ 64 ∧ (parseT t f).1.2.2.2.2.1.length ≤ 32 ∧ ∀ a b : Int, lineEv f (a, b, t, lg) = (1, a, b, [toL (parseT t f).1], 0, 0)) ∨
    ∃ c o : Int, c ≠ 0 ∧ 0 ≤ o ∧ o ≤ (t.length : Int) ∧ ∀ a b : Int, lineEv f (a, b, t, lg) = (2, a, b, [], c, a + o) := by
  cases lg
  · rcases parseT_cases t f with ⟨p1, p2, p3⟩ | ⟨c, o, hc, h0, h1, hp⟩
    · refine .inl ⟨rfl, p1, p2, p3, fun a b => ?_⟩
      unfold lineEv
      rw [if_neg Bool.false_ne_true, p1, if_pos rfl]
    · refine .inr ⟨c, o, hc, h0, h1, fun a b => ?_⟩
      unfold lineEv
      rw [if_neg Bool.false_ne_true, hp, if_neg (by exact hc)]
  · refine .inr ⟨12, 0, by decide, by omega, by omega, fun a b => ?_⟩
    unfold lineEv
    rw [if_pos rfl, Int.add_zero]
theorem split_feed {p : List UInt8} (h : 10 ∉ p) : splitL 10 (p ++ [10]) = [p, []] := splitL_app h []
theorem cov_loop (n : Nat) (hn : 200000 ≤ n) (f mo : Int) (hf : f = 1 ∨ f = 2 ∨ f = 3) (h1 : 1 ≤ mo) (h2 : mo ≤ 8192) (b : List UInt8) (hb : b.length ≤ 3000) (l : List EvL) (hl : l.length ≤ 100000) (k0 : List UInt8 → Int → Int → Int → Option Bool) (kr : Bool → Int → Int → Option Bool) :
    ∀ (ps : List (List UInt8)) (a i m : Nat), splitL 10 (b.drop a) = ps → a ≤ b.length → l.drop i = evS f mo ps a → ps.length + 1 < m →
    F.law22_SessCovers.L8 n k0 kr m b l (a : Int) (i : Int) f mo = k0 b (b.length : Int) f mo := by
  have fin : ∀ (m i : Nat), l.length ≤ i → F.law22_SessCovers.L8 n k0 kr (m + 1) b l (b.length : Int) (i : Int) f mo = k0 b (b.length : Int) f mo := fun m i hi => by
    rw [F.law22_SessCovers.L8]
    unfold F.law22_SessCovers.L8.step
    dsimp only
    rw [bif_neg (by omega)]
  have h11 : ((1 : Int) == 1) = true := rfl
  have h13 : ((1 : Int) == 3) = false := rfl
  have h21 : ((2 : Int) == 1) = false := rfl
  have h23 : ((2 : Int) == 3) = false := rfl
  have h31 : ((3 : Int) == 1) = false := rfl
  have h33 : ((3 : Int) == 3) = true := rfl
  intro ps
  induction ps with
  | nil => intro a i m h; exact absurd h (splitS_ne _ _)
  | cons p ps ih =>
    intro a i m hs ha hd hm
    obtain ⟨m, rfl⟩ : ∃ q, m = q + 1 := ⟨m - 1, by omega⟩
    have hs0 := hs
    rw [splitL_seg] at hs
    by_cases hin : 10 ∈ b.drop a
    · rw [if_pos hin] at hs
      obtain ⟨rfl, rfl⟩ := List.cons.inj hs
      have hsp := seg_split hin
      have hlt := seg_lt hin
      have hfree := seg_free 10 (b.drop a)
      have hrest : restN 10 (b.drop a) = b.drop (a + (seg 10 (b.drop a)).length + 1) := by
        unfold restN
        rw [if_pos hin, List.drop_drop]
        congr 1
      rw [List.length_drop] at hlt
      generalize hp : seg 10 (b.drop a) = p at *
      have hev : evS f mo (p :: splitL 10 (restN 10 (b.drop a))) a = lineEv f ((a : Int), ((a + p.length + 1 : Nat) : Int), (if (p.length : Int) > mo then [] else p), decide ((p.length : Int) > mo)) :: evS f mo (splitL 10 (restN 10 (b.drop a))) (a + p.length + 1) := by
        cases hq : splitL 10 (restN 10 (b.drop a)) with
        | nil => exact absurd hq (splitS_ne _ _)
        | cons q r => rfl
      rw [hev] at hd
      obtain ⟨g1, g2, g3⟩ := drop_cons hd
      have next : F.law22_SessCovers.L8 n k0 kr m b l ((a + p.length + 1 : Nat) : Int) ((i + 1 : Nat) : Int) f mo = k0 b (b.length : Int) f mo :=
        ih (a + p.length + 1) (i + 1) m (by rw [← hrest]) (by omega) g3 (by simp at hm; omega)
      have hbd : b.drop a = p ++ 10 :: b.drop (a + p.length + 1) := by
        refine hsp.trans ?_
        rw [List.drop_drop]
        congr 3
      have hsub : sub b (a : Int) ((a + p.length + 1 : Nat) : Int) = some (p ++ [10]) := by
        rw [sub_nat b _ _ (by omega) (by omega), List.drop_take, hbd, show a + p.length + 1 - a = p.length + 1 from by omega, List.take_append, List.take_of_length_le (by omega)]
        simp
      have hsub2 : sub b (a : Int) ((a + p.length : Nat) : Int) = some p := by
        rw [sub_nat b _ _ (by omega) (by omega), List.drop_take, hbd, show a + p.length - a = p.length from by omega]
        simp
      have hidx : idx b ((a + p.length : Nat) : Int) = some 10 := by
        rw [idx_nat]
        have : (b.drop a)[p.length]? = some 10 := by rw [hbd]; simp
        rw [List.getElem?_drop] at this
        exact this
      have hw : IntKind.wrap .i64 (((a + p.length + 1 : Nat) : Int) - 1) = ((a + p.length : Nat) : Int) := by rw [wrap_in (by omega)]; omega
      have hwh : F.sess_Whole n f mo (p ++ [10]) = some ([lineEv f ((0 : Int), ((p.length + 1 : Nat) : Int), (if (p.length : Int) > mo then [] else p), decide ((p.length : Int) > mo))], 0, ()) := by
        rw [whole_text n hn f mo hf h1 h2 _ (by simp; omega), split_feed hfree]
        show some (lineEv f (((0 : Nat) : Int), ((0 + p.length + 1 : Nat) : Int), _, _) :: [], _, _) = _
        rw [Nat.zero_add]
        rfl
      have hten : (((10 : UInt8).toNat : Int) == (10 : Int)) = true := rfl
      rw [F.law22_SessCovers.L8]
      unfold F.law22_SessCovers.L8.step
      dsimp only
      rw [bif_pos (by omega), idx_nat, g2, some_bind']
      rcases lineEv_cases f (if (p.length : Int) > mo then [] else p) (decide ((p.length : Int) > mo)) with ⟨hlg, hp0, hp1, hp2, he⟩ | ⟨c, o, hc, ho1, ho2, he⟩
      · have hlg' : ¬ (p.length : Int) > mo := of_decide_eq_false hlg
        rw [if_neg hlg'] at hp0 hp1 hp2
        have hreq : F.ref08_Equal n [toL (parseT p f).1] [toL (parseT p f).1] = some true := requal_refl n hn _ (by simp) (fun x hx => by
          rw [List.mem_singleton.1 hx]
          exact ⟨Nat.le_trans hp1 (by decide), Nat.le_trans hp2 (by decide)⟩)
        rw [he] at hwh ⊢
        rw [if_neg hlg'] at hwh ⊢
        have hone := one_refl n (1, (a : Int), ((a + p.length + 1 : Nat) : Int), [toL (parseT p f).1], 0, 0, ()) hreq
        have hpa := textParse_eq n hn p (by omega) f
        have hpc : (!((parseT p f).2.1.1 == 0 && (parseT p f).2.1.2.1 == 0)) = false := by rw [hp0]; rfl
        have hreq2 : F.ref08_Equal n [toL (parseT p f).1] [((parseT p f).1.1, (parseT p f).1.2.1, (parseT p f).1.2.2.1, (parseT p f).1.2.2.2.1, (parseT p f).1.2.2.2.2.1, (parseT p f).1.2.2.2.2.2.1)] = some true := hreq
        dsimp only
        simp only [beq_self_eq_true, Bool.not_true, cond_false]
        rw [bif_neg (by omega), bif_neg (by omega), hsub, some_bind', hwh, some_bind']
        dsimp only
        rw [show (!((0 : Int) == 0)) = false from rfl, cond_false]
        rw [show (!((([((1 : Int), (0 : Int), ((p.length + 1 : Nat) : Int), [toL (parseT p f).1], (0 : Int), (0 : Int))] : List EvL).length : Int) == 1)) = false from rfl, cond_false]
        rw [show idx ([((1 : Int), (0 : Int), ((p.length + 1 : Nat) : Int), [toL (parseT p f).1], (0 : Int), (0 : Int))] : List EvL) 0 = some ((1 : Int), (0 : Int), ((p.length + 1 : Nat) : Int), [toL (parseT p f).1], (0 : Int), (0 : Int)) from rfl, some_bind']
        dsimp only
        simp only [h11, h13, Bool.not_true, cond_false, hone, some_bind', hw, hidx, hten, cond_true, beq_self_eq_true, hsub2, hpa, hpc, hreq2]
        rw [wrap_succ (by omega)]
        exact next
      · rw [he] at hwh ⊢
        have hone := one_refl n (2, (a : Int), ((a + p.length + 1 : Nat) : Int), [], c, (a : Int) + o, ()) (req_nil n hn)
        have hot : o ≤ (p.length : Int) := by
          refine Int.le_trans ho2 ?_
          split
          · simp
          · exact Int.le_refl _
        have hc0 : (c == 0) = false := beq_eq_false_iff_ne.2 hc
        have hwo : IntKind.wrap .i64 ((0 : Int) + o + (a : Int)) = (a : Int) + o := by rw [wrap_in (by omega)]; omega
        have d1 : decide ((a : Int) + o < (a : Int)) = false := decide_eq_false (by omega)
        have d2 : decide ((a : Int) + o > ((a + p.length + 1 : Nat) : Int)) = false := decide_eq_false (by omega)
        dsimp only
        simp only [beq_self_eq_true, Bool.not_true, cond_false]
        rw [bif_neg (by omega), bif_neg (by omega), hsub, some_bind', hwh, some_bind']
        dsimp only
        rw [show (!((0 : Int) == 0)) = false from rfl, cond_false]
        rw [show (!((([((2 : Int), (0 : Int), ((p.length + 1 : Nat) : Int), ([] : List MetL), c, (0 : Int) + o)] : List EvL).length : Int) == 1)) = false from rfl, cond_false]
        rw [show idx ([((2 : Int), (0 : Int), ((p.length + 1 : Nat) : Int), ([] : List MetL), c, (0 : Int) + o)] : List EvL) 0 = some ((2 : Int), (0 : Int), ((p.length + 1 : Nat) : Int), ([] : List MetL), c, (0 : Int) + o) from rfl, some_bind']
        dsimp only
        simp only [hwo, h21, h23, Bool.not_true, Bool.not_false, cond_false, hone, some_bind', hw, hidx, hten, cond_true, beq_self_eq_true, hc0, d1, d2]
        rw [show (!((([] : List MetL).length : Int) == 0)) = false from rfl, cond_false, wrap_succ (by omega)]
        exact next
    · rw [if_neg hin] at hs
      obtain ⟨rfl, rfl⟩ := List.cons.inj hs
      rw [show evS f mo [b.drop a] a = tailE (b.drop a) a from rfl] at hd
      unfold tailE at hd
      by_cases hz : b.drop a = []
      · rw [if_pos hz] at hd
        have := drop_nil' hz
        have := drop_nil' hd
        rw [show (a : Int) = (b.length : Int) from by omega]
        exact fin m i (by omega)
      · rw [if_neg hz] at hd
        obtain ⟨g1, g2, g3⟩ := drop_cons hd
        have hlen : (b.drop a).length = b.length - a := List.length_drop
        have hpos : 0 < (b.drop a).length := List.length_pos_iff.2 hz
        have hend := drop_nil' g3
        rw [show a + (b.drop a).length = b.length from by omega] at g2
        have hsub : sub b (a : Int) (b.length : Int) = some (b.drop a) := sub_tail (by omega)
        have hwh : F.sess_Whole n f mo (b.drop a) = some ([((3 : Int), (0 : Int), ((b.drop a).length : Int), [], 30, (0 : Int))], 0, ()) := by
          rw [whole_text n hn f mo hf h1 h2 _ (by omega), hs0]
          show some (tailE (b.drop a) 0, _, _) = _
          unfold tailE
          rw [if_neg hz, Nat.zero_add]
          rfl
        have hw : IntKind.wrap .i64 ((b.length : Int) - 1) = ((b.length - 1 : Nat) : Int) := by rw [wrap_in (by omega)]; omega
        have hwl : IntKind.wrap .i64 ((l.length : Int) - 1) = ((l.length - 1 : Nat) : Int) := by rw [wrap_in (by omega)]; omega
        have hw0 : IntKind.wrap .i64 ((0 : Int) + (a : Int)) = (a : Int) := by rw [wrap_in (by omega)]; omega
        obtain ⟨x, hidx, hx⟩ : ∃ x : UInt8, idx b ((b.length - 1 : Nat) : Int) = some x ∧ x ≠ 10 := by
          refine ⟨b[b.length - 1]'(by omega), idx_lt (by omega), fun e => hin ?_⟩
          have : (b.drop a)[b.length - 1 - a]? = some 10 := by
            rw [List.getElem?_drop, show a + (b.length - 1 - a) = b.length - 1 from by omega, List.getElem?_eq_getElem (by omega), e]
          exact List.mem_of_getElem? this
        have hx0 : (((x.toNat : Nat) : Int) == (10 : Int)) = false := by
          rw [beq_eq_false_iff_ne]
          intro e
          apply hx
          apply UInt8.toNat_inj.1
          show x.toNat = 10
          omega
        have hone := one_refl n (3, (a : Int), (b.length : Int), [], 30, (a : Int), ()) (req_nil n hn)
        have hi : ((i : Int) == ((l.length - 1 : Nat) : Int)) = true := by
          rw [beq_iff_eq]; omega
        have d1 : decide ((a : Int) < (a : Int)) = false := decide_eq_false (by omega)
        have d2 : decide ((a : Int) > (b.length : Int)) = false := decide_eq_false (by omega)
        have hc0 : ((30 : Int) == 0) = false := rfl
        rw [F.law22_SessCovers.L8]
        unfold F.law22_SessCovers.L8.step
        dsimp only
        rw [bif_pos (by omega), idx_nat, g2, some_bind']
        dsimp only
        simp only [beq_self_eq_true, Bool.not_true, cond_false]
        rw [bif_neg (by omega), bif_neg (by omega), hsub, some_bind', hwh, some_bind']
        dsimp only
        rw [show (!((0 : Int) == 0)) = false from rfl, cond_false]
        rw [show (!((([((3 : Int), (0 : Int), ((b.drop a).length : Int), ([] : List MetL), (30 : Int), (0 : Int))] : List EvL).length : Int) == 1)) = false from rfl, cond_false]
        rw [show idx ([((3 : Int), (0 : Int), ((b.drop a).length : Int), ([] : List MetL), (30 : Int), (0 : Int))] : List EvL) 0 = some ((3 : Int), (0 : Int), ((b.drop a).length : Int), ([] : List MetL), (30 : Int), (0 : Int)) from rfl, some_bind']
        dsimp only
        simp only [hw0, h31, h33, Bool.not_true, Bool.not_false, cond_false, hone, some_bind', hw, hidx, hx0, cond_true, beq_self_eq_true, hwl, hi, hc0, d1, d2]
        rw [show (!((([] : List MetL).length : Int) == 0)) = false from rfl, cond_false, wrap_succ (by omega)]
        obtain ⟨m, rfl⟩ : ∃ q, m = q + 1 := ⟨m - 1, by simp at hm; omega⟩
        exact fin m (i + 1) hend
theorem whole_bad (n : Nat) (f mo : Int) (b : List UInt8) (hf : f ≠ 4) (h : ¬((f = 1 ∨ f = 2 ∨ f = 3) ∧ 1 ≤ mo ∧ mo ≤ 8192)) : ∃ e, e ≠ 0 ∧ F.sess_Whole n f mo b = some ([], e, ()) := by
  unfold F.sess_Whole
  by_cases hf3 : f = 1 ∨ f = 2 ∨ f = 3
  · refine ⟨10, by decide, ?_⟩
    have hmo : mo < 1 ∨ mo > 8192 := by
      apply Classical.byContradiction
      intro hc
      exact h ⟨hf3, by omega, by omega⟩
    rcases hf3 with rfl | rfl | rfl
    all_goals
      first
        | rw [show ((1 : Int) == 1) = true from rfl]
        | rw [show ((2 : Int) == 1) = false from rfl, show ((2 : Int) == 2) = true from rfl]
        | rw [show ((3 : Int) == 1) = false from rfl, show ((3 : Int) == 2) = false from rfl, show ((3 : Int) == 3) = true from rfl]
      simp only [cond_true, cond_false]
      by_cases h1 : mo < 1
      · rw [bif_pos h1]
      · rw [bif_neg h1, bif_pos (by omega)]
  · refine ⟨29, by decide, ?_⟩
    rw [beq_eq_false_iff_ne.2 (by omega : f ≠ 1), beq_eq_false_iff_ne.2 (by omega : f ≠ 2), beq_eq_false_iff_ne.2 (by omega : f ≠ 3), beq_eq_false_iff_ne.2 hf]
    rfl
theorem evS_len (f mo : Int) : ∀ (ps : List (List UInt8)) (a : Nat), (evS f mo ps a).length ≤ ps.length
  | [], _ => by simp [evS]
  | [p], a => by
    show (tailE p a).length ≤ _
    unfold tailE
    split <;> simp
  | p :: q :: r, a => by
    have := evS_len f mo (q :: r) (a + p.length + 1)
    simp only [evS, List.length_cons] at this ⊢
    omega
theorem splitS_len (s : List UInt8) : (splitL 10 s).length ≤ s.length + 1 := by
  have h := splitS_sum s _ (Nat.lt_succ_self _)
  have : ∀ l : List (List UInt8), l.length ≤ (l.map fun p => p.length + 1).sum := by
    intro l
    induction l with
    | nil => simp
    | cons p l ih => simp only [List.map_cons, List.sum_cons, List.length_cons]; omega
  have := this (splitL 10 s)
  omega
theorem sess_covers (n : Nat) (hn : 400000 ≤ n) (hA : F.law22_awake n = some true) (b : List UInt8) (w : Int × Int × Unit) : F.law22_SessCovers n b w = some true := by
  obtain ⟨f, mo, _⟩ := w
  unfold F.law22_SessCovers
  rw [hA]
  by_cases hb : (b.length : Int) > 3000
  · rw [bif_pos hb]; rfl
  rw [bif_neg hb]
  dsimp only
  by_cases hf : f = 4
  · rw [hf]; rfl
  rw [beq_eq_false_iff_ne.2 hf, cond_false]
  by_cases hok : (f = 1 ∨ f = 2 ∨ f = 3) ∧ 1 ≤ mo ∧ mo ≤ 8192
  · obtain ⟨h3, h1, h2⟩ := hok
    have hlen := evS_len f mo (splitL 10 b) 0
    have hl2 := splitS_len b
    rw [whole_text n (by omega) f mo h3 h1 h2 b (by omega), some_bind']
    dsimp only
    rw [show (!((0 : Int) == 0)) = false from rfl, cond_false]
    refine (cov_loop n (by omega) f mo h3 h1 h2 b (by omega) _ (by omega) _ _ (splitL 10 b) 0 0 n (by rw [List.drop_zero]) (by omega) (by rw [List.drop_zero]) (by omega)).trans ?_
    rw [beq_self_eq_true, cond_true]
    rfl
  · obtain ⟨e, he, hw⟩ := whole_bad n f mo b hf hok
    rw [hw, some_bind']
    dsimp only
    rw [beq_eq_false_iff_ne.2 he]
    rfl
theorem awake22b : F.sess_Whole 400000 4 100 [77, 0, 5] = some ([(2, 0, 2, [], 22, 1)], 0, ()) := by kernel_rfl
theorem awake22 : F.law22_awake 400000 = some true := by
  have h1 := whole_text 400000 (by omega) 1 100 (Or.inl rfl) (by decide) (by decide) [97, 58, 49, 124, 99, 10, 98, 10, 99] (by decide)
  have e1 : evS 1 100 (splitL 10 [97, 58, 49, 124, 99, 10, 98, 10, 99]) 0 = [(1, 0, 6, [([97], 1, [(false, 1, 0)], 1000000, [], 0)], 0, 0), (2, 6, 8, [], 11, 7), (3, 8, 9, [], 30, 8)] := by kernel_rfl
  rw [e1] at h1
  have g1 := one_refl 400000 (2, 6, 8, [], 11, 7, ()) (req_nil 400000 (by omega))
  have t1 : ([UInt8.ofNat ((97 : Int)).toNat, UInt8.ofNat ((58 : Int)).toNat, UInt8.ofNat ((49 : Int)).toNat, UInt8.ofNat ((124 : Int)).toNat, UInt8.ofNat ((99 : Int)).toNat, UInt8.ofNat ((10 : Int)).toNat, UInt8.ofNat ((98 : Int)).toNat, UInt8.ofNat ((10 : Int)).toNat, UInt8.ofNat ((99 : Int)).toNat] : List UInt8) = [97, 58, 49, 124, 99, 10, 98, 10, 99] := by kernel_rfl
  have t2 : ([UInt8.ofNat ((77 : Int)).toNat, UInt8.ofNat ((0 : Int)).toNat, UInt8.ofNat ((5 : Int)).toNat] : List UInt8) = [77, 0, 5] := by kernel_rfl
  unfold F.law22_awake
  rw [t1, t2, h1, awake22b]
  show (F.law22_one 400000 (2, 6, 8, [], 11, 7, ()) (2, 6, 8, [], 11, 7, ())).bind _ = _
  rw [g1]
  rfl
end Go.AM
namespace Go.Proofs.YtjnmlfffiibeiabGreatDoor.sessCovers
open Go.ChangeShapes Go.WideShapes Go.ChangeAt Go.RowKit Go.AM
theorem j1 : laidOutB Tryz.prog = true := by kernel_rfl
theorem own : ownKnob Tryz.prog.godebug = none := by kernel_rfl
theorem goes : LawGoes Tryz.prog SI 3 [(.sl .u8), (.agg [(.int .i64), (.int .i64)])] := fun x hx w vals hI hr =>
  ok3 _ (x.1, (x.2.1.1, x.2.1.2, ()), ()) true (sess_covers 400000 (by omega) awake22 x.1 (x.2.1.1, x.2.1.2, ())) w (AllD w) vals (WOf.of hI) hr (fun b o h => h)
noncomputable def laidWorld (os : Os) : World := laidOf Tryz.prog os [layTab 4 Rows.laid_math_bits_deBruijn32tab, layTab 5 Rows.laid_math_bits_deBruijn64tab, layTab 1 Rows.laid_internal_strconv_uint64pow10, layTab 3 Rows.laid_unicode_utf8_acceptRanges, layErr 7 399 401 Rows.laid_strconv_ErrRange, layErr 6 399 401 Rows.laid_strconv_ErrSyntax, layTab 2 Rows.laid_unicode_utf8_first]
theorem laid_met (os : Os) (args : Array Value) : laidMet Tryz.prog Rows.sessCoversRow.laid ((laidWorld os).forCall (fun _ _ => 0) ⟨#[], args, []⟩).memory :=
  (LaidIn.of_run [4, 5, 1, 3, 7, 6, 2, (World.holding Tryz.prog os ⟨#[], #[], []⟩).heap.size, (World.holding Tryz.prog os ⟨#[], #[], []⟩).heap.size + 1] 8 (by kernel_rfl) (by kernel_rfl) (by kernel_rfl) (by kernel_rfl)).met
theorem witness_row (os : Os) {H : Type} (enc : TypeId × Value → H) :
    (OpenSpec.ofChange Rows.sessCoversSpec).preRow enc Tryz.prog Tryz.f3 Rows.sessCoversRow.domain false Rows.sessCoversRow.laid ((laidWorld os).forCall (fun _ _ => 0) ⟨#[], #[.slice none 0 0, .agg #[.int .i64 0, .int .i64 0]], []⟩).memory #[.slice none 0 0, .agg #[.int .i64 0, .int .i64 0]] := by
  have hw : (DataW.whole enc Tryz.prog ((laidWorld os).forCall (fun _ _ => 0) ⟨#[], #[.slice none 0 0, .agg #[.int .i64 0, .int .i64 0]], []⟩).memory Tryz.f3.params.toList Rows.sessCoversSpec.vars false (#[.slice none 0 0, .agg #[.int .i64 0, .int .i64 0]] : Array Value).toList 8).map (fun x => (x.1, x.2.1)) =
      some ([.nil, .agg [.lit (.int .i64 0), .lit (.int .i64 0)]], []) := by kernel_rfl
  obtain ⟨⟨x1, x2, x3⟩, hx, hx1⟩ := Option.map_eq_some_iff.1 hw
  simp only [Prod.mk.injEq] at hx1
  obtain ⟨rfl, rfl⟩ := hx1
  exact OpenSpec.preRow_of_cond 8 hx (by kernel_rfl) (fun k hk => by cases hk) (by kernel_rfl) (laid_met os _)
set_option maxRecDepth 100000 in
theorem lifted (os : Os) (started : os.Started) (H : Type) (enc : TypeId × Value → H) (F : Stop.Interp) :
    ReturnsInHanded {} Tryz.checked os 3 .any ((OpenSpec.ofChange Rows.sessCoversSpec).preRow enc Tryz.prog Tryz.f3 Rows.sessCoversRow.domain false Rows.sessCoversRow.laid) (((OpenSpec.ofChange Rows.sessCoversSpec).at F).post enc Tryz.prog Tryz.f3 false true false false) := by
  refine returnsInHanded_of_row (C := Tryz.checked) (s := OpenSpec.ofChange Rows.sessCoversSpec) own started (by kernel_rfl) Tryz.func3
    (witness_row_atRef (enc := enc) (C := Tryz.checked) false (laidWorld os) #[.slice none 0 0, .agg #[.int .i64 0, .int .i64 0]] rfl (by kernel_rfl) (by kernel_rfl) (by kernel_rfl) (witness_row os enc)) ?_
  intro W base args ds gs before hval hW _ _ hw hL hO _
  exact law_calls (s := Rows.sessCoversSpec) (n := 8) j1 Tryz.func3 (by kernel_rfl) (by decide) (by kernel_rfl) rfl Tryz.underlying4 rfl (fun ds h => by match ds, h with | [_, _], _ => rfl) goes hval hW hw ⟨hL, hO⟩
theorem j2 : mapsRowed Tryz.prog = true := by kernel_rfl
theorem j3 : (Rows.sessCoversRow.inPlace == Tryz.prog.inPlace 3) = true := by kernel_rfl
theorem j4 : (Rows.sessCoversRow.unfollowed == Tryz.prog.unfollowed 3) = true := by kernel_rfl
theorem j5 : (Rows.sessCoversRow.recurses == Tryz.prog.recurses 3) = true := by kernel_rfl
theorem j6 : (Rows.sessCoversRow.named == Tryz.prog.varsNamed 3) = true := by kernel_rfl
theorem joined : joinedFacts Tryz.prog 3 Tryz.f3 (OpenSpec.ofChange Rows.sessCoversSpec).bare Rows.sessCoversRow = true := by
  simp only [joinedFacts, Bool.and_eq_true]
  repeat' apply And.intro
  · kernel_rfl
  · exact j1
  · exact j2
  · kernel_rfl
  · kernel_rfl
  · kernel_rfl
  · kernel_rfl
  · kernel_rfl
  · kernel_rfl
  · exact j3
  · exact j4
  · exact j5
  · exact j6
  all_goals kernel_rfl
theorem said : Rows.SessCoversSaid :=
  OpenClaim.holds_of_cond 3 Tryz.f3 rfl rfl rfl rfl rfl rfl rfl ⟨rfl, rfl, rfl, rfl, rfl⟩ rfl rfl rfl rfl rfl (by kernel_rfl) Tryz.func3 joined
    (of_decide_eq_true (by kernel_rfl)) (by unfold Func.isWrapper; first | (rw [if_pos (by decide +kernel)]; kernel_rfl) | (rw [if_neg (by decide +kernel)]; exact ⟨rfl, rfl⟩))
    (fun os started H enc _ F => by rw [OpenClaim.pre_eq_preRow]; exact lifted os started H enc F)
end Go.Proofs.YtjnmlfffiibeiabGreatDoor.sessCovers
