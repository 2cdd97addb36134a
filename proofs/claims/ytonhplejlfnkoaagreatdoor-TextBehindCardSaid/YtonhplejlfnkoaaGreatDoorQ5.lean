/- Lines are decoded each by itself: bytes behind right ones have the metrics of both, or their fault as many bytes later. -/
import Derived.Test.YtonhplejlfnkoaaGreatDoorQ4
import Derived.KernelRfl
import Derived.Test.YtonhplejlfnkoaaGreatDoorCards
import Derived.Test.YtonhplejlfnkoaaGreatDoorTie
import Derived.OpenShut
set_option linter.unusedVariables false
set_option linter.unusedSimpArgs false
namespace Go.AM
theorem rate_form (d : List UInt8) : rateR (48 :: 46 :: d) = if d = [] then numR 0 13 2 else if 0 ≤ badK isDig 0 d then numR 0 14 (2 + badK isDig 0 d) else if 6 < d.length then numR 0 12 8
    else if val d = 0 then numR 0 10 0 else numR ((val d * 10 ^ (6 - d.length) : Nat) : Int) 0 0 := by
  unfold rateR
  rw [if_neg (by simp), if_neg (by simp), if_neg (by simp), if_neg (by simp)]
  rfl
theorem rateText_form {k : Int} (hk : 1 ≤ k ∧ k < 1000000) : rateText k = (48 :: 46 :: trz (pad6 k.toNat), 0, ()) := by
  unfold rateText
  rw [if_neg (by omega), if_neg (by omega)]; rfl
theorem rate_ok {s : List UInt8} (h : (rateR s).2.1.1 = 0) : (rateR s).2.1.2.1 = 0 ∧ 1 ≤ (rateR s).1 ∧ (rateR s).1 ≤ 1000000 ∧ (rateText (rateR s).1).2.1 = 0 ∧
    ∃ a j, s = a ++ List.replicate j 48 ∧ (rateText (rateR s).1).1 = a ∧ a ≠ [] ∧ (∀ x, a.getLast? = some x → x ≠ 48) := by
  by_cases h1 : s = [49]
  · subst h1
    exact ⟨rfl, by decide, by decide, rfl, [49], 0, rfl, rfl, by simp, by simp⟩
  have e := h
  unfold rateR at e
  rw [if_neg h1] at e
  by_cases h2 : s = []
  · rw [if_pos h2] at e; cases e
  rw [if_neg h2] at e
  by_cases h3 : s.head? ≠ some 48
  · rw [if_pos h3] at e; cases e
  rw [if_neg h3] at e
  by_cases h4 : (s.drop 1).head? ≠ some 46
  · rw [if_pos h4] at e; cases e
  clear e
  obtain ⟨d, rfl⟩ : ∃ d, s = 48 :: 46 :: d := by
    cases s with
    | nil => exact absurd rfl h2
    | cons b r => cases r with
      | nil => simp at h4
      | cons c r =>
        simp at h3 h4
        exact ⟨r, by rw [h3, h4]⟩
  rw [rate_form] at h ⊢
  by_cases g1 : d = []
  · rw [if_pos g1] at h; cases h
  rw [if_neg g1] at h ⊢
  by_cases g2 : 0 ≤ badK isDig 0 d
  · rw [if_pos g2] at h; cases h
  rw [if_neg g2] at h ⊢
  by_cases g3 : 6 < d.length
  · rw [if_pos g3] at h; cases h
  rw [if_neg g3] at h ⊢
  by_cases g4 : val d = 0
  · rw [if_pos g4] at h; cases h
  rw [if_neg g4]
  have hd := digs_of_bad g2
  have hp : 0 < 10 ^ (6 - d.length) := Nat.pow_pos (by omega)
  have hpos := Nat.mul_pos (Nat.pos_of_ne_zero g4) hp
  have hub : val d * 10 ^ (6 - d.length) < 1000000 := by
    have h5 := val_lt (digs_append.2 ⟨hd, digs_rep (6 - d.length)⟩)
    rw [val_zeros_right, List.length_append, List.length_replicate, show d.length + (6 - d.length) = 6 from by omega] at h5
    exact h5
  have hk : 1 ≤ ((val d * 10 ^ (6 - d.length) : Nat) : Int) ∧ ((val d * 10 ^ (6 - d.length) : Nat) : Int) < 1000000 := by omega
  have hf := rateText_form hk
  obtain ⟨p1, p2, p3, p4⟩ := pad6_all hub
  have hpd : pad6 (val d * 10 ^ (6 - d.length)) = d ++ List.replicate (6 - d.length) 48 :=
    val_inj p3 (digs_append.2 ⟨hd, digs_rep _⟩) (by simp; omega) (by rw [p4, val_zeros_right])
  have ht : trz (pad6 (val d * 10 ^ (6 - d.length))) = trz d := by rw [hpd, trz_zeros]
  have hne : trz d ≠ [] := fun hh => g4 ((trz_nil hd).1 hh)
  show (0 : Int) = 0 ∧ _ ∧ _ ∧ (rateText ((val d * 10 ^ (6 - d.length) : Nat) : Int)).2.1 = 0 ∧ ∃ a j, _ ∧ (rateText ((val d * 10 ^ (6 - d.length) : Nat) : Int)).1 = a ∧ _
  rw [hf]
  refine ⟨rfl, hk.1, by show ((val d * 10 ^ (6 - d.length) : Nat) : Int) ≤ 1000000; omega, rfl, 48 :: 46 :: trz d, d.length - (trz d).length, ?_, ?_, by simp, ?_⟩
  · rw [List.cons_append, List.cons_append, ← trz_pad]
  · show 48 :: 46 :: trz (pad6 (val d * 10 ^ (6 - d.length))) = _
    rw [ht]
  · intro x hx
    refine trz_last (l := d) ?_
    rw [← hx]
    cases e : trz d with
    | nil => exact absurd e hne
    | cons b r => simp [List.getLast?_cons]
end Go.AM
set_option linter.unusedVariables false
set_option linter.unusedSimpArgs false
namespace Go.AM
def kindOf (s : List UInt8) : Int := if s = [99] then 1 else if s = [103] then 2 else if s = [109, 115] then 3 else if s = [104] then 4 else 0
def sdKindR (s : List UInt8) : Int × Int × Unit := if kindOf s = 0 then (0, 16, ()) else (kindOf s, 0, ())
theorem kind_step (n m : Nat) {X : Type} (k0 : Unit → Option X) (kr : Int → Int → Option X) (s : List UInt8) (v : Int) : F.statsd_Kind.L2 n k0 kr (m + 1) s v = F.statsd_Kind.L2.step n (F.statsd_Kind.L2 n k0 kr m) k0 kr s v := rfl
theorem kind_at (n : Nat) {X : Type} (rec : List UInt8 → Int → Option X) (k0 : Unit → Option X) (kr : Int → Int → Option X) (s : List UInt8) (v : Int) (h : v ≤ 5) (h1 : 1 ≤ v) : F.statsd_Kind.L2.step n rec k0 kr s v = if v ≤ 4 ∧ wordL v = s then kr v 0 else rec s (v + 1) := by
  unfold F.statsd_Kind.L2.step
  rw [bif_pos h]
  simp only [O.word, some_bind']
  rw [wrap_in (by omega)]
  by_cases h4 : v ≤ 4
  · have hE : wordE v = 0 := by unfold wordE; rw [if_pos (by omega)]
    rw [hE]
    by_cases hs : wordL v = s
    · rw [if_pos ⟨h4, hs⟩, hs]; simp
    · rw [if_neg (fun hh => hs hh.2), beq_eq_false_iff_ne.2 hs]; rfl
  · have hE : wordE v = 16 := by unfold wordE; rw [if_neg (by omega)]
    rw [hE, if_neg (fun hh => h4 hh.1)]; rfl
theorem sdKind_eq (n : Nat) (hn : 10 ≤ n) (s : List UInt8) : F.statsd_Kind n s = some (sdKindR s) := by
  unfold F.statsd_Kind
  obtain ⟨m, hm⟩ : ∃ q, n = q + 6 := ⟨n - 6, by omega⟩
  have key : ∀ (X : Type) (k0 : Unit → Option X) (kr : Int → Int → Option X), F.statsd_Kind.L2 n k0 kr (m + 6) s 1 = if kindOf s = 0 then k0 () else kr (kindOf s) 0 := by
    intro X k0 kr
    rw [kind_step n (m + 5), kind_at n _ _ _ _ _ (by omega) (by omega)]
    unfold kindOf
    have w1 : wordL 1 = [99] := rfl
    have w2 : wordL 2 = [103] := rfl
    have w3 : wordL 3 = [109, 115] := rfl
    have w4 : wordL 4 = [104] := rfl
    by_cases h1 : s = [99]
    · rw [if_pos ⟨by omega, by rw [h1]; rfl⟩, if_pos h1]; rfl
    rw [if_neg (fun h => h1 (by rw [← h.2]; rfl)), if_neg h1, kind_step n (m + 4), kind_at n _ _ _ _ _ (by omega) (by omega)]
    by_cases h2 : s = [103]
    · rw [if_pos ⟨by omega, by rw [h2]; rfl⟩, if_pos h2]; rfl
    rw [if_neg (fun h => h2 (by rw [← h.2]; rfl)), if_neg h2, kind_step n (m + 3), kind_at n _ _ _ _ _ (by omega) (by omega)]
    by_cases h3 : s = [109, 115]
    · rw [if_pos ⟨by omega, by rw [h3]; rfl⟩, if_pos h3]; rfl
    rw [if_neg (fun h => h3 (by rw [← h.2]; rfl)), if_neg h3, kind_step n (m + 2), kind_at n _ _ _ _ _ (by omega) (by omega)]
    by_cases h4 : s = [104]
    · rw [if_pos ⟨by omega, by rw [h4]; rfl⟩, if_pos h4]; rfl
    rw [if_neg (fun h => h4 (by rw [← h.2]; rfl)), if_neg h4, kind_step n (m + 1), kind_at n _ _ _ _ _ (by omega) (by omega), if_neg (fun h => by have := h.1; omega), kind_step n m]
    unfold F.statsd_Kind.L2.step
    rw [bif_neg (by omega)]
    rfl
  rw [← hm] at key
  rw [key]
  unfold sdKindR
  by_cases h : kindOf s = 0
  · rw [if_pos h, if_pos h]
  · rw [if_neg h, if_neg h]
end Go.AM
set_option linter.unusedVariables false
set_option linter.unusedSimpArgs false
namespace Go.AM
abbrev KRS (X : Type) := List UInt8 → List UInt8 → Int → List (Bool × Int × Int) → Int → List (List UInt8 × List UInt8) → Int → Int → Int → Option X
section
variable {X : Type} (n : Nat) (kr : KRS X)
def badK' (kr : KRS X) (s : List UInt8) (c a : Int) : Option X := kr s [] 0 [] 0 [] 0 c a
theorem c31_eq (c9 : Bool) (s : List UInt8) (b10 : List UInt8) (b11 : Int) (b12 : List (Bool × Int × Int)) (b13 : Int) (b14 : List (List UInt8 × List UInt8)) (b15 b20 b21 b3 : Int) (d0 : List UInt8) (d1 : Int) (d2 : List (Bool × Int × Int)) (d3 : Int) (d4 : List (List UInt8 × List UInt8)) (d5 : Int) (k0 k1 k2 k3 : Nat) :
    F.statsd_Parse.C31 n kr c9 s b10 b11 b12 b13 b14 b15 b20 b21 b3 d0 d1 d2 d3 d4 d5 k0 k1 k2 k3 = if c9 = true then badK' kr s 11 (IntKind.wrap .i64 (b3 - 1)) else kr s d0 d1 d2 d3 d4 d5 0 0 := by
  cases c9 <;> rfl
theorem c28_eq (hn : 100 ≤ n) (c9 : Bool) (kind : Int) (rate : List UInt8) (hr : rate.length ≤ 10000) (hl : rate.length < n) (at' : Int) (s : List UInt8) (b10 : List UInt8) (b11 : Int) (b12 : List (Bool × Int × Int)) (b13 : Int) (b14 : List (List UInt8 × List UInt8)) (b15 b20 b21 b3 : Int) (d0 : List UInt8) (d1 : Int) (d2 : List (Bool × Int × Int)) (d3 : Int) (d4 : List (List UInt8 × List UInt8)) (d5 : Int) (e0 : Bool) (e1 e2 f0 f1 : Int) (k0 k1 k2 k3 : Nat) :
    F.statsd_Parse.C28 n kr c9 kind rate at' s b10 b11 b12 b13 b14 b15 b20 b21 b3 d0 d1 d2 d3 d4 d5 e0 e1 e2 f0 f1 k0 k1 k2 k3 =
      if ¬ (rateR rate).2.1.1 = 0 ∨ (kind = 2 ∧ ¬ (rateR rate).1 = 1000000) then badK' kr s 18 at' else if c9 = true then badK' kr s 11 (IntKind.wrap .i64 (b3 - 1)) else kr s d0 d1 d2 (rateR rate).1 d4 d5 0 0 := by
  unfold F.statsd_Parse.C28
  rw [rate_num n hn rate (by omega) hl, some_bind']
  have c30 : ∀ (kn : Bool → List UInt8 → List UInt8 → Int → List (Bool × Int × Int) → Int → List (List UInt8 × List UInt8) → Int → Int → Int → Int → List UInt8 → Int → List (Bool × Int × Int) → Int → List (List UInt8 × List UInt8) → Int → Nat → Nat → Nat → Nat → Option X) (t : Bool) (r : Int), F.statsd_Parse.C30 n kr kn c9 at' t s b10 b11 b12 b13 b14 b15 b20 b21 b3 d0 d1 d2 r d4 d5 k0 k1 k2 k3 = if t = true then badK' kr s 18 at' else kn c9 s b10 b11 b12 b13 b14 b15 b20 b21 b3 d0 d1 d2 r d4 d5 k0 k1 k2 k3 := by
    intro kn t r
    cases t <;> rfl
  by_cases h0 : (rateR rate).2.1.1 = 0
  · have h1 := (rate_ok h0).1
    have e : (!((rateR rate).2.1.1 == 0 && (rateR rate).2.1.2.1 == 0)) = false := by rw [h0, h1]; rfl
    rw [e, cond_false]
    by_cases hk : kind = 2
    · have ek : (kind == 2) = true := by simp [hk]
      rw [ek, cond_true]
      refine (c30 _ _ _).trans ?_
      by_cases hr1 : (rateR rate).1 = 1000000
      · have e2 : (!((rateR rate).1 == 1000000)) = false := by simp [hr1]
        rw [e2, if_neg (by simp), if_neg (by simp [h0, hr1])]
        exact c31_eq n kr c9 s b10 b11 b12 b13 b14 b15 b20 b21 b3 d0 d1 d2 _ d4 d5 k0 k1 k2 k3
      · have e2 : (!((rateR rate).1 == 1000000)) = true := by simpa using hr1
        rw [e2, if_pos rfl, if_pos (Or.inr ⟨hk, hr1⟩)]
    · have ek : (kind == 2) = false := by simpa using hk
      rw [ek, cond_false]
      refine (c30 _ _ _).trans ?_
      rw [if_neg (by simp), if_neg (by simp [h0, hk])]
      exact c31_eq n kr c9 s b10 b11 b12 b13 b14 b15 b20 b21 b3 d0 d1 d2 _ d4 d5 k0 k1 k2 k3
  · have e : (!((rateR rate).2.1.1 == 0 && (rateR rate).2.1.2.1 == 0)) = true := by
      have : ((rateR rate).2.1.1 == 0) = false := by simpa using h0
      rw [this]; rfl
    rw [e, cond_true]
    refine (c30 _ _ _).trans ?_
    rw [if_pos rfl, if_pos (Or.inl h0)]
def rateS (kr : KRS X) (s name : List UInt8) (kind : Int) (v : List (Bool × Int × Int)) (r0 : Int) (tags : List (List UInt8 × List UInt8)) (time : Int) (is3 : Bool) (p : Nat) : Option X :=
  if is3 = false then kr s name kind v r0 tags time 0 0
  else if ¬ (s.drop p).head? = some 64 then badK' kr s 11 p
  else if ¬ (rateR (seg 124 (s.drop (p + 1)))).2.1.1 = 0 ∨ (kind = 2 ∧ ¬ (rateR (seg 124 (s.drop (p + 1)))).1 = 1000000) then badK' kr s 18 ((p + 1 : Nat) : Int)
  else if 124 ∈ s.drop (p + 1) then badK' kr s 11 ((p + 1 + (seg 124 (s.drop (p + 1))).length : Nat) : Int) else kr s name kind v (rateR (seg 124 (s.drop (p + 1)))).1 tags time 0 0
theorem c21_eq (hn : 20000 ≤ n) (name : List UInt8) (is3 : Bool) (kind : Int) (s : List UInt8) (hs : s.length ≤ 10000) (b10 : List UInt8) (b11 : Int) (b12 : List (Bool × Int × Int)) (b13 : Int) (b14 : List (List UInt8 × List UInt8)) (b15 b20 b21 : Int) (p : Nat) (hp : p ≤ s.length) (d0 : List UInt8) (d1 : Int) (d2 : List (Bool × Int × Int)) (d3 : Int) (d4 : List (List UInt8 × List UInt8)) (d5 : Int) (e0 : Bool) (e1 e2 f0 f1 : Int) (k0 k1 k2 k3 : Nat) :
    F.statsd_Parse.C21 n kr name is3 kind s b10 b11 b12 b13 b14 b15 b20 b21 (p : Int) d0 d1 d2 d3 d4 d5 e0 e1 e2 f0 f1 k0 k1 k2 k3 = rateS kr s name kind [(e0, e1, e2)] d3 d4 d5 is3 p := by
  unfold F.statsd_Parse.C21 rateS
  cases is3
  · rfl
  · rw [Bool.not_true, cond_false, if_neg (by simp), sub_tail hp, some_bind', hasPrefix_one, some_bind']
    by_cases h64 : (s.drop p).head? = some 64
    · have hlt := drop_lt h64
      have hsl := seg_le 124 (s.drop (p + 1))
      have hdl : (s.drop (p + 1)).length = s.length - (p + 1) := by simp
      rw [decide_eq_true h64, Bool.not_true, cond_false, if_neg (fun h => h h64), wrap_succ (by omega), sub_tail (by omega), some_bind', cut_eq n 124 (by omega), some_bind']
      have w1 : IntKind.wrap .i64 (((p + 1 : Nat) : Int) + ((seg 124 (s.drop (p + 1))).length : Int)) = ((p + 1 + (seg 124 (s.drop (p + 1))).length : Nat) : Int) := by rw [wrap_in (by omega)]; omega
      simp only [w1]
      by_cases hm : 124 ∈ s.drop (p + 1)
      · simp only [hm, decide_true, cond_true, if_true]
        rw [wrap_succ (by omega)]
        refine (c28_eq n kr (by omega) true kind _ (by omega) (by omega) _ s b10 b11 b12 b13 b14 b15 b20 b21 _ name kind [(e0, e1, e2)] d3 d4 d5 e0 e1 e2 f0 f1 k0 k1 1 k3).trans ?_
        rw [if_pos rfl, wrap_in (by omega)]
        congr 2
        omega
      · simp only [hm, decide_false, cond_false, if_false]
        exact (c28_eq n kr (by omega) false kind _ (by omega) (by omega) _ s b10 b11 b12 b13 b14 b15 b20 b21 _ name kind [(e0, e1, e2)] d3 d4 d5 e0 e1 e2 f0 f1 k0 k1 1 k3)
    · rw [decide_eq_false h64, Bool.not_false, cond_true, if_pos h64]
      rfl
def kindS (kr : KRS X) (s name : List UInt8) (word value : List UInt8) (av aw : Int) (v : List (Bool × Int × Int)) (r0 : Int) (tags : List (List UInt8 × List UInt8)) (time : Int) (is3 : Bool) (p : Nat) : Option X :=
  if kindOf word = 0 then badK' kr s 16 aw else if kindOf word = 2 ∧ value.head? = some 45 then badK' kr s 26 av else rateS kr s name (kindOf word) v r0 tags time is3 p
theorem c16_eq (hn : 20000 ≤ n) (name : List UInt8) (is3 : Bool) (value : List UInt8) (av : Int) (word : List UInt8) (aw : Int) (s : List UInt8) (hs : s.length ≤ 10000) (b10 : List UInt8) (b11 : Int) (b12 : List (Bool × Int × Int)) (b13 : Int) (b14 : List (List UInt8 × List UInt8)) (b15 b20 b21 : Int) (p : Nat) (hp : p ≤ s.length) (d0 : List UInt8) (d1 : Int) (d2 : List (Bool × Int × Int)) (d3 : Int) (d4 : List (List UInt8 × List UInt8)) (d5 : Int) (e0 : Bool) (e1 e2 f0 f1 : Int) (k0 k1 k2 k3 : Nat) :
    F.statsd_Parse.C16 n kr name is3 value av word aw s b10 b11 b12 b13 b14 b15 b20 b21 (p : Int) d0 d1 d2 d3 d4 d5 e0 e1 e2 f0 f1 k0 k1 k2 k3 = kindS kr s name word value av aw [(e0, e1, e2)] d3 d4 d5 is3 p := by
  unfold F.statsd_Parse.C16 kindS
  rw [sdKind_eq n (by omega), some_bind']
  unfold sdKindR
  by_cases h0 : kindOf word = 0
  · rw [if_pos h0, if_pos h0]; rfl
  · have e0' : (!((0 : Int) == 0)) = false := rfl
    rw [if_neg h0, if_neg h0]
    simp only [e0', cond_false]
    by_cases h2 : kindOf word = 2
    · have e2' : (kindOf word == 2) = true := by simp [h2]
      rw [e2', cond_true, hasPrefix_one, some_bind']
      by_cases h45 : value.head? = some 45
      · rw [decide_eq_true h45, cond_true, if_pos ⟨h2, h45⟩]; rfl
      · rw [decide_eq_false h45, cond_false, if_neg (fun h => h45 h.2)]
        exact c21_eq n kr hn name is3 _ s hs b10 b11 b12 b13 b14 b15 b20 b21 p hp d0 d1 d2 d3 d4 d5 e0 e1 e2 f0 f1 k0 k1 k2 k3
    · have e2' : (kindOf word == 2) = false := by simpa using h2
      rw [e2', cond_false, if_neg (fun h => h2 h.1)]
      exact c21_eq n kr hn name is3 _ s hs b10 b11 b12 b13 b14 b15 b20 b21 p hp d0 d1 d2 d3 d4 d5 e0 e1 e2 f0 f1 k0 k1 k2 k3
def valueS (kr : KRS X) (s name : List UInt8) (value : List UInt8) (av : Nat) (r0 : Int) (tags : List (List UInt8 × List UInt8)) (time : Int) (is2 : Bool) (p : Nat) : Option X :=
  if ¬ (parseR value).2.1.1 = 0 then badK' kr s 17 av else if is2 = false then badK' kr s 11 s.length
  else kindS kr s name (seg 124 (s.drop p)) value av p [((parseR value).1.1, (parseR value).1.2.1, (parseR value).1.2.2.1)] r0 tags time (decide (124 ∈ s.drop p)) (nextP 124 s p)
theorem c10_eq (hn : 200000 ≤ n) (name : List UInt8) (is2 : Bool) (value : List UInt8) (hv : value.length ≤ 10000) (av : Nat) (s : List UInt8) (hs : s.length ≤ 10000) (b10 : List UInt8) (b11 : Int) (b12 : List (Bool × Int × Int)) (b13 : Int) (b14 : List (List UInt8 × List UInt8)) (b15 b20 b21 : Int) (p : Nat) (hp : p ≤ s.length) (d0 : List UInt8) (d1 : Int) (d2 : List (Bool × Int × Int)) (d3 : Int) (d4 : List (List UInt8 × List UInt8)) (d5 : Int) (k0 k1 k2 k3 : Nat) :
    F.statsd_Parse.C10 n kr name is2 value (av : Int) s b10 b11 b12 b13 b14 b15 b20 b21 (p : Int) d0 d1 d2 d3 d4 d5 k0 k1 k2 k3 = valueS kr s name value av d3 d4 d5 is2 p := by
  unfold F.statsd_Parse.C10 valueS
  rw [decparse_eq n hn value hv, some_bind']
  by_cases h0 : (parseR value).2.1.1 = 0
  · have e : (!((parseR value).2.1.1 == 0 && (parseR value).2.1.2.1 == 0)) = false := by rw [h0, parseR_at h0]; rfl
    rw [e, cond_false, if_neg (fun h => h h0)]
    cases is2
    · rfl
    · have hsl := seg_le 124 (s.drop p)
      have hdl : (s.drop p).length = s.length - p := by simp
      have hnl := nextP_le (c := 124) hp
      rw [Bool.not_true, cond_false, if_neg (by simp), sub_tail hp, some_bind', cut_eq n 124 (by omega), some_bind']
      have w1 : IntKind.wrap .i64 ((p : Int) + ((seg 124 (s.drop p)).length : Int)) = ((p + (seg 124 (s.drop p)).length : Nat) : Int) := by rw [wrap_in (by omega)]; omega
      simp only [w1]
      by_cases hm : 124 ∈ s.drop p
      · have hq : nextP 124 s p = p + (seg 124 (s.drop p)).length + 1 := by unfold nextP; rw [if_pos hm]
        simp only [hm, decide_true, cond_true]
        rw [wrap_succ (by omega), ← hq]
        exact c16_eq n kr (by omega) name true value _ _ _ s hs b10 b11 b12 b13 b14 b15 b20 b21 _ hnl d0 d1 d2 d3 d4 d5 _ _ _ _ _ k0 k1 k2 k3
      · have hq : nextP 124 s p = p + (seg 124 (s.drop p)).length := by unfold nextP; rw [if_neg hm]; rfl
        simp only [hm, decide_false, cond_false]
        rw [← hq]
        exact c16_eq n kr (by omega) name false value _ _ _ s hs b10 b11 b12 b13 b14 b15 b20 b21 _ hnl d0 d1 d2 d3 d4 d5 _ _ _ _ _ k0 k1 k2 k3
  · have e : (!((parseR value).2.1.1 == 0 && (parseR value).2.1.2.1 == 0)) = true := by
      have : ((parseR value).2.1.1 == 0) = false := by simpa using h0
      rw [this]; rfl
    rw [e, cond_true, if_pos h0]
    rfl
def nameS (kr : KRS X) (s name : List UInt8) (r0 : Int) (tags : List (List UInt8 × List UInt8)) (time : Int) (is1 : Bool) (p : Nat) : Option X :=
  if ¬ (textF 1 name 1 200).1 = 0 then badK' kr s 15 0 else if is1 = false then badK' kr s 11 s.length
  else valueS kr s name (seg 124 (s.drop p)) p r0 tags time (decide (124 ∈ s.drop p)) (nextP 124 s p)
theorem c5_eq (hn : 200000 ≤ n) (name : List UInt8) (hnl : name.length ≤ 10000) (is1 : Bool) (s : List UInt8) (hs : s.length ≤ 10000) (b10 : List UInt8) (b11 : Int) (b12 : List (Bool × Int × Int)) (b13 : Int) (b14 : List (List UInt8 × List UInt8)) (b15 b20 b21 : Int) (p : Nat) (hp : p ≤ s.length) (d0 : List UInt8) (d1 : Int) (d2 : List (Bool × Int × Int)) (d3 : Int) (d4 : List (List UInt8 × List UInt8)) (d5 : Int) (k0 k1 k2 k3 : Nat) :
    F.statsd_Parse.C5 n kr name is1 s b10 b11 b12 b13 b14 b15 b20 b21 (p : Int) d0 d1 d2 d3 d4 d5 k0 k1 k2 k3 = nameS kr s name d3 d4 d5 is1 p := by
  unfold F.statsd_Parse.C5 nameS
  rw [text_cls n 1 name 1 200 (by omega) (by omega), some_bind']
  by_cases h0 : (textF 1 name 1 200).1 = 0
  · have e : (!((textF 1 name 1 200).1 == 0 && (textF 1 name 1 200).2.1 == 0)) = false := by rw [h0, textF_at h0]; rfl
    rw [e, cond_false, if_neg (fun h => h h0)]
    cases is1
    · rfl
    · have hsl := seg_le 124 (s.drop p)
      have hdl : (s.drop p).length = s.length - p := by simp
      have hnx := nextP_le (c := 124) hp
      rw [Bool.not_true, cond_false, if_neg (by simp), sub_tail hp, some_bind', cut_eq n 124 (by omega), some_bind']
      have w1 : IntKind.wrap .i64 ((p : Int) + ((seg 124 (s.drop p)).length : Int)) = ((p + (seg 124 (s.drop p)).length : Nat) : Int) := by rw [wrap_in (by omega)]; omega
      simp only [w1]
      by_cases hm : 124 ∈ s.drop p
      · have hq : nextP 124 s p = p + (seg 124 (s.drop p)).length + 1 := by unfold nextP; rw [if_pos hm]
        simp only [hm, decide_true, cond_true]
        rw [wrap_succ (by omega), ← hq]
        exact c10_eq n kr hn name true _ (by omega) p s hs b10 b11 b12 b13 b14 b15 b20 b21 _ hnx d0 d1 d2 d3 d4 d5 k0 k1 k2 k3
      · have hq : nextP 124 s p = p + (seg 124 (s.drop p)).length := by unfold nextP; rw [if_neg hm]; rfl
        simp only [hm, decide_false, cond_false]
        rw [← hq]
        exact c10_eq n kr hn name false _ (by omega) p s hs b10 b11 b12 b13 b14 b15 b20 b21 _ hnx d0 d1 d2 d3 d4 d5 k0 k1 k2 k3
  · have e : (!((textF 1 name 1 200).1 == 0 && (textF 1 name 1 200).2.1 == 0)) = true := by
      have : ((textF 1 name 1 200).1 == 0) = false := by simpa using h0
      rw [this]; rfl
    rw [e, cond_true, if_pos h0]
    rfl
end
def finK : KRS MetR := fun _ a b c d e f x y => some ((a, b, c, d, e, f, ()), (x, y, ()), ())
def sdParse (s : List UInt8) : Option MetR := nameS finK s (seg 58 s) 1000000 [] 0 (decide (58 ∈ s)) (nextP 58 s 0)
theorem sdParse_eq (n : Nat) (hn : 200000 ≤ n) (s : List UInt8) (hs : s.length ≤ 10000) : F.statsd_Parse n s = sdParse s := by
  unfold F.statsd_Parse sdParse
  have h0 : sub s (0 : Int) (s.length : Int) = some s := sub_tail (s := s) (p := 0) (Nat.zero_le _)
  have hsl := seg_le 58 s
  have hnx := nextP_le (c := 58) (s := s) (p := 0) (Nat.zero_le _)
  rw [h0, some_bind', cut_eq n 58 (by omega), some_bind']
  have w1 : IntKind.wrap .i64 ((0 : Int) + ((seg 58 s).length : Int)) = (((seg 58 s).length : Nat) : Int) := by rw [wrap_in (by omega)]; omega
  simp only [w1]
  by_cases hm : 58 ∈ s
  · have hq : nextP 58 s 0 = (seg 58 s).length + 1 := by unfold nextP; rw [List.drop_zero, if_pos hm]; omega
    simp only [hm, decide_true, cond_true]
    rw [wrap_succ (by omega), ← hq]
    exact c5_eq n finK hn _ (by omega) true s hs _ _ _ _ _ _ _ _ _ hnx _ _ _ _ _ _ _ _ _ _
  · have hq : nextP 58 s 0 = (seg 58 s).length := by unfold nextP; rw [List.drop_zero, if_neg hm]; omega
    simp only [hm, decide_false, cond_false]
    rw [← hq]
    exact c5_eq n finK hn _ (by omega) false s hs _ _ _ _ _ _ _ _ _ hnx _ _ _ _ _ _ _ _ _ _
end Go.AM
set_option linter.unusedVariables false
set_option linter.unusedSimpArgs false
namespace Go.AM
def rateL (r : Int) : List UInt8 := if r = 1000000 then [] else [124, 64] ++ (rateText r).1
def lineS (m : MetD) : List UInt8 := m.1 ++ [58] ++ valL m.2.2.1 ++ [124] ++ wordL m.2.1 ++ rateL m.2.2.2.1
end Go.AM
set_option linter.unusedVariables false
set_option linter.unusedSimpArgs false
namespace Go.AM
end Go.AM
set_option linter.unusedVariables false
set_option linter.unusedSimpArgs false
namespace Go.AM
end Go.AM
set_option linter.unusedVariables false
set_option linter.unusedSimpArgs false
namespace Go.AM
end Go.AM
set_option linter.unusedVariables false
set_option linter.unusedSimpArgs false
namespace Go.AM
section
variable {X : Type} (n : Nat) (kr : KRS X)
end
end Go.AM
set_option linter.unusedVariables false
set_option linter.unusedSimpArgs false
namespace Go.AM
theorem seg_app {c : UInt8} {a : List UInt8} (h : c ∉ a) (t : List UInt8) : seg c (a ++ c :: t) = a := by
  induction a with
  | nil => show seg c (c :: t) = []; rw [seg_cons, if_pos rfl]
  | cons b a ih =>
    show seg c (b :: (a ++ c :: t)) = _
    rw [seg_cons, if_neg (fun hh => h (by simp [hh])), ih (fun hh => h (by simp [hh]))]
theorem seg_split {c : UInt8} {s : List UInt8} (h : c ∈ s) : s = seg c s ++ c :: s.drop ((seg c s).length + 1) := by
  induction s with
  | nil => simp at h
  | cons b s ih =>
    rw [seg_cons]
    by_cases hb : b = c
    · rw [if_pos hb, hb]; rfl
    · rw [if_neg hb]
      have hm : c ∈ s := by
        rcases List.mem_cons.1 h with h | h
        · exact absurd h.symm hb
        · exact h
      have := ih hm
      simp only [List.length_cons, List.drop_succ_cons, List.cons_append]
      rw [← this]
theorem seg_free (c : UInt8) (s : List UInt8) : c ∉ seg c s := by
  induction s with
  | nil => simp [seg]
  | cons b s ih =>
    rw [seg_cons]
    by_cases hb : b = c
    · rw [if_pos hb]; simp
    · rw [if_neg hb]
      intro hm
      rcases List.mem_cons.1 hm with h | h
      · exact hb h.symm
      · exact ih h
theorem nextP_app {c : UInt8} {s a t : List UInt8} {p : Nat} (hs : s.drop p = a ++ c :: t) (h : c ∉ a) : nextP c s p = p + a.length + 1 ∧ s.drop (p + a.length + 1) = t := by
  constructor
  · unfold nextP
    rw [hs, seg_app h, if_pos (by simp)]
  · rw [Nat.add_assoc, ← List.drop_drop, hs]
    simp
theorem nextP_end {c : UInt8} {s a : List UInt8} {p : Nat} (hs : s.drop p = a) (h : c ∉ a) : nextP c s p = p + a.length := by
  unfold nextP
  rw [hs, if_neg h, seg_all h]; omega
theorem name_free {s : List UInt8} (h : nameOK s = true) : (58 : UInt8) ∉ s := by
  rw [nameOK_eq] at h
  simp only [Bool.and_eq_true, List.all_eq_true] at h
  intro hm
  have := h.1 58 hm
  revert this
  decide
abbrev badM (c a : Int) : MetR := (([], 0, [], 0, [], 0, ()), (c, a, ()), ())
end Go.AM
set_option linter.unusedVariables false
set_option linter.unusedSimpArgs false
namespace Go.AM
theorem parse_cases (s : List UInt8) : ((parseR s).2.1.1 ≠ 0 ∧ (parseR s).1 = (false, 0, 0, ()) ∧ 0 ≤ (parseR s).2.1.2.1 ∧ (parseR s).2.1.2.1 ≤ s.length) ∨
    (∃ (neg : Bool) (c : Nat) (e : Int), parseR s = ((neg, (c : Int), e, ()), (0, 0, ()), ()) ∧ c < two64 ∧ (-9223372036854775808 ≤ e ∧ e ≤ 9223372036854775807) ∧ checkR neg c e = 0) := by
  unfold parseR
  by_cases h : (lookR s).1 = 0
  · rw [if_pos h]
    have hD : Digs (aheadD s ++ behindD s) := digs_append.2 ⟨tw_digs _, behind_digs s⟩
    generalize aheadD s ++ behindD s = d at hD
    generalize (-((behindD s).length : Int)) = E
    generalize negD s = neg
    by_cases hv : val d = 0
    · refine Or.inr ⟨false, 0, 0, ?_, by decide, by omega, ?_⟩
      · have : valR neg d E = zeroD := by unfold valR; rw [if_pos hv]
        rw [this]; rfl
      · have d0 : Lib.decDigits 0 = [48] := dd_small (by omega)
        unfold checkR
        rw [d0]; rfl
    · obtain ⟨c0, z, h1, h2⟩ := ten_split (val d) (by omega)
      rw [valR_core hD h2 h1]
      generalize E + (z : Int) = Y
      by_cases hY : Y < -18
      · refine Or.inl ?_
        have : normR neg c0 Y = ((false, 0, 0, ()), 10, ()) := by unfold normR; rw [if_pos hY]
        rw [this]
        exact ⟨by decide, rfl, by decide, by show (0 : Int) ≤ s.length; omega⟩
      · by_cases hf : c0 * 10 ^ (Y - 18).toNat < two64
        · have e1 : normR neg c0 Y = ((neg, ((c0 * 10 ^ (Y - 18).toNat : Nat) : Int), (if Y ≤ 18 then Y else 18), ()), 0, ()) := by unfold normR; rw [if_neg hY, if_pos hf]
          rw [e1]
          have hE : -18 ≤ (if Y ≤ 18 then Y else 18) ∧ (if Y ≤ 18 then Y else 18) ≤ 18 := by split <;> omega
          refine Or.inr ⟨neg, c0 * 10 ^ (Y - 18).toNat, (if Y ≤ 18 then Y else 18), rfl, hf, by omega, ?_⟩
          unfold checkR
          rw [if_neg (by omega), valR_core (dd_digs _) h2 (dd_val _)]
          have e2 : (if Y ≤ 18 then Y else 18) + (((Y - 18).toNat : Nat) : Int) = Y := by split <;> omega
          rw [e2, e1, if_pos ⟨rfl, rfl⟩]
        · refine Or.inl ?_
          have : normR neg c0 Y = ((false, 0, 0, ()), 10, ()) := by unfold normR; rw [if_neg hY, if_neg hf]
          rw [this]
          exact ⟨by decide, rfl, by decide, by show (0 : Int) ≤ s.length; omega⟩
  · rw [if_neg h]
    refine Or.inl ⟨h, rfl, ?_⟩
    show 0 ≤ (lookR s).2.1 ∧ (lookR s).2.1 ≤ s.length
    have endle : ∀ (r : Prop) [Decidable r] (a l : Nat), a ≤ l → 0 ≤ (endR r a l).2.1 ∧ (endR r a l).2.1 ≤ (l : Int) := by
      intro r _ a l hl
      unfold endR
      split
      · show (0 : Int) ≤ 0 ∧ (0 : Int) ≤ l; omega
      · split
        · show (0 : Int) ≤ a ∧ (a : Int) ≤ l; omega
        · show (0 : Int) ≤ a ∧ (a : Int) ≤ l; omega
    unfold lookR lookQ
    split
    · rename_i hp
      exact endle _ _ _ (p3_le hp.2)
    · exact endle _ _ _ (p1_le (p0_le s))
theorem dd_ge {c : Nat} (h : 0 < c) : 10 ^ ((Lib.decDigits c).length - 1) ≤ c := by
  have := val_ge (dd_digs c) (dd_ne c) (fun x hx h48 => by
    subst h48
    have h1 := (dd_head c).2 hx
    cases e : Lib.decDigits c with
    | nil => exact dd_ne c e
    | cons b r =>
      rw [e] at hx h1
      have hr : r = [] := by simpa using h1
      have hb : b = 48 := by simpa using hx
      have hv := dd_val c
      rw [e, hr, hb] at hv
      rw [← hv] at h
      exact absurd h (by decide))
  rwa [dd_val] at this
end Go.AM
set_option linter.unusedVariables false
set_option linter.unusedSimpArgs false
namespace Go.AM
theorem kind_cases {w : List UInt8} (h : ¬ kindOf w = 0) : w = wordL (kindOf w) ∧ 1 ≤ kindOf w ∧ kindOf w ≤ 4 ∧ (124 : UInt8) ∉ w := by
  unfold kindOf at h ⊢
  by_cases h1 : w = [99]
  · subst h1; decide
  rw [if_neg h1] at h ⊢
  by_cases h2 : w = [103]
  · subst h2; decide
  rw [if_neg h2] at h ⊢
  by_cases h3 : w = [109, 115]
  · subst h3; decide
  rw [if_neg h3] at h ⊢
  by_cases h4 : w = [104]
  · subst h4; decide
  rw [if_neg h4] at h
  exact absurd rfl h
section
variable {X : Type} (kr : KRS X)
theorem sd_parts {name value word : List UInt8} {d : DecL} (hn : nameOK name = true) (hv : (124 : UInt8) ∉ value) (hp : parseR value = ((d.1, d.2.1, d.2.2, ()), (0, 0, ()), ())) (hk : ¬ kindOf word = 0) (hg : ¬ (kindOf word = 2 ∧ value.head? = some 45))
    {s rest : List UInt8} (hs : s = name ++ 58 :: (value ++ 124 :: (word ++ rest))) (hr : rest = [] ∨ rest.head? = some 124) :
    nameS kr s (seg 58 s) 1000000 [] 0 (decide (58 ∈ s)) (nextP 58 s 0) = rateS kr s name (kindOf word) [d] 1000000 [] 0 (decide (rest.head? = some 124)) (name.length + 1 + value.length + 1 + word.length + (if rest.head? = some 124 then 1 else 0)) := by
  have hnf := name_free hn
  obtain ⟨hw1, hw2, hw3, hw4⟩ := kind_cases hk
  have h58 : (58 : UInt8) ∈ s := by rw [hs]; simp
  have hseg : seg 58 s = name := by rw [hs]; exact seg_app hnf _
  have hd0 : s.drop 0 = name ++ 58 :: (value ++ 124 :: (word ++ rest)) := hs
  obtain ⟨n1, n2⟩ := nextP_app hd0 hnf
  rw [Nat.zero_add] at n1 n2
  have hm1 : (124 : UInt8) ∈ s.drop (name.length + 1) := by rw [n2]; simp
  obtain ⟨m1, m2⟩ := nextP_app n2 hv
  have hsv : seg 124 (s.drop (name.length + 1)) = value := by rw [n2]; exact seg_app hv _
  have hname : (textF 1 name 1 200).1 = 0 := by unfold nameOK at hn; simpa using hn
  unfold nameS
  rw [hseg, if_neg (fun h => h hname), decide_eq_true h58, if_neg (by simp), n1, hsv, m1, decide_eq_true hm1]
  unfold valueS
  rw [hp, if_neg (by simp), if_neg (by simp)]
  unfold kindS
  rcases hr with hr | hr
  · subst hr
    rw [List.append_nil] at m2
    have hsw : seg 124 (s.drop (name.length + 1 + value.length + 1)) = word := by rw [m2]; exact seg_all hw4
    have hm2 : ¬ (124 : UInt8) ∈ s.drop (name.length + 1 + value.length + 1) := by rw [m2]; exact hw4
    rw [hsw, if_neg hk, if_neg hg, decide_eq_false hm2, nextP_end m2 hw4]
    rfl
  · obtain ⟨t, ht⟩ : ∃ t, rest = 124 :: t := by
      cases rest with
      | nil => simp at hr
      | cons b t => exact ⟨t, by simp at hr; rw [hr]⟩
    subst ht
    have hsw : seg 124 (s.drop (name.length + 1 + value.length + 1)) = word := by rw [m2]; exact seg_app hw4 _
    have hm2 : (124 : UInt8) ∈ s.drop (name.length + 1 + value.length + 1) := by rw [m2]; simp
    rw [hsw, if_neg hk, if_neg hg, decide_eq_true hm2, (nextP_app m2 hw4).1]
    rfl
theorem sd_drop {name value word t : List UInt8} {s : List UInt8} (hs : s = name ++ 58 :: (value ++ 124 :: (word ++ 124 :: t))) : s.drop (name.length + 1 + value.length + 1 + word.length + 1) = t ∧ s.length = name.length + 1 + value.length + 1 + word.length + 1 + t.length := by
  subst hs
  refine ⟨?_, by simp; omega⟩
  rw [show name.length + 1 + value.length + 1 + word.length + 1 = name.length + (1 + (value.length + (1 + (word.length + 1)))) from by omega, List.drop_append, List.drop_eq_nil_of_le (by omega), List.nil_append]
  rw [show name.length + (1 + (value.length + (1 + (word.length + 1)))) - name.length = (value.length + (1 + (word.length + 1))) + 1 from by omega, List.drop_succ_cons, List.drop_append, List.drop_eq_nil_of_le (by omega), List.nil_append,
    show value.length + (1 + (word.length + 1)) - value.length = word.length + 1 + 1 from by omega, List.drop_succ_cons, List.drop_append, List.drop_eq_nil_of_le (by omega), List.nil_append, show word.length + 1 - word.length = 0 + 1 from by omega, List.drop_succ_cons, List.drop_zero]
end
abbrev OkR (name : List UInt8) (k : Int) (d : DecL) (r : Int) : MetR := ((name, k, [d], r, [], 0, ()), (0, 0, ()), ())
theorem sd_short {name value word : List UInt8} {d : DecL} (hn : nameOK name = true) (hv : (124 : UInt8) ∉ value) (hp : parseR value = ((d.1, d.2.1, d.2.2, ()), (0, 0, ()), ())) (hk : ¬ kindOf word = 0) (hg : ¬ (kindOf word = 2 ∧ value.head? = some 45)) :
    sdParse (name ++ 58 :: (value ++ 124 :: word)) = some (OkR name (kindOf word) d 1000000) := by
  unfold sdParse
  have := sd_parts finK hn hv hp hk hg (s := name ++ 58 :: (value ++ 124 :: word)) (rest := []) (by rw [List.append_nil]) (Or.inl rfl)
  rw [this]
  rfl
theorem sd_long {name value word : List UInt8} {d : DecL} (hn : nameOK name = true) (hv : (124 : UInt8) ∉ value) (hp : parseR value = ((d.1, d.2.1, d.2.2, ()), (0, 0, ()), ())) (hk : ¬ kindOf word = 0) (hg : ¬ (kindOf word = 2 ∧ value.head? = some 45)) (t : List UInt8) :
    sdParse (name ++ 58 :: (value ++ 124 :: (word ++ 124 :: t))) = some (if ¬ t.head? = some 64 then badM 11 ((name.length + 1 + value.length + 1 + word.length + 1 : Nat) : Int)
      else if ¬ (rateR (seg 124 (t.drop 1))).2.1.1 = 0 ∨ (kindOf word = 2 ∧ ¬ (rateR (seg 124 (t.drop 1))).1 = 1000000) then badM 18 ((name.length + 1 + value.length + 1 + word.length + 1 + 1 : Nat) : Int)
      else if 124 ∈ t.drop 1 then badM 11 ((name.length + 1 + value.length + 1 + word.length + 1 + 1 + (seg 124 (t.drop 1)).length : Nat) : Int)
      else OkR name (kindOf word) d (rateR (seg 124 (t.drop 1))).1) := by
  unfold sdParse
  generalize hs : name ++ 58 :: (value ++ 124 :: (word ++ 124 :: t)) = s
  have := sd_parts finK hn hv hp hk hg (s := s) (rest := 124 :: t) hs.symm (Or.inr rfl)
  have hd := (sd_drop hs.symm).1
  rw [this]
  unfold rateS
  have h1 : (if (124 :: t : List UInt8).head? = some 124 then 1 else 0) = 1 := rfl
  have h2 : decide ((124 :: t : List UInt8).head? = some 124) = true := rfl
  have hd1 : s.drop (name.length + 1 + value.length + 1 + word.length + 1 + 1) = t.drop 1 := by rw [← List.drop_drop, hd]
  rw [h1, h2, if_neg (by simp), hd, hd1]
  repeat' split
  all_goals first | rfl | (exfalso; simp_all)
theorem sd_cases (s : List UInt8) : (∃ c a : Int, sdParse s = some (badM c a) ∧ c ≠ 0 ∧ 0 ≤ a ∧ a ≤ s.length) ∨
    (∃ name value word tail d r, s = name ++ 58 :: (value ++ 124 :: (word ++ tail)) ∧ nameOK name = true ∧ (124 : UInt8) ∉ value ∧ parseR value = ((d.1, d.2.1, d.2.2, ()), (0, 0, ()), ()) ∧ ¬ kindOf word = 0 ∧ ¬ (kindOf word = 2 ∧ value.head? = some 45) ∧
      (tail = [] ∧ r = 1000000 ∨ ∃ rt, tail = 124 :: 64 :: rt ∧ (rateR rt).2.1.1 = 0 ∧ (rateR rt).1 = r ∧ (kindOf word = 2 → r = 1000000) ∧ (124 : UInt8) ∉ rt) ∧ sdParse s = some (OkR name (kindOf word) d r)) := by
  by_cases hn : nameOK (seg 58 s) = true
  · by_cases h58 : (58 : UInt8) ∈ s
    · have hsp := seg_split h58
      have hlt := seg_lt h58
      generalize hname : seg 58 s = name at *
      generalize ht : s.drop (name.length + 1) = t at *
      have htl : t.length + (name.length + 1) = s.length := by rw [← ht]; simp; omega
      have hn0 : ¬ ¬ (textF 1 name 1 200).1 = 0 := by unfold nameOK at hn; simpa using hn
      have hq : nextP 58 s 0 = name.length + 1 := by unfold nextP; rw [List.drop_zero, if_pos h58, hname]; omega
      have e1 : sdParse s = valueS finK s name (seg 124 t) (name.length + 1) 1000000 [] 0 (decide (124 ∈ t)) (nextP 124 s (name.length + 1)) := by
        unfold sdParse nameS
        rw [hname, if_neg hn0, decide_eq_true h58, if_neg (by simp), hq, ht]
      by_cases hv : (parseR (seg 124 t)).2.1.1 = 0
      · by_cases hb : (124 : UInt8) ∈ t
        · have hsp2 := seg_split hb
          have hlt2 := seg_lt hb
          have hfree := seg_free 124 t
          generalize hvalue : seg 124 t = value at *
          generalize ht2 : t.drop (value.length + 1) = t2 at *
          have hd2 : s.drop (name.length + 1 + value.length + 1) = t2 := by rw [Nat.add_assoc (name.length + 1), ← List.drop_drop, ht, ht2]
          have htl2 : t2.length + (value.length + 1) = t.length := by rw [← ht2]; simp; omega
          have hq2 : nextP 124 s (name.length + 1) = name.length + 1 + value.length + 1 := by unfold nextP; rw [ht, if_pos hb, hvalue]
          have e2 : sdParse s = kindS finK s name (seg 124 t2) value (name.length + 1 : Nat) (name.length + 1 + value.length + 1 : Nat) [((parseR value).1.1, (parseR value).1.2.1, (parseR value).1.2.2.1)] 1000000 [] 0 (decide (124 ∈ t2)) (nextP 124 s (name.length + 1 + value.length + 1)) := by
            rw [e1]
            unfold valueS
            rw [if_neg (fun h => h hv), decide_eq_true hb, if_neg (by simp), hq2, hd2]
          by_cases hk : kindOf (seg 124 t2) = 0
          · left
            refine ⟨16, ((name.length + 1 + value.length + 1 : Nat) : Int), ?_, by decide, by omega, by omega⟩
            rw [e2]
            unfold kindS
            rw [if_pos hk]; rfl
          by_cases hg : kindOf (seg 124 t2) = 2 ∧ value.head? = some 45
          · left
            refine ⟨26, ((name.length + 1 : Nat) : Int), ?_, by decide, by omega, by omega⟩
            rw [e2]
            unfold kindS
            rw [if_neg hk, if_pos hg]; rfl
          have hat := parseR_at hv
          have hp : parseR value = (((((parseR value).1.1, (parseR value).1.2.1, (parseR value).1.2.2.1) : DecL).1, (parseR value).1.2.1, (parseR value).1.2.2.1, ()), (0, 0, ()), ()) := by
            generalize parseR value = z at hv hat
            obtain ⟨⟨a, b, c, _⟩, ⟨x, y, _⟩, _⟩ := z
            simp only at hv hat
            subst hv hat
            rfl
          by_cases hb2 : (124 : UInt8) ∈ t2
          · have hsp3 := seg_split hb2
            generalize hword : seg 124 t2 = word at *
            generalize ht3 : t2.drop (word.length + 1) = t3 at *
            have hlt3 : word.length + 1 + t3.length = t2.length := by
              have := congrArg List.length hsp3
              simp at this
              omega
            have hs : s = name ++ 58 :: (value ++ 124 :: (word ++ 124 :: t3)) := by rw [← hsp3, ← hsp2, ← hsp]
            have L := sd_long hn hfree hp hk hg t3
            rw [← hs] at L
            by_cases c1 : t3.head? = some 64
            · rw [if_neg (fun h => h c1)] at L
              obtain ⟨t4, ht4⟩ : ∃ t4, t3 = 64 :: t4 := by
                cases t3 with
                | nil => simp at c1
                | cons b t => exact ⟨t, by simp at c1; rw [c1]⟩
              subst ht4
              simp only [List.drop_succ_cons, List.drop_zero, List.length_cons] at L hlt3
              by_cases c2 : ¬ (rateR (seg 124 t4)).2.1.1 = 0 ∨ (kindOf word = 2 ∧ ¬ (rateR (seg 124 t4)).1 = 1000000)
              · rw [if_pos c2] at L
                exact Or.inl ⟨18, _, L, by decide, by omega, by omega⟩
              rw [if_neg c2] at L
              by_cases c3 : (124 : UInt8) ∈ t4
              · rw [if_pos c3] at L
                have := seg_lt c3
                exact Or.inl ⟨11, _, L, by decide, by omega, by omega⟩
              rw [if_neg c3, seg_all c3] at L
              rw [seg_all c3] at c2
              refine Or.inr ⟨name, value, word, 124 :: 64 :: t4, _, _, hs, hn, hfree, hp, hk, hg, Or.inr ⟨t4, rfl, ?_, rfl, fun h2 => ?_, c3⟩, L⟩
              · exact Classical.byContradiction fun h => c2 (Or.inl h)
              · exact Classical.byContradiction fun h => c2 (Or.inr ⟨h2, h⟩)
            · rw [if_pos c1] at L
              exact Or.inl ⟨11, _, L, by decide, by omega, by omega⟩
          · have hw : seg 124 t2 = t2 := seg_all hb2
            rw [hw] at hk hg
            have hs : s = name ++ 58 :: (value ++ 124 :: (t2 ++ [])) := by rw [List.append_nil, ← hsp2, ← hsp]
            have L := sd_short hn hfree hp hk hg
            have hs' := hs
            rw [List.append_nil] at hs'
            rw [← hs'] at L
            exact Or.inr ⟨name, value, t2, [], _, _, hs, hn, hfree, hp, hk, hg, Or.inl ⟨rfl, rfl⟩, L⟩
        · left
          refine ⟨11, (s.length : Int), ?_, by decide, by omega, by omega⟩
          rw [e1]
          unfold valueS
          rw [if_neg (fun h => h hv), decide_eq_false hb, if_pos rfl]; rfl
      · left
        refine ⟨17, ((name.length + 1 : Nat) : Int), ?_, by decide, by omega, by omega⟩
        rw [e1]
        unfold valueS
        rw [if_pos hv]; rfl
    · left
      refine ⟨11, (s.length : Int), ?_, by decide, by omega, by omega⟩
      unfold sdParse nameS
      have hn0 : ¬ ¬ (textF 1 (seg 58 s) 1 200).1 = 0 := by unfold nameOK at hn; simpa using hn
      rw [if_neg hn0, decide_eq_false h58, if_pos rfl]; rfl
  · left
    refine ⟨15, 0, ?_, by decide, by omega, by omega⟩
    unfold sdParse nameS
    rw [if_pos (fun h => hn (by unfold nameOK; simp [h]))]; rfl
end Go.AM
set_option linter.unusedVariables false
set_option linter.unusedSimpArgs false
namespace Go.AM
def parseNum (s : List UInt8) (lo hi : Int) : NumR :=
  if s = [] then numR 0 13 0 else if 0 ≤ badK isDig 0 s then numR 0 14 (badK isDig 0 s) else if s.head? = some 48 ∧ 1 < s.length then numR 0 11 0
  else if 9223372036854775808 ≤ val s ∨ (val s : Int) < lo ∨ (val s : Int) > hi then numR 0 10 0 else numR (val s) 0 0
theorem o_atoi (n : Nat) {s : List UInt8} (hd : Digs s) (hn : s ≠ []) (hs : s.length ≤ 1000000) : O.atoi n s = some (if val s < 9223372036854775808 then ((val s : Int), false, ()) else (Lib.atoiSat s, true, ())) := by
  unfold O.atoi
  have : Nat.ble s.length big47 = true := by rw [Nat.ble_eq]; unfold big47; omega
  rw [this, cond_true, atoi_digs hd hn]
  by_cases h : val s < 9223372036854775808
  · rw [if_pos h, if_pos h]
  · rw [if_neg h, if_neg h]
theorem parse_num (n : Nat) (s : List UInt8) (lo hi : Int) (hs : s.length ≤ 1000000) (hn : s.length < n) : F.num_Parse n s lo hi = some (parseNum s lo hi) := by
  unfold F.num_Parse parseNum
  rw [text_cls n 4 s _ _ (by omega) hn, some_bind', textF4 s (by omega)]
  by_cases h0 : s = []
  · rw [if_pos h0, if_pos h0]; rfl
  rw [if_neg h0, if_neg h0]
  by_cases h1 : 0 ≤ badK isDig 0 s
  · rw [if_pos h1, if_pos h1]; rfl
  rw [if_neg h1, if_neg h1]
  have e : (!((0 : Int) == 0 && (0 : Int) == 0)) = false := rfl
  simp only [e, cond_false]
  have hd := digs_of_bad h1
  cases s with
  | nil => exact absurd rfl h0
  | cons b r =>
    have ei : idx (b :: r) (0 : Int) = some b := rfl
    rw [ei, some_bind', o_atoi n hd h0 hs, some_bind']
    have tail : ∀ (p : Bool) (A : Option NumR), (bif p then A else A) = A := by intro p A; cases p <;> rfl
    have core : (bif (if val (b :: r) < 9223372036854775808 then ((val (b :: r) : Int), false, ()) else (Lib.atoiSat (b :: r), true, ())).2.1 then (F.num_fault n 10 0).bind fun y6 => some ((y6.1, (y6.2.1.1, y6.2.1.2.1, ()), ()))
        else bif decide ((if val (b :: r) < 9223372036854775808 then ((val (b :: r) : Int), false, ()) else (Lib.atoiSat (b :: r), true, ())).1 < lo) then (F.num_fault n 10 0).bind fun y6 => some ((y6.1, (y6.2.1.1, y6.2.1.2.1, ()), ()))
        else bif decide ((if val (b :: r) < 9223372036854775808 then ((val (b :: r) : Int), false, ()) else (Lib.atoiSat (b :: r), true, ())).1 > hi) then (F.num_fault n 10 0).bind fun y6 => some ((y6.1, (y6.2.1.1, y6.2.1.2.1, ()), ()))
        else some (((if val (b :: r) < 9223372036854775808 then ((val (b :: r) : Int), false, ()) else (Lib.atoiSat (b :: r), true, ())).1, ((0 : Int), (0 : Int), ()), ())))
        = some (if 9223372036854775808 ≤ val (b :: r) ∨ (val (b :: r) : Int) < lo ∨ (val (b :: r) : Int) > hi then numR 0 10 0 else numR (val (b :: r)) 0 0) := by
      by_cases hv : val (b :: r) < 9223372036854775808
      · rw [if_pos hv]
        simp only [cond_false]
        by_cases g1 : (val (b :: r) : Int) < lo
        · rw [bif_pos g1, if_pos (Or.inr (Or.inl g1))]; rfl
        · rw [bif_neg g1]
          by_cases g2 : (val (b :: r) : Int) > hi
          · rw [bif_pos g2, if_pos (Or.inr (Or.inr g2))]; rfl
          · rw [bif_neg g2, if_neg (by omega)]; rfl
      · rw [if_neg hv, if_pos (Or.inl (by omega))]; rfl
    by_cases hb : b = 48
    · subst hb
      have e2 : ((((48 : UInt8).toNat : Nat) : Int) == 48) = true := rfl
      rw [e2, cond_true]
      by_cases hl : 1 < (48 :: r).length
      · rw [bif_pos (by omega), if_pos (show (48 :: r).head? = some 48 ∧ 1 < (48 :: r).length from ⟨rfl, hl⟩)]; rfl
      · rw [bif_neg (by omega), if_neg (show ¬ ((48 :: r).head? = some 48 ∧ 1 < (48 :: r).length) from fun h => hl h.2)]; exact core
    · have e2 : ((b.toNat : Int) == 48) = false := by
        have : ¬ (b.toNat : Int) = 48 := fun h => hb (u8_ext (by simp; omega))
        simpa using this
      rw [e2, cond_false, if_neg (show ¬ ((b :: r).head? = some 48 ∧ 1 < (b :: r).length) from fun h => hb (by simpa using h.1))]; exact core
theorem time_eq (n : Nat) (s : List UInt8) (hs : s.length ≤ 1000000) (hn : s.length < n) : F.num_Time n s = some (parseNum s 1 1099511627776) := by
  unfold F.num_Time
  rw [parse_num n s _ _ hs hn, some_bind']
theorem parse_back {s : List UInt8} {lo hi : Int} (h : (parseNum s lo hi).2.1.1 = 0) : (parseNum s lo hi).2.1.2.1 = 0 ∧ (parseNum s lo hi).1 = (val s : Int) ∧ val s < 9223372036854775808 ∧ lo ≤ (val s : Int) ∧ (val s : Int) ≤ hi ∧ Digs s ∧ Norm s := by
  unfold parseNum at h ⊢
  by_cases h0 : s = []
  · rw [if_pos h0] at h; cases h
  rw [if_neg h0] at h ⊢
  by_cases h1 : 0 ≤ badK isDig 0 s
  · rw [if_pos h1] at h; cases h
  rw [if_neg h1] at h ⊢
  by_cases h2 : s.head? = some 48 ∧ 1 < s.length
  · rw [if_pos h2] at h; cases h
  rw [if_neg h2] at h ⊢
  by_cases h3 : 9223372036854775808 ≤ val s ∨ (val s : Int) < lo ∨ (val s : Int) > hi
  · rw [if_pos h3] at h; cases h
  rw [if_neg h3]
  refine ⟨rfl, rfl, by omega, by omega, by omega, digs_of_bad h1, h0, fun h => ?_⟩
  have h4 : ¬ 1 < s.length := fun hl => h2 ⟨h, hl⟩
  have : 0 < s.length := List.length_pos_iff.2 h0
  omega
end Go.AM
set_option linter.unusedVariables false
set_option linter.unusedSimpArgs false
namespace Go.AM
theorem decL_beq (x y : DecL) : ((x.1 == y.1) && ((x.2.1 == y.2.1) && (x.2.2 == y.2.2))) = decide (x = y) := by
  obtain ⟨a, b, c⟩ := x
  obtain ⟨a', b', c'⟩ := y
  by_cases h : ((a, b, c) : DecL) = (a', b', c')
  · rw [decide_eq_true h]
    simp only [Prod.mk.injEq] at h
    simp [h.1, h.2.1, h.2.2]
  · rw [decide_eq_false h]
    cases h1 : (a == a') && ((b == b') && (c == c')) with
    | false => rfl
    | true =>
      simp only [Bool.and_eq_true, beq_iff_eq] at h1
      exact absurd (by rw [h1.1, h1.2.1, h1.2.2]) h
theorem tagL_beq (x y : TagL) : ((x.1 == y.1) && (x.2 == y.2)) = decide (x = y) := by
  obtain ⟨a, b⟩ := x
  obtain ⟨a', b'⟩ := y
  by_cases h : ((a, b) : TagL) = (a', b')
  · rw [decide_eq_true h]
    simp only [Prod.mk.injEq] at h
    simp [h.1, h.2]
  · rw [decide_eq_false h]
    cases h1 : (a == a') && (b == b') with
    | false => rfl
    | true =>
      simp only [Bool.and_eq_true, beq_iff_eq] at h1
      exact absurd (by rw [h1.1, h1.2]) h
theorem decs_loop (n : Nat) (X : Type) (k0 : Unit → Option X) (kr : Bool → Option X) (a b : List DecL) (ha : a.length ≤ 10000) (hl : a.length = b.length) : ∀ (r q : List DecL) (k m : Nat), a.drop k = r → b.drop k = q → r.length < m →
    F.slices_Equal_api_Dec_api_Dec.L4 n k0 kr m a b (a.length : Int) (k : Int) = if r = q then k0 () else kr false := by
  intro r
  induction r with
  | nil =>
    intro q k m hk hq hm
    have := drop_nil' hk
    obtain ⟨m, rfl⟩ : ∃ q, m = q + 1 := ⟨m - 1, by omega⟩
    have : q = [] := by rw [← hq]; exact List.drop_eq_nil_of_le (by omega)
    show F.slices_Equal_api_Dec_api_Dec.L4.step n (F.slices_Equal_api_Dec_api_Dec.L4 n k0 kr m) k0 kr a b _ _ = _
    unfold F.slices_Equal_api_Dec_api_Dec.L4.step
    rw [bif_neg (by omega), if_pos this.symm]
  | cons x r ih =>
    intro q k m hk hq hm
    obtain ⟨h1, h2, h3⟩ := drop_cons hk
    obtain ⟨m, rfl⟩ : ∃ q, m = q + 1 := ⟨m - 1, by omega⟩
    have hd : b.drop k = b[k] :: b.drop (k + 1) := List.drop_eq_getElem_cons (by omega)
    rw [hd] at hq
    subst hq
    show F.slices_Equal_api_Dec_api_Dec.L4.step n (F.slices_Equal_api_Dec_api_Dec.L4 n k0 kr m) k0 kr a b _ _ = _
    unfold F.slices_Equal_api_Dec_api_Dec.L4.step
    rw [bif_pos (by omega), idx_nat, h2, some_bind', idx_lt (by omega : k < b.length), some_bind', decL_beq]
    by_cases hx : x = b[k]
    · rw [decide_eq_true hx, Bool.not_true, cond_false, wrap_succ (by omega), ih (b.drop (k + 1)) (k + 1) m h3 rfl (by simp at hm; omega)]
      by_cases hr : r = b.drop (k + 1)
      · rw [if_pos hr, if_pos (by rw [hx, ← hr])]
      · rw [if_neg hr, if_neg (fun h => hr (List.cons.inj h).2)]
    · rw [decide_eq_false hx, if_neg (fun h => hx (List.cons.inj h).1)]; rfl
theorem tags_eq_loop (n : Nat) (X : Type) (k0 : Unit → Option X) (kr : Bool → Option X) (a b : List TagL) (ha : a.length ≤ 10000) (hl : a.length = b.length) : ∀ (r q : List TagL) (k m : Nat), a.drop k = r → b.drop k = q → r.length < m →
    F.slices_Equal_api_Tag_api_Tag.L4 n k0 kr m a b (a.length : Int) (k : Int) = if r = q then k0 () else kr false := by
  intro r
  induction r with
  | nil =>
    intro q k m hk hq hm
    have := drop_nil' hk
    obtain ⟨m, rfl⟩ : ∃ q, m = q + 1 := ⟨m - 1, by omega⟩
    have : q = [] := by rw [← hq]; exact List.drop_eq_nil_of_le (by omega)
    show F.slices_Equal_api_Tag_api_Tag.L4.step n (F.slices_Equal_api_Tag_api_Tag.L4 n k0 kr m) k0 kr a b _ _ = _
    unfold F.slices_Equal_api_Tag_api_Tag.L4.step
    rw [bif_neg (by omega), if_pos this.symm]
  | cons x r ih =>
    intro q k m hk hq hm
    obtain ⟨h1, h2, h3⟩ := drop_cons hk
    obtain ⟨m, rfl⟩ : ∃ q, m = q + 1 := ⟨m - 1, by omega⟩
    have hd : b.drop k = b[k] :: b.drop (k + 1) := List.drop_eq_getElem_cons (by omega)
    rw [hd] at hq
    subst hq
    show F.slices_Equal_api_Tag_api_Tag.L4.step n (F.slices_Equal_api_Tag_api_Tag.L4 n k0 kr m) k0 kr a b _ _ = _
    unfold F.slices_Equal_api_Tag_api_Tag.L4.step
    rw [bif_pos (by omega), idx_nat, h2, some_bind', idx_lt (by omega : k < b.length), some_bind', tagL_beq]
    by_cases hx : x = b[k]
    · rw [decide_eq_true hx, Bool.not_true, cond_false, wrap_succ (by omega), ih (b.drop (k + 1)) (k + 1) m h3 rfl (by simp at hm; omega)]
      by_cases hr : r = b.drop (k + 1)
      · rw [if_pos hr, if_pos (by rw [hx, ← hr])]
      · rw [if_neg hr, if_neg (fun h => hr (List.cons.inj h).2)]
    · rw [decide_eq_false hx, if_neg (fun h => hx (List.cons.inj h).1)]; rfl
theorem decs_eq (n : Nat) (hn : 200000 ≤ n) (a b : List DecL) (ha : a.length ≤ 10000) : F.metric_equal_api_Dec n a b = some (decide (a = b)) := by
  unfold F.metric_equal_api_Dec F.slices_Equal_api_Dec_api_Dec
  by_cases hl : a.length = b.length
  · have e : ((a.length : Int) == (b.length : Int)) = true := by simp [hl]
    rw [e, Bool.not_true, cond_false]
    have L := decs_loop n Bool (fun (_ : Unit) => some (true)) (fun e4_4 => some (e4_4)) a b ha hl a b 0 n rfl rfl (by omega)
    rw [show ((0 : Nat) : Int) = (0 : Int) from rfl] at L
    rw [L]
    by_cases h : a = b
    · rw [if_pos h, decide_eq_true h]; rfl
    · rw [if_neg h, decide_eq_false h]; rfl
  · have e : ((a.length : Int) == (b.length : Int)) = false := by rw [beq_eq_false_iff_ne]; omega
    rw [e, decide_eq_false (fun h => hl (by rw [h]))]; rfl
theorem tags_eq (n : Nat) (hn : 200000 ≤ n) (a b : List TagL) (ha : a.length ≤ 10000) : F.metric_equal_api_Tag n a b = some (decide (a = b)) := by
  unfold F.metric_equal_api_Tag F.slices_Equal_api_Tag_api_Tag
  by_cases hl : a.length = b.length
  · have e : ((a.length : Int) == (b.length : Int)) = true := by simp [hl]
    rw [e, Bool.not_true, cond_false]
    have L := tags_eq_loop n Bool (fun (_ : Unit) => some (true)) (fun e4_4 => some (e4_4)) a b ha hl a b 0 n rfl rfl (by omega)
    rw [show ((0 : Nat) : Int) = (0 : Int) from rfl] at L
    rw [L]
    by_cases h : a = b
    · rw [if_pos h, decide_eq_true h]; rfl
    · rw [if_neg h, decide_eq_false h]; rfl
  · have e : ((a.length : Int) == (b.length : Int)) = false := by rw [beq_eq_false_iff_ne]; omega
    rw [e, decide_eq_false (fun h => hl (by rw [h]))]; rfl
noncomputable def eqM (a b : MetD) : Bool := @decide (a = b) (Classical.propDecidable _)
theorem eqM_pos {a b : MetD} (h : a = b) : eqM a b = true := @decide_eq_true _ (Classical.propDecidable _) h
theorem eqM_neg {a b : MetD} (h : ¬ a = b) : eqM a b = false := @decide_eq_false _ (Classical.propDecidable _) h
theorem equal_eq (n : Nat) (hn : 200000 ≤ n) (a b : MetD) (h1 : a.2.2.1.length ≤ 10000) (h2 : a.2.2.2.2.1.length ≤ 10000) : F.metric_Equal n a b = some (eqM a b) := by
  obtain ⟨a1, a2, a3, a4, a5, a6, _⟩ := a
  obtain ⟨b1, b2, b3, b4, b5, b6, _⟩ := b
  simp only at h1 h2
  unfold F.metric_Equal
  simp only [decs_eq n hn a3 b3 h1, tags_eq n hn a5 b5 h2, some_bind']
  by_cases h : ((a1, a2, a3, a4, a5, a6, ()) : MetD) = (b1, b2, b3, b4, b5, b6, ())
  · rw [eqM_pos h]
    simp only [Prod.mk.injEq] at h
    obtain ⟨rfl, rfl, rfl, rfl, rfl, rfl, _⟩ := h
    simp
  · rw [eqM_neg h]
    by_cases g1 : a1 = b1
    · by_cases g2 : a2 = b2
      · by_cases g4 : a4 = b4
        · by_cases g6 : a6 = b6
          · by_cases g3 : a3 = b3
            · by_cases g5 : a5 = b5
              · exact absurd (by rw [g1, g2, g3, g4, g5, g6]) h
              · simp [g1, g2, g4, g6, g3, g5]
            · simp [g1, g2, g4, g6, g3]
          · rw [beq_eq_false_iff_ne.2 g6]; simp [g1, g2, g4]
        · rw [beq_eq_false_iff_ne.2 g4]; simp [g1, g2]
      · rw [beq_eq_false_iff_ne.2 g2]; simp [g1]
    · rw [beq_eq_false_iff_ne.2 g1]; rfl
end Go.AM
set_option linter.unusedVariables false
set_option linter.unusedSimpArgs false
namespace Go.AM
theorem parse_ok {s : List UInt8} (h : (parseR s).2.1.1 = 0) : ∃ (neg : Bool) (c : Nat) (e : Int), parseR s = ((neg, (c : Int), e, ()), (0, 0, ()), ()) ∧ c < two64 ∧ (-9223372036854775808 ≤ e ∧ e ≤ 9223372036854775807) ∧ checkR neg c e = 0 := by
  rcases parse_cases s with ⟨h1, _⟩ | h1
  · exact absurd h h1
  · exact h1
theorem text_short {s : List UInt8} {neg : Bool} {c : Nat} {e : Int} (h : parseR s = ((neg, (c : Int), e, ()), (0, 0, ()), ())) : (textD neg c e).length ≤ s.length ∧ (neg = true → s.head? = some 45) := by
  have h0 : (lookR s).1 = 0 := by
    apply Classical.byContradiction
    intro hh
    have : parseR s = badR (lookR s) := by unfold parseR; rw [if_neg hh]
    rw [this] at h
    exact hh (congrArg (fun r : ParseR => r.2.1.1) h)
  obtain ⟨_, hA, hsp⟩ := look_ok h0
  have hp : parseR s = outR (valR (negD s) (aheadD s ++ behindD s) (-((behindD s).length : Int))) := by unfold parseR; rw [if_pos h0]
  rw [hp] at h
  have hD : Digs (aheadD s ++ behindD s) := digs_append.2 ⟨tw_digs _, behind_digs s⟩
  have hs : s.length = p0 s + (s.drop (p0 s)).length := by have := p0_le s; simp; omega
  have hpn : p0 s = (sgn (negD s)).length := by
    unfold p0 negD sgn
    by_cases hh : s.head? = some 45
    · rw [if_pos hh, decide_eq_true hh]; rfl
    · rw [if_neg hh, decide_eq_false hh]; rfl
  have hng : negD s = true → s.head? = some 45 := fun hh => by unfold negD at hh; simpa using hh
  generalize aheadD s = A at *
  generalize hBB : behindD s = B at *
  have hAl : 0 < A.length := List.length_pos_iff.2 hA
  by_cases hv : val (A ++ B) = 0
  · have hz : valR (negD s) (A ++ B) (-(B.length : Int)) = zeroD := by unfold valR; rw [if_pos hv]
    rw [hz] at h
    have h1 : neg = false := (congrArg (fun r : ParseR => r.1.1) h).symm
    have h2 : (c : Int) = 0 := (congrArg (fun r : ParseR => r.1.2.1) h).symm
    have h3 : e = 0 := (congrArg (fun r : ParseR => r.1.2.2.1) h).symm
    have h2' : c = 0 := by omega
    subst h1 h2' h3
    refine ⟨?_, fun hh => by cases hh⟩
    have d0 : Lib.decDigits 0 = [48] := dd_small (by omega)
    have : (textD false 0 0).length = 1 := by unfold textD; rw [d0]; rfl
    rw [this]
    rcases hsp with ⟨h1, _⟩ | ⟨h1, _⟩
    · rw [h1] at hs; omega
    · rw [h1] at hs; simp only [List.length_append, List.length_cons] at hs; omega
  · obtain ⟨c0, z, h1, h2⟩ := ten_split (val (A ++ B)) (by omega)
    rw [valR_core hD h2 h1] at h
    have key : ∃ k : Nat, (k : Int) = e + B.length ∧ c * 10 ^ k = val (A ++ B) ∧ neg = negD s := by
      unfold normR at h
      split at h
      · unfold outR at h
        rw [if_neg (by decide)] at h
        have hx : (10 : Int) = 0 := congrArg (fun r : ParseR => r.2.1.1) h
        omega
      · rename_i g1
        split at h
        · unfold outR at h
          rw [if_pos rfl] at h
          have q1 : negD s = neg := congrArg (fun r : ParseR => r.1.1) h
          have q2 : ((c0 * 10 ^ (-(B.length : Int) + (z : Int) - 18).toNat : Nat) : Int) = (c : Int) := congrArg (fun r : ParseR => r.1.2.1) h
          have q3 : (if -(B.length : Int) + (z : Int) ≤ 18 then -(B.length : Int) + (z : Int) else 18) = e := congrArg (fun r : ParseR => r.1.2.2.1) h
          have q2' : c = c0 * 10 ^ (-(B.length : Int) + (z : Int) - 18).toNat := by omega
          by_cases g2 : -(B.length : Int) + (z : Int) ≤ 18
          · rw [if_pos g2] at q3
            refine ⟨z, by omega, ?_, q1.symm⟩
            rw [h1, q2', show (-(B.length : Int) + (z : Int) - 18).toNat = 0 from by omega]
            simp
          · rw [if_neg g2] at q3
            refine ⟨18 + B.length, by omega, ?_, q1.symm⟩
            rw [h1, q2', Nat.mul_assoc, ← Nat.pow_add]
            congr 2
            omega
        · unfold outR at h
          rw [if_neg (by decide)] at h
          have hx : (10 : Int) = 0 := congrArg (fun r : ParseR => r.2.1.1) h
          omega
    obtain ⟨k, k1, k2, k3⟩ := key
    have hc0 : 0 < c := by
      rcases Nat.eq_zero_or_pos c with h | h
      · rw [h] at k2; omega
      · exact h
    have hlt := val_lt hD
    have hge := dd_ge hc0
    have hL : 0 < (Lib.decDigits c).length := List.length_pos_iff.2 (dd_ne c)
    have hlen : (Lib.decDigits c).length - 1 + k < (A ++ B).length := by
      have h4 : 10 ^ ((Lib.decDigits c).length - 1 + k) ≤ val (A ++ B) := by
        rw [Nat.pow_add, ← k2]
        exact Nat.mul_le_mul_right _ hge
      exact (Nat.pow_lt_pow_iff_right (by omega : 1 < 10)).1 (Nat.lt_of_le_of_lt h4 hlt)
    rw [List.length_append] at hlen
    subst k3
    refine ⟨?_, hng⟩
    unfold textD
    by_cases hE : 0 ≤ e
    · rw [if_pos hE]
      have : (sgn (negD s) ++ (Lib.decDigits c ++ List.replicate e.toNat 48)).length = p0 s + ((Lib.decDigits c).length + e.toNat) := by rw [hpn]; simp
      rw [this]
      rcases hsp with ⟨h1, h6⟩ | ⟨h1, h6⟩
      · rw [h1] at hs; omega
      · rw [h1] at hs; simp only [List.length_append, List.length_cons] at hs; omega
    · rw [if_neg hE]
      have hBn : 0 < B.length := by omega
      have hw : (wideW c e).length = (1 - e - (Lib.decDigits c).length).toNat + (Lib.decDigits c).length := by unfold wideW; simp
      have : (sgn (negD s) ++ ((wideW c e).take ((wideW c e).length - e.natAbs) ++ [46] ++ (wideW c e).drop ((wideW c e).length - e.natAbs))).length = p0 s + ((wideW c e).length + 1) := by
        rw [hpn]
        simp
        omega
      rw [this]
      rcases hsp with ⟨h1, h6⟩ | ⟨h1, h6⟩
      · rw [h6] at hBn; simp at hBn
      · rw [h1] at hs
        simp at hs
        omega
end Go.AM
set_option linter.unusedVariables false
set_option linter.unusedSimpArgs false
namespace Go.AM
abbrev timeR (s : List UInt8) : NumR := parseNum s 1 1099511627776
abbrev OkG (name : List UInt8) (d : DecL) (t : Int) : MetR := ((name, 2, [d], 1000000, [], t, ()), (0, 0, ()), ())
def timeS (name : List UInt8) (d : DecL) (u : List UInt8) (p : Nat) : MetR :=
  if ¬ (timeR (seg 32 u)).2.1.1 = 0 then badM 20 (p : Int) else if 32 ∈ u then badM 11 ((p + (seg 32 u).length : Nat) : Int) else OkG name d (timeR (seg 32 u)).1
def valueG (name : List UInt8) (u : List UInt8) (p : Nat) : MetR :=
  if ¬ (parseR (seg 32 u)).2.1.1 = 0 then badM 17 (p : Int) else if ¬ 32 ∈ u then badM 11 ((p + (seg 32 u).length : Nat) : Int)
  else timeS name ((parseR (seg 32 u)).1.1, (parseR (seg 32 u)).1.2.1, (parseR (seg 32 u)).1.2.2.1) (u.drop ((seg 32 u).length + 1)) (p + (seg 32 u).length + 1)
def grParse (s : List UInt8) : MetR :=
  if nameOK (seg 32 s) = false then badM 15 0 else if ¬ 32 ∈ s then badM 11 ((seg 32 s).length : Int) else valueG (seg 32 s) (s.drop ((seg 32 s).length + 1)) ((seg 32 s).length + 1)
theorem parseNum_at {s : List UInt8} {lo hi : Int} (h : (parseNum s lo hi).2.1.1 = 0) : (parseNum s lo hi).2.1.2.1 = 0 := (parse_back h).1
theorem faultN_both {c a : Int} (h : c = 0 → a = 0) : (!((c == 0) && (a == 0))) = !(c == 0) := by
  by_cases hc : c = 0
  · rw [hc, h hc]; rfl
  · rw [beq_eq_false_iff_ne.2 hc]; rfl
section
variable {X : Type} (n : Nat) (rec : Int → Int → Bool → List UInt8 → Int → List DecL → Int → List TagL → Int → Int → Int → List UInt8 → Int → List DecL → Int → List TagL → Int → Int → Int → List UInt8 → Nat → Nat → Nat → Nat → Option X)
  (k0 kr : List UInt8 → Int → List DecL → Int → List TagL → Int → Int → Int → List UInt8 → Int → List DecL → Int → List TagL → Int → Int → Int → List UInt8 → Nat → Nat → Nat → Nat → Option X)
  (b0 : List UInt8) (b1 : Int) (b2 : List DecL) (b3 : Int) (b4 : List TagL) (b5 b6 b7 : Int) (nm : List UInt8) (kd : Int) (vs : List DecL) (rt : Int) (ts : List TagL) (tm c a : Int) (s : List UInt8) (i0 i1 i2 i3 : Nat)
theorem g_end (p i : Int) : F.graphite_Parse.L2_graphite_cut_1.step n rec k0 kr p i false b0 b1 b2 b3 b4 b5 b6 b7 nm kd vs rt ts tm c a s i0 i1 i2 i3 = k0 b0 b1 b2 b3 b4 b5 b6 b7 nm kd vs rt ts tm c a s i0 i1 i2 i3 := rfl
theorem g_round0 (hn : 200000 ≤ n) (p : Nat) (hp : p ≤ s.length) (hs : s.length ≤ 10000) :
    F.graphite_Parse.L2_graphite_cut_1.step n rec k0 kr (p : Int) 0 true b0 b1 b2 b3 b4 b5 b6 b7 nm kd vs rt ts tm c a s i0 i1 i2 i3 =
      (if nameOK (seg 32 (s.drop p)) = false then kr b0 b1 b2 b3 b4 b5 b6 b7 (seg 32 (s.drop p)) kd vs rt ts tm 15 (p : Int) s i0 i1 i2 i3
      else if ¬ 32 ∈ s.drop p then kr b0 b1 b2 b3 b4 b5 b6 b7 (seg 32 (s.drop p)) kd vs rt ts tm 11 ((p + (seg 32 (s.drop p)).length : Nat) : Int) s i0 i1 i2 i3
      else rec ((p + (seg 32 (s.drop p)).length + 1 : Nat) : Int) 1 true b0 b1 b2 b3 b4 b5 b6 b7 (seg 32 (s.drop p)) kd vs rt ts tm c a s i0 i1 i2 i3) := by
  unfold F.graphite_Parse.L2_graphite_cut_1.step
  have hl := seg_le 32 (s.drop p)
  simp only [List.length_drop] at hl
  rw [cond_true, sub_tail hp, some_bind', cut_eq n 32 (by simp; omega), some_bind']
  simp only [beq_self_eq_true, cond_true]
  rw [text_cls n 1 _ 1 200 (by omega) (by omega), some_bind', textF_both]
  have e1 : ((textF 1 (seg 32 (s.drop p)) 1 200).1 == 0) = nameOK (seg 32 (s.drop p)) := rfl
  have w1 : IntKind.wrap .i64 ((p : Int) + ((seg 32 (s.drop p)).length : Int)) = ((p + (seg 32 (s.drop p)).length : Nat) : Int) := by rw [wrap_in (by omega)]; omega
  have w2 : IntKind.wrap .i64 ((p : Int) + (IntKind.wrap .i64 (((seg 32 (s.drop p)).length : Int) + (1 : Int)))) = ((p + (seg 32 (s.drop p)).length + 1 : Nat) : Int) := by rw [wrap_in (x := ((seg 32 (s.drop p)).length : Int) + 1) (by omega), wrap_in (by omega)]; omega
  have w3 : IntKind.wrap .i64 ((0 : Int) + 1) = 1 := rfl
  rw [e1, w1, w2, w3]
  cases nameOK (seg 32 (s.drop p))
  · rfl
  · have d2 : decide ((0 : Int) < 2) = true := rfl
    rw [Bool.not_true, cond_false, if_neg (by simp), d2]
    by_cases hm : 32 ∈ s.drop p
    · rw [decide_eq_true hm, if_neg (fun h => h hm)]; rfl
    · rw [decide_eq_false hm, if_pos hm]; rfl
theorem g_round1 (hn : 200000 ≤ n) (p : Nat) (hp : p ≤ s.length) (hs : s.length ≤ 10000) :
    F.graphite_Parse.L2_graphite_cut_1.step n rec k0 kr (p : Int) 1 true b0 b1 b2 b3 b4 b5 b6 b7 nm kd vs rt ts tm c a s i0 i1 i2 i3 =
      (if ¬ (parseR (seg 32 (s.drop p))).2.1.1 = 0 then kr b0 b1 b2 b3 b4 b5 b6 b7 nm kd vs rt ts tm 17 (p : Int) s i0 i1 i2 i3
      else if ¬ 32 ∈ s.drop p then kr b0 b1 b2 b3 b4 b5 b6 b7 nm kd [((parseR (seg 32 (s.drop p))).1.1, (parseR (seg 32 (s.drop p))).1.2.1, (parseR (seg 32 (s.drop p))).1.2.2.1)] rt ts tm 11 ((p + (seg 32 (s.drop p)).length : Nat) : Int) s i0 i1 1 i3
      else rec ((p + (seg 32 (s.drop p)).length + 1 : Nat) : Int) 2 true b0 b1 b2 b3 b4 b5 b6 b7 nm kd [((parseR (seg 32 (s.drop p))).1.1, (parseR (seg 32 (s.drop p))).1.2.1, (parseR (seg 32 (s.drop p))).1.2.2.1)] rt ts tm c a s i0 i1 1 i3) := by
  unfold F.graphite_Parse.L2_graphite_cut_1.step
  have hl := seg_le 32 (s.drop p)
  simp only [List.length_drop] at hl
  rw [cond_true, sub_tail hp, some_bind', cut_eq n 32 (by simp; omega), some_bind']
  have g1 : ((1 : Int) == 0) = false := rfl
  simp only [beq_self_eq_true, cond_true, g1, cond_false]
  have w1 : IntKind.wrap .i64 ((p : Int) + ((seg 32 (s.drop p)).length : Int)) = ((p + (seg 32 (s.drop p)).length : Nat) : Int) := by rw [wrap_in (by omega)]; omega
  have w2 : IntKind.wrap .i64 ((p : Int) + (IntKind.wrap .i64 (((seg 32 (s.drop p)).length : Int) + (1 : Int)))) = ((p + (seg 32 (s.drop p)).length + 1 : Nat) : Int) := by rw [wrap_in (x := ((seg 32 (s.drop p)).length : Int) + 1) (by omega), wrap_in (by omega)]; omega
  have w3 : IntKind.wrap .i64 ((1 : Int) + 1) = 2 := rfl
  rw [decparse_eq n hn _ (by omega), some_bind', faultN_both (fun h => parseR_at h), w1, w2, w3]
  by_cases h0 : (parseR (seg 32 (s.drop p))).2.1.1 = 0
  · have e0 : ((parseR (seg 32 (s.drop p))).2.1.1 == 0) = true := by simp [h0]
    have d2 : decide ((1 : Int) < 2) = true := rfl
    rw [e0, Bool.not_true, cond_false, if_neg (fun h => h h0), d2]
    by_cases hm : 32 ∈ s.drop p
    · rw [decide_eq_true hm, if_neg (fun h => h hm)]; rfl
    · rw [decide_eq_false hm, if_pos hm]; rfl
  · have e0 : ((parseR (seg 32 (s.drop p))).2.1.1 == 0) = false := by simpa using h0
    rw [e0, if_pos h0]; rfl
theorem g_round2 (hn : 200000 ≤ n) (p : Nat) (hp : p ≤ s.length) (hs : s.length ≤ 10000) :
    F.graphite_Parse.L2_graphite_cut_1.step n rec k0 kr (p : Int) 2 true b0 b1 b2 b3 b4 b5 b6 b7 nm kd vs rt ts tm c a s i0 i1 i2 i3 =
      (if ¬ (timeR (seg 32 (s.drop p))).2.1.1 = 0 then kr b0 b1 b2 b3 b4 b5 b6 b7 nm kd vs rt ts tm 20 (p : Int) s i0 i1 i2 i3
      else if 32 ∈ s.drop p then kr b0 b1 b2 b3 b4 b5 b6 b7 nm kd vs rt ts (timeR (seg 32 (s.drop p))).1 11 ((p + (seg 32 (s.drop p)).length : Nat) : Int) s i0 i1 i2 i3
      else rec ((p + (seg 32 (s.drop p)).length + 1 : Nat) : Int) 3 false b0 b1 b2 b3 b4 b5 b6 b7 nm kd vs rt ts (timeR (seg 32 (s.drop p))).1 c a s i0 i1 i2 i3) := by
  unfold F.graphite_Parse.L2_graphite_cut_1.step
  have hl := seg_le 32 (s.drop p)
  simp only [List.length_drop] at hl
  rw [cond_true, sub_tail hp, some_bind', cut_eq n 32 (by simp; omega), some_bind']
  have g1 : ((2 : Int) == 0) = false := rfl
  have g2 : ((2 : Int) == 1) = false := rfl
  simp only [g1, g2, cond_false]
  have w1 : IntKind.wrap .i64 ((p : Int) + ((seg 32 (s.drop p)).length : Int)) = ((p + (seg 32 (s.drop p)).length : Nat) : Int) := by rw [wrap_in (by omega)]; omega
  have w2 : IntKind.wrap .i64 ((p : Int) + (IntKind.wrap .i64 (((seg 32 (s.drop p)).length : Int) + (1 : Int)))) = ((p + (seg 32 (s.drop p)).length + 1 : Nat) : Int) := by rw [wrap_in (x := ((seg 32 (s.drop p)).length : Int) + 1) (by omega), wrap_in (by omega)]; omega
  have w3 : IntKind.wrap .i64 ((2 : Int) + 1) = 3 := rfl
  rw [time_eq n _ (by omega) (by omega), some_bind', faultN_both (fun h => parseNum_at h), w1, w2, w3]
  by_cases h0 : (timeR (seg 32 (s.drop p))).2.1.1 = 0
  · have e0 : ((timeR (seg 32 (s.drop p))).2.1.1 == 0) = true := by simp [h0]
    have d2 : decide ((2 : Int) < 2) = false := rfl
    rw [e0, Bool.not_true, cond_false, if_neg (fun h => h h0), d2]
    by_cases hm : 32 ∈ s.drop p
    · rw [decide_eq_true hm, if_pos hm]; rfl
    · rw [decide_eq_false hm, if_neg hm]; rfl
  · have e0 : ((timeR (seg 32 (s.drop p))).2.1.1 == 0) = false := by simpa using h0
    rw [e0, if_pos h0]; rfl
end
theorem grParse_eq (n : Nat) (hn : 200000 ≤ n) (s : List UInt8) (hs : s.length ≤ 10000) : F.graphite_Parse n s = some (grParse s) := by
  unfold F.graphite_Parse
  generalize hk0 : (fun (e6_b0_0 : List UInt8) (e6_b0_1 : Int) (e6_b0_2 : List DecL) (e6_b0_3 : Int) (e6_b0_4 : List TagL) (e6_b0_5 e6_b1_0 e6_b1_1 : Int) (e6_b2_0 : List UInt8) (e6_b2_1 : Int) (e6_b2_2 : List DecL) (e6_b2_3 : Int) (e6_b2_4 : List TagL) (e6_b2_5 e6_b3_0 e6_b3_1 : Int) (e6_b4_0 : List UInt8) (e6_k0 e6_k1 e6_k2 e6_k3 : Nat) =>
      bif !((e6_b3_0 == (0 : Int)) && (e6_b3_1 == (0 : Int))) then
        some (((([], (0 : Int), [], (0 : Int), [], (0 : Int), ()), (e6_b3_0, e6_b3_1, ()), ()) : MetR))
      else
        some (((e6_b2_0, e6_b2_1, e6_b2_2, e6_b2_3, e6_b2_4, e6_b2_5, ()), (e6_b3_0, e6_b3_1, ()), ()))) = k0
  have hbad : ∀ (b0 : List UInt8) (b1 : Int) (b2 : List DecL) (b3 : Int) (b4 : List TagL) (b5 b6 b7 : Int) (nm : List UInt8) (kd : Int) (vs : List DecL) (rt : Int) (ts : List TagL) (tm c a : Int) (s : List UInt8) (i0 i1 i2 i3 : Nat), ¬ c = 0 → k0 b0 b1 b2 b3 b4 b5 b6 b7 nm kd vs rt ts tm c a s i0 i1 i2 i3 = some (badM c a) := by
    intro b0 b1 b2 b3 b4 b5 b6 b7 nm kd vs rt ts tm c a s i0 i1 i2 i3 hc
    rw [← hk0]
    simp only
    rw [beq_eq_false_iff_ne.2 hc]; rfl
  have hok : ∀ (b0 : List UInt8) (b1 : Int) (b2 : List DecL) (b3 : Int) (b4 : List TagL) (b5 b6 b7 : Int) (nm : List UInt8) (kd : Int) (vs : List DecL) (rt : Int) (ts : List TagL) (tm : Int) (s : List UInt8) (i0 i1 i2 i3 : Nat), k0 b0 b1 b2 b3 b4 b5 b6 b7 nm kd vs rt ts tm 0 0 s i0 i1 i2 i3 = some ((nm, kd, vs, rt, ts, tm, ()), (0, 0, ()), ()) := by
    intro b0 b1 b2 b3 b4 b5 b6 b7 nm kd vs rt ts tm s i0 i1 i2 i3
    rw [← hk0]; rfl
  obtain ⟨q, hq⟩ : ∃ q, n = q + 1 + 1 + 1 + 1 := ⟨n - 4, by omega⟩
  have st : ∀ m p i b b0 b1 b2 b3 b4 b5 b6 b7 nm kd vs rt ts tm c a s i0 i1 i2 i3, F.graphite_Parse.L2_graphite_cut_1 n k0 k0 (m + 1) p i b b0 b1 b2 b3 b4 b5 b6 b7 nm kd vs rt ts tm c a s i0 i1 i2 i3 = F.graphite_Parse.L2_graphite_cut_1.step n (F.graphite_Parse.L2_graphite_cut_1 n k0 k0 m) k0 k0 p i b b0 b1 b2 b3 b4 b5 b6 b7 nm kd vs rt ts tm c a s i0 i1 i2 i3 := fun _ _ _ _ _ _ _ _ _ _ _ _ _ _ _ _ _ _ _ _ _ _ _ _ _ => rfl
  have key : F.graphite_Parse.L2_graphite_cut_1 n k0 k0 (q + 1 + 1 + 1 + 1) 0 0 true [] 0 [] 0 [] 0 0 0 [] 2 [] 1000000 [] 0 0 0 s 0 0 0 0 = some (grParse s) := by
    have hl := seg_le 32 s
    have r0 := g_round0 n (F.graphite_Parse.L2_graphite_cut_1 n k0 k0 (q + 1 + 1 + 1)) k0 k0 [] 0 [] 0 [] 0 0 0 [] 2 [] 1000000 [] 0 0 0 s 0 0 0 0 hn 0 (by omega) hs
    rw [st]
    refine r0.trans ?_
    rw [List.drop_zero, Nat.zero_add]
    unfold grParse
    by_cases h1 : nameOK (seg 32 s) = false
    · rw [if_pos h1, if_pos h1]; exact hbad _ _ _ _ _ _ _ _ _ _ _ _ _ _ _ _ _ _ _ _ _ (by decide)
    rw [if_neg h1, if_neg h1]
    by_cases h2 : ¬ 32 ∈ s
    · rw [if_pos h2, if_pos h2]; exact hbad _ _ _ _ _ _ _ _ _ _ _ _ _ _ _ _ _ _ _ _ _ (by decide)
    rw [if_neg h2, if_neg h2]
    have hlt := seg_lt (Classical.not_not.1 h2)
    generalize hA : (seg 32 s).length = A at *
    have hl2 := seg_le 32 (s.drop (A + 1))
    simp only [List.length_drop] at hl2
    rw [st, g_round1 n _ k0 k0 _ _ _ _ _ _ _ _ _ _ _ _ _ _ _ _ s _ _ _ _ hn (A + 1) (by omega) hs]
    unfold valueG
    by_cases h3 : ¬ (parseR (seg 32 (s.drop (A + 1)))).2.1.1 = 0
    · rw [if_pos h3, if_pos h3]; exact hbad _ _ _ _ _ _ _ _ _ _ _ _ _ _ _ _ _ _ _ _ _ (by decide)
    rw [if_neg h3, if_neg h3]
    by_cases h4 : ¬ 32 ∈ s.drop (A + 1)
    · rw [if_pos h4, if_pos h4]; exact hbad _ _ _ _ _ _ _ _ _ _ _ _ _ _ _ _ _ _ _ _ _ (by decide)
    rw [if_neg h4, if_neg h4]
    have hlt2 := seg_lt (Classical.not_not.1 h4)
    simp only [List.length_drop] at hlt2
    have hd2 : (s.drop (A + 1)).drop ((seg 32 (s.drop (A + 1))).length + 1) = s.drop (A + 1 + (seg 32 (s.drop (A + 1))).length + 1) := by rw [List.drop_drop]; rfl
    rw [hd2]
    generalize hB : A + 1 + (seg 32 (s.drop (A + 1))).length = B at *
    rw [st, g_round2 n _ k0 k0 _ _ _ _ _ _ _ _ _ _ _ _ _ _ _ _ s _ _ _ _ hn (B + 1) (by omega) hs]
    unfold timeS
    by_cases h5 : ¬ (timeR (seg 32 (s.drop (B + 1)))).2.1.1 = 0
    · rw [if_pos h5, if_pos h5]; exact hbad _ _ _ _ _ _ _ _ _ _ _ _ _ _ _ _ _ _ _ _ _ (by decide)
    rw [if_neg h5, if_neg h5]
    by_cases h6 : 32 ∈ s.drop (B + 1)
    · rw [if_pos h6, if_pos h6]; exact hbad _ _ _ _ _ _ _ _ _ _ _ _ _ _ _ _ _ _ _ _ _ (by decide)
    rw [if_neg h6, if_neg h6, st, g_end]
    exact hok _ _ _ _ _ _ _ _ _ _ _ _ _ _ _ _ _ _ _
  rw [← hq] at key
  exact key
end Go.AM
set_option linter.unusedVariables false
set_option linter.unusedSimpArgs false
namespace Go.AM
def lineG (m : MetD) : List UInt8 := m.1 ++ [32] ++ valL m.2.2.1 ++ [32] ++ Lib.decDigits m.2.2.2.2.2.1.toNat
theorem gr_cases (s : List UInt8) : (∃ c a : Int, grParse s = badM c a ∧ c ≠ 0 ∧ 0 ≤ a ∧ a ≤ s.length) ∨
    (∃ name value time d, s = name ++ 32 :: (value ++ 32 :: time) ∧ nameOK name = true ∧ (32 : UInt8) ∉ name ∧ (32 : UInt8) ∉ value ∧ (32 : UInt8) ∉ time ∧ parseR value = ((d.1, d.2.1, d.2.2, ()), (0, 0, ()), ()) ∧ (timeR time).2.1.1 = 0 ∧ grParse s = OkG name d (timeR time).1) := by
  unfold grParse
  have hl := seg_le 32 s
  by_cases h1 : nameOK (seg 32 s) = false
  · rw [if_pos h1]
    exact Or.inl ⟨15, 0, rfl, by decide, by omega, by omega⟩
  rw [if_neg h1]
  by_cases h2 : ¬ 32 ∈ s
  · rw [if_pos h2]
    exact Or.inl ⟨11, _, rfl, by decide, by omega, by omega⟩
  rw [if_neg h2]
  have h2' := Classical.not_not.1 h2
  have hsp := seg_split h2'
  have hfr := seg_free 32 s
  have hlen := congrArg List.length hsp
  simp only [List.length_append, List.length_cons] at hlen
  generalize seg 32 s = name at *
  generalize s.drop (name.length + 1) = t at *
  unfold valueG
  have hl2 := seg_le 32 t
  by_cases h3 : ¬ (parseR (seg 32 t)).2.1.1 = 0
  · rw [if_pos h3]
    exact Or.inl ⟨17, _, rfl, by decide, by omega, by omega⟩
  rw [if_neg h3]
  by_cases h4 : ¬ 32 ∈ t
  · rw [if_pos h4]
    exact Or.inl ⟨11, _, rfl, by decide, by omega, by omega⟩
  rw [if_neg h4]
  have h4' := Classical.not_not.1 h4
  have hsp2 := seg_split h4'
  have hfr2 := seg_free 32 t
  have hlen2 := congrArg List.length hsp2
  simp only [List.length_append, List.length_cons] at hlen2
  generalize seg 32 t = value at *
  generalize t.drop (value.length + 1) = u at *
  unfold timeS
  have hl3 := seg_le 32 u
  by_cases h5 : ¬ (timeR (seg 32 u)).2.1.1 = 0
  · rw [if_pos h5]
    exact Or.inl ⟨20, _, rfl, by decide, by omega, by omega⟩
  rw [if_neg h5]
  by_cases h6 : 32 ∈ u
  · rw [if_pos h6]
    exact Or.inl ⟨11, _, rfl, by decide, by omega, by omega⟩
  rw [if_neg h6]
  rw [seg_all h6] at h5 ⊢
  have h3' := Classical.not_not.1 h3
  have hat := parseR_at h3'
  refine Or.inr ⟨name, value, u, ((parseR value).1.1, (parseR value).1.2.1, (parseR value).1.2.2.1), by rw [← hsp2, ← hsp], by simpa using h1, hfr, hfr2, h6, ?_, Classical.not_not.1 h5, rfl⟩
  generalize parseR value = z at h3' hat
  obtain ⟨⟨a, b, c, _⟩, ⟨x, y, _⟩, _⟩ := z
  simp only at h3' hat
  subst h3' hat
  rfl
theorem parseG_said {s : List UInt8} (hs : s.length ≤ 10000) {name value time : List UInt8} {d : DecL} (h0 : s = name ++ 32 :: (value ++ 32 :: time)) (hn : nameOK name = true) (hp : parseR value = ((d.1, d.2.1, d.2.2, ()), (0, 0, ()), ())) (ht : (timeR time).2.1.1 = 0) :
    MetOK (name, 2, [d], 1000000, [], (timeR time).1, ()) ∧ expM (name, 2, [d], 1000000, [], (timeR time).1, ()) 3 = 0 ∧ chkM (name, 2, [d], 1000000, [], (timeR time).1, ()) = 0 ∧ (lineG (name, 2, [d], 1000000, [], (timeR time).1, ())).length ≤ s.length := by
  obtain ⟨neg, c, e, q1, q2, q3, q4⟩ := parse_ok (s := value) (by rw [hp])
  have hd : d = (neg, (c : Int), e) := by
    rw [hp] at q1
    have w1 : d.1 = neg := congrArg (fun r : ParseR => r.1.1) q1
    have w2 : d.2.1 = (c : Int) := congrArg (fun r : ParseR => r.1.2.1) q1
    have w3 : d.2.2 = e := congrArg (fun r : ParseR => r.1.2.2.1) q1
    exact Prod.ext w1 (Prod.ext w2 w3)
  subst hd
  obtain ⟨t1, t2⟩ := text_short q1
  obtain ⟨b1, b2, b3, b4, b5, b6, b7⟩ := parse_back ht
  have hdd : Lib.decDigits (val time) = time := dd_inv b6 b7
  have hlen := congrArg List.length h0
  simp at hlen
  have hd0 : decC (neg, (c : Int), e) = 0 := q4
  have e2 : valsB [(neg, (c : Int), e)] = true := by unfold valsB; simp [hd0]
  have e4 : timeB (timeR time).1 = true := by
    unfold timeB
    rw [b2]
    simp only [Bool.and_eq_true, decide_eq_true_eq]
    omega
  have hck : chkM (name, 2, [(neg, (c : Int), e)], 1000000, [], (timeR time).1, ()) = 0 := by
    unfold chkM
    simp only [hn, e2, e4]
    rfl
  refine ⟨⟨?_, ⟨by simp, fun d' hd' => ?_⟩, by simp, fun t ht => by simp at ht⟩, ?_, hck, ?_⟩
  · show name.length ≤ 10000; omega
  · have : d' = (neg, (c : Int), e) := by simpa using hd'
    subst this
    rw [two64_eq] at q2
    refine ⟨trivial, ⟨?_, ?_⟩, q3.1, q3.2⟩
    · show (0 : Int) ≤ (c : Int); omega
    · show (c : Int) ≤ 18446744073709551615; omega
  · unfold expM
    rw [if_neg (by omega), if_pos hck]
    have : saysM (name, 2, [(neg, (c : Int), e)], 1000000, [], (timeR time).1, ()) 3 = true := by
      unfold saysM
      rw [if_neg (by omega), if_pos rfl]
      unfold saysG bareM
      have : ((timeR time).1 == 0) = false := by rw [b2, beq_eq_false_iff_ne]; omega
      simp only [this]
      rfl
    rw [this]; rfl
  · unfold lineG
    have : valL [(neg, (c : Int), e)] = textD neg c e := rfl
    simp only [this, b2]
    rw [show ((val time : Nat) : Int).toNat = val time from by omega, hdd]
    simp
    omega
end Go.AM
set_option linter.unusedVariables false
set_option linter.unusedSimpArgs false
namespace Go.AM
def insD (t : TagL) : List TagL → List TagL
  | [] => [t]
  | x :: r => if ltT x t then x :: insD t r else if x = t then x :: r else t :: x :: r
def normT (l : List TagL) : List TagL := l.foldl (fun o t => insD t o) []
abbrev StrictT (l : List TagL) : Prop := l.Pairwise fun a b => ltT a b = true
theorem insD_mem (t : TagL) : ∀ (l : List TagL) (x : TagL), x ∈ insD t l ↔ x = t ∨ x ∈ l
  | [], x => by simp [insD]
  | y :: r, x => by
    unfold insD
    split
    · simp only [List.mem_cons, insD_mem t r x]
      constructor
      · rintro (h | h | h) <;> simp [h]
      · rintro (h | h | h) <;> simp [h]
    · split
      · rename_i e
        subst e
        simp only [List.mem_cons]
        constructor
        · rintro (h | h) <;> simp [h]
        · rintro (h | h | h) <;> simp [h]
      · simp only [List.mem_cons]
theorem insD_strict (t : TagL) : ∀ (l : List TagL), StrictT l → StrictT (insD t l)
  | [], _ => by simp [insD, StrictT]
  | y :: r, h => by
    obtain ⟨h1, h2⟩ := List.pairwise_cons.1 h
    unfold insD
    split
    · rename_i hy
      refine List.pairwise_cons.2 ⟨fun x hx => ?_, insD_strict t r h2⟩
      rcases (insD_mem t r x).1 hx with rfl | hx
      · exact hy
      · exact h1 x hx
    · rename_i hy
      split
      · exact h
      · rename_i hne
        have hty : ltT t y = true := by
          cases hc : ltT t y
          · exact absurd (ltT_total (by simpa using hy) hc) hne
          · rfl
        refine List.pairwise_cons.2 ⟨fun x hx => ?_, h⟩
        rcases List.mem_cons.1 hx with rfl | hx
        · exact hty
        · exact ltT_trans hty (h1 x hx)
theorem strict_unique : ∀ (a b : List TagL), StrictT a → StrictT b → (∀ x, x ∈ a ↔ x ∈ b) → a = b
  | [], [], _, _, _ => rfl
  | [], y :: b, _, _, h => by have := (h y).2 (by simp); cases this
  | x :: a, [], _, _, h => by have := (h x).1 (by simp); cases this
  | x :: a, y :: b, ha, hb, h => by
    obtain ⟨h1, h2⟩ := List.pairwise_cons.1 ha
    obtain ⟨h3, h4⟩ := List.pairwise_cons.1 hb
    have e : x = y := by
      rcases List.mem_cons.1 ((h x).1 (by simp)) with e | e
      · exact e
      · rcases List.mem_cons.1 ((h y).2 (by simp)) with e' | e'
        · exact e'.symm
        · have := ltT_asymm (h1 y e'); rw [h3 x e] at this; cases this
    subst e
    rw [strict_unique a b h2 h4 (fun z => ?_)]
    have hx := h z
    simp only [List.mem_cons] at hx
    constructor
    · intro hz
      rcases hx.1 (Or.inr hz) with rfl | h'
      · have := h1 _ hz; rw [ltT_irrefl] at this; cases this
      · exact h'
    · intro hz
      rcases hx.2 (Or.inr hz) with rfl | h'
      · have := h3 _ hz; rw [ltT_irrefl] at this; cases this
      · exact h'
theorem normT_fold : ∀ (l o : List TagL), StrictT o → StrictT (l.foldl (fun o t => insD t o) o) ∧ ∀ x, x ∈ l.foldl (fun o t => insD t o) o ↔ x ∈ o ∨ x ∈ l
  | [], o, h => ⟨h, fun x => by simp⟩
  | t :: l, o, h => by
    obtain ⟨h1, h2⟩ := normT_fold l (insD t o) (insD_strict t o h)
    refine ⟨h1, fun x => ?_⟩
    rw [List.foldl_cons, h2 x, insD_mem, List.mem_cons]
    constructor
    · rintro ((h | h) | h) <;> simp [h]
    · rintro (h | h | h) <;> simp [h]
theorem normT_strict (l : List TagL) : StrictT (normT l) := (normT_fold l [] List.Pairwise.nil).1
theorem normT_mem (l : List TagL) (x : TagL) : x ∈ normT l ↔ x ∈ l := by
  unfold normT; rw [(normT_fold l [] List.Pairwise.nil).2 x]; simp
theorem insD_len (t : TagL) : ∀ l, (insD t l).length ≤ l.length + 1
  | [] => by simp [insD]
  | y :: r => by
    unfold insD
    have := insD_len t r
    split
    · simp; omega
    · split <;> simp
theorem normT_len (l : List TagL) : (normT l).length ≤ l.length := by
  have : ∀ (l o : List TagL), (l.foldl (fun o t => insD t o) o).length ≤ o.length + l.length := by
    intro l
    induction l with
    | nil => intro o; simp
    | cons t l ih => intro o; have h1 := ih (insD t o); have h2 := insD_len t o; simp only [List.foldl_cons, List.length_cons]; omega
  have h := this l []
  simp only [List.length_nil, Nat.zero_add] at h
  exact h
def dedF (D : List TagL) (t : TagL) : List TagL := if D.getLast? = some t then D else D ++ [t]
theorem dedF_fold : ∀ (s D : List TagL), SortedT s → StrictT D → (∀ a ∈ D, ∀ b ∈ s, ltT b a = false) → StrictT (s.foldl dedF D) ∧ ∀ x, x ∈ s.foldl dedF D ↔ x ∈ D ∨ x ∈ s
  | [], D, _, h, _ => ⟨h, fun x => by simp⟩
  | t :: s, D, hs, hD, hb => by
    obtain ⟨h1, h2⟩ := List.pairwise_cons.1 hs
    have key : StrictT (dedF D t) ∧ (∀ x, x ∈ dedF D t ↔ x ∈ D ∨ x = t) := by
      unfold dedF
      split
      · rename_i e
        have ht : t ∈ D := List.mem_of_getLast? e
        exact ⟨hD, fun x => ⟨Or.inl, fun h => h.elim id (fun e => e ▸ ht)⟩⟩
      · rename_i e
        refine ⟨?_, fun x => by simp⟩
        refine List.pairwise_append.2 ⟨hD, List.pairwise_singleton _ _, fun a ha b hb' => ?_⟩
        rw [List.mem_singleton.1 hb']
        have h0 := hb a ha t (by simp)
        cases hc : ltT a t
        · exfalso
          have : a = t := ltT_total hc h0
          subst this
          apply e
          have : ∀ (D : List TagL), StrictT D → (∀ x ∈ D, ltT a x = false) → a ∈ D → D.getLast? = some a := by
            intro D
            induction D with
            | nil => intro _ _ h; cases h
            | cons y D ih =>
              intro hp hm hin
              obtain ⟨p1, p2⟩ := List.pairwise_cons.1 hp
              cases D with
              | nil => rcases List.mem_cons.1 hin with rfl | h
                       · rfl
                       · cases h
              | cons z D =>
                rw [List.getLast?_cons_cons]
                refine ih p2 (fun x hx => hm x (List.mem_cons_of_mem _ hx)) ?_
                rcases List.mem_cons.1 hin with rfl | h
                · have := p1 z (by simp); rw [hm z (by simp)] at this; cases this
                · exact h
          exact this D hD (fun x hx => hb x hx a (by simp)) ha
        · rfl
    obtain ⟨k1, k2⟩ := key
    obtain ⟨f1, f2⟩ := dedF_fold s (dedF D t) h2 k1 (fun a ha b hb' => by
      rcases (k2 a).1 ha with ha | rfl
      · exact hb a ha b (List.mem_cons_of_mem _ hb')
      · exact h1 b hb')
    refine ⟨f1, fun x => ?_⟩
    rw [List.foldl_cons, f2 x, k2 x, List.mem_cons]
    constructor
    · rintro ((h | h) | h) <;> simp [h]
    · rintro (h | h | h) <;> simp [h]
theorem ded_norm (l : List TagL) : (sortTags l).foldl dedF [] = normT l := by
  obtain ⟨h1, h2⟩ := dedF_fold (sortTags l) [] (sortTags_sorted l) List.Pairwise.nil (fun a ha => by cases ha)
  refine strict_unique _ _ h1 (normT_strict l) (fun x => ?_)
  rw [h2 x, normT_mem, (sortTags_perm l).mem_iff]; simp
theorem upd_set {α : Type} : ∀ (l : List α) (k : Nat) (x : α), upd l k x = l.set k x
  | [], _, _ => rfl
  | _ :: l, 0, _ => rfl
  | _ :: l, k + 1, x => by simp [upd, upd_set l k x]
end Go.AM
set_option linter.unusedVariables false
set_option linter.unusedSimpArgs false
namespace Go.AM
theorem getLast_take {α : Type} {L D : List α} {k : Nat} (h : L.take D.length = D) (hk : D.length = k + 1) : L[k]? = D.getLast? := by
  rw [List.getLast?_eq_getElem?]
  have : D[D.length - 1]? = (L.take D.length)[D.length - 1]? := by rw [h]
  rw [this, hk, List.getElem?_take]
  simp
theorem take_set {α : Type} {L D : List α} (x : α) (h : L.take D.length = D) (hk : D.length < L.length) : (L.set D.length x).take (D ++ [x]).length = D ++ [x] := by
  rw [List.length_append, List.length_singleton, List.take_add_one, List.take_set_of_le (Nat.le_refl _), h]
  simp [hk]
theorem drop_set {α : Type} (L : List α) (i k : Nat) (x : α) (h : i ≤ k) : (L.set i x).drop (k + 1) = L.drop (k + 1) := List.drop_set_of_lt (by omega)
theorem norm_loop (n : Nat) (X : Type) (k0 : (Nat × Nat) → Int → (Nat × List TagL) → (Nat × List TagL) → (Nat × List TagL) → Option X) (v N : Nat) (hN : N ≤ 100000) (b0 b1 : Nat × List TagL) :
    ∀ (r D L : List TagL) (i m : Nat), L.drop i = r → i ≤ N → r.length < m → D.length ≤ i → (i = 0 ↔ D = []) → L.length = N → L.take D.length = D →
    ∃ L', L'.take (r.foldl dedF D).length = r.foldl dedF D ∧ L'.length = N ∧ F.tag_Normal.L5 n k0 m (v, N) (D.length : Int) (v, N) (N : Int) (i : Int) b0 b1 (v, L) = k0 (v, N) ((r.foldl dedF D).length : Int) b0 b1 (v, L') := by
  intro r
  induction r with
  | nil =>
    intro D L i m hr hi hm hD h0 hL hT
    obtain ⟨m, rfl⟩ : ∃ p, m = p + 1 := ⟨m - 1, by omega⟩
    refine ⟨L, hT, hL, ?_⟩
    rw [F.tag_Normal.L5]
    unfold F.tag_Normal.L5.step
    dsimp only
    rw [bif_neg (by have := drop_nil' hr; omega)]
    rfl
  | cons x r ih =>
    intro D L i m hr hi hm hD h0 hL hT
    obtain ⟨m, rfl⟩ : ∃ p, m = p + 1 := ⟨m - 1, by simp at hm; omega⟩
    obtain ⟨l1, g1, t1⟩ := drop_cons hr
    have hw : IntKind.wrap .i64 ((D.length : Int) + 1) = ((D.length + 1 : Nat) : Int) := wrap_succ (by omega)
    have hput : ∃ L', L'.take (r.foldl dedF (D ++ [x])).length = r.foldl dedF (D ++ [x]) ∧ L'.length = N ∧ F.tag_Normal.L5 n k0 m (v, N) (((D ++ [x]).length : Nat) : Int) (v, N) (N : Int) ((i + 1 : Nat) : Int) b0 b1 (v, L.set D.length x) = k0 (v, N) ((r.foldl dedF (D ++ [x])).length : Int) b0 b1 (v, L') :=
      ih (D ++ [x]) (L.set D.length x) (i + 1) m (by rw [drop_set L D.length i x hD]; exact t1) (by omega) (by simp at hm; omega) (by simp; omega) (by simp) (by simpa using hL) (take_set x hT (by omega))
    rw [F.tag_Normal.L5]
    unfold F.tag_Normal.L5.step
    dsimp only
    rw [List.foldl_cons]
    have hb1 : (decide ((0 : Int) ≤ (i : Int)) && decide ((i : Int) < (N : Int))) = true := by simp; omega
    have hb2 : (decide ((0 : Int) ≤ (D.length : Int)) && decide ((D.length : Int) < (N : Int))) = true := by simp; omega
    have hbe : Nat.beq v v = true := Nat.beq_refl v
    rw [bif_pos (by omega : (i : Int) < (N : Int)), hb1, hbe, cond_true, cond_true, idx_nat, g1, some_bind', wrap_succ (by omega : i < 4611686018427387904)]
    by_cases hi0 : i = 0
    · have hD0 := h0.1 hi0
      have e0 : ((i : Int) == 0) = true := by simp [hi0]
      rw [e0, cond_true, hb2, cond_true, cond_true, idx_lt (by omega : D.length < L.length), some_bind', hw, Int.toNat_natCast, upd_set]
      have hd : dedF D x = D ++ [x] := by rw [hD0]; rfl
      rw [hd]
      obtain ⟨L', q1, q2, q3⟩ := hput
      refine ⟨L', q1, q2, ?_⟩
      rw [← q3, List.length_append, List.length_singleton]
    · have e0 : ((i : Int) == 0) = false := by simpa using hi0
      have hne : D ≠ [] := fun h => hi0 (h0.2 h)
      have hpos : 0 < D.length := List.length_pos_iff.2 hne
      have hwp : IntKind.wrap .i64 ((D.length : Int) - 1) = ((D.length - 1 : Nat) : Int) := by rw [wrap_in (by omega)]; omega
      have hb3 : (decide ((0 : Int) ≤ ((D.length - 1 : Nat) : Int)) && decide (((D.length - 1 : Nat) : Int) < (N : Int))) = true := by simp; omega
      obtain ⟨y, hy⟩ : ∃ y, D.getLast? = some y := ⟨_, List.getLast?_eq_some_getLast hne⟩
      have gl : L[D.length - 1]? = some y := by rw [getLast_take hT (by omega), hy]
      rw [e0, cond_false, hwp, hb3, cond_true, cond_true, idx_nat, gl, some_bind', tagL_beq]
      by_cases hxy : x = y
      · rw [decide_eq_true hxy, Bool.not_true, cond_false]
        have hd : dedF D x = D := by unfold dedF; rw [hy, hxy, if_pos rfl]
        rw [hd]
        exact ih D L (i + 1) m t1 (by omega) (by simp at hm; omega) (by omega) (by simp [hne]) hL hT
      · rw [decide_eq_false hxy, Bool.not_false, cond_true, hb2, cond_true, cond_true, idx_lt (by omega : D.length < L.length), some_bind', hw, Int.toNat_natCast, upd_set]
        have hd : dedF D x = D ++ [x] := by unfold dedF; rw [hy, if_neg (by simpa using fun h : y = x => hxy h.symm)]
        rw [hd]
        obtain ⟨L', q1, q2, q3⟩ := hput
        refine ⟨L', q1, q2, ?_⟩
        rw [← q3, List.length_append, List.length_singleton]
theorem clip_eq (n : Nat) (l : List TagL) : F.slices_Clip_api_Tag_api_Tag n l = some l := by
  unfold F.slices_Clip_api_Tag_api_Tag
  rw [beq_self_eq_true, cond_true, show (0 : Int) = ((0 : Nat) : Int) from rfl, sub_nat l 0 l.length (by omega) (by omega)]
  simp
theorem norm_out (n : Nat) (hn : 200000 ≤ n) (l : List TagL) (hl : l.length ≤ 100000) (v : Nat) (b0 b1 : Nat × List TagL) :
    F.tag_Normal.L5 n (fun (e11_3 : Nat × Nat) (e11_4 : Int) (e11_b0_0 e11_b1_0 e11_b2_0 : Nat × List TagL) =>
          bif Nat.beq e11_3.1 e11_b2_0.1 then
            (sub e11_b2_0.2 (0 : Int) e11_4).bind fun x12 =>
              (F.slices_Clip_api_Tag_api_Tag n x12).bind fun y13 =>
                some (y13)
          else
            none) n (v, l.length) (0 : Int) (v, l.length) (l.length : Int) (0 : Int) b0 b1 (v, sortTags l) = some (normT l) := by
  obtain ⟨L', q1, q2, q3⟩ := norm_loop n _ (fun (e11_3 : Nat × Nat) (e11_4 : Int) (e11_b0_0 e11_b1_0 e11_b2_0 : Nat × List TagL) =>
          bif Nat.beq e11_3.1 e11_b2_0.1 then
            (sub e11_b2_0.2 (0 : Int) e11_4).bind fun x12 =>
              (F.slices_Clip_api_Tag_api_Tag n x12).bind fun y13 =>
                some (y13)
          else
            none) v l.length hl b0 b1 (sortTags l) [] (sortTags l) 0 n rfl (by omega) (by rw [sortTags_length]; omega) (by simp) (by simp) (sortTags_length l) rfl
  refine q3.trans ?_
  rw [ded_norm] at q1 ⊢
  dsimp only
  rw [Nat.beq_refl, cond_true, show (0 : Int) = ((0 : Nat) : Int) from rfl, sub_nat L' 0 _ (by omega) (by rw [q2]; exact normT_len l), q1]
  simp only [some_bind', List.drop_zero, clip_eq]
theorem tagNormal_eq (n : Nat) (hn : 200000 ≤ n) (l : List TagL) (hl : l.length ≤ 100000) : F.tag_Normal n l = some (normT l) := by
  have e1 : (decide ((0 + l.length) * 32 ≤ 2 ^ 46) && decide (0 < 32 ∧ 32 ≤ 2 ^ 20)) = true := by
    rw [decide_eq_true (by omega)]; rfl
  have e2 : ∀ l : List TagL, l.length ≤ 100000 → (Nat.beq (sortTags l).length l.length && Nat.blt l.length strMax) = true := by
    intro l hl
    rw [sortTags_length, Nat.beq_refl, Bool.true_and, strMax_eq]
    exact Nat.ble_eq ▸ (by omega : l.length + 1 ≤ 4611686018427387904)
  unfold F.tag_Normal
  rw [List.nil_append, e1, cond_true, e2 l hl, cond_true]
  cases l with
  | nil =>
    have h1 := norm_out n hn [] (by simp) 1 (1, []) (1, [])
    have h2 := norm_out n hn [] (by simp) 2 (1, []) (1, [])
    refine Eq.trans (b := both (some (normT [])) (some (normT []))) ?_ (both_same _)
    rw [List.isEmpty_nil, cond_true]
    congr 1
  | cons t l =>
    exact norm_out n hn (t :: l) hl 2 (1, []) (1, [])
end Go.AM
set_option linter.unusedVariables false
set_option linter.unusedSimpArgs false
namespace Go.AM
def zeroM : MetD := ([], (0 : Int), [], (0 : Int), [], (0 : Int), ())
end Go.AM
set_option linter.unusedVariables false
set_option linter.unusedSimpArgs false
namespace Go.AM
def TagS (t : TagL) : Prop := t.1.length ≤ 1000 ∧ t.2.length ≤ 1000
theorem textF_zero {c : Int} {s : List UInt8} {lo hi : Int} (h : (textF c s lo hi).1 = 0) : lo ≤ (s.length : Int) ∧ (s.length : Int) ≤ hi ∧ s.all (cls c) = true := by
  unfold textF at h
  split at h
  · cases h
  · split at h
    · cases h
    · split at h
      · cases h
      · split at h
        · cases h
        · rename_i h1 h2 h3 h4
          exact ⟨by omega, by omega, Classical.byContradiction fun hh => h4 ((badK_ge _ _ _).2 hh)⟩
theorem tagGood_le {t : TagL} (h : tagGood t = true) : TagS t := by
  unfold tagGood at h
  simp only [Bool.and_eq_true, beq_iff_eq] at h
  have h1 := textF_zero h.1
  have h2 := textF_zero h.2
  exact ⟨by omega, by omega⟩
end Go.AM
set_option linter.unusedVariables false
set_option linter.unusedSimpArgs false
namespace Go.AM
structure RightM (m : MetD) : Prop where
  ok : MetOK m
  chk : chkM m = 0
theorem right_vals {m : MetD} (h : RightM m) : (∀ d ∈ m.2.2.1, DecLOK d ∧ decC d = 0) ∧ 1 ≤ m.2.2.1.length ∧ m.2.2.1.length ≤ 64 := by
  have := (chk_zero h.chk).2.2.1
  unfold valsB at this
  simp only [Bool.and_eq_true, decide_eq_true_eq] at this
  refine ⟨fun d hd => ⟨h.ok.2.1.2 d hd, ?_⟩, this.1, this.2.1⟩
  simpa using List.all_eq_true.1 this.2.2 d hd
theorem right_tags {m : MetD} (h : RightM m) : (∀ t ∈ m.2.2.2.2.1, TagS t ∧ tagGood t = true) ∧ m.2.2.2.2.1.length ≤ 32 := by
  have := (chk_zero h.chk).2.2.2.2.1
  unfold tagsB at this
  simp only [Bool.and_eq_true, decide_eq_true_eq] at this
  exact ⟨fun t ht => ⟨tagGood_le (List.all_eq_true.1 this.2 t ht), List.all_eq_true.1 this.2 t ht⟩, this.1⟩
theorem nameOK_le {s : List UInt8} (h : nameOK s = true) : 1 ≤ s.length ∧ s.length ≤ 200 := by
  rw [nameOK_eq] at h
  simp only [Bool.and_eq_true, decide_eq_true_eq] at h
  exact h.2
end Go.AM
set_option linter.unusedVariables false
set_option linter.unusedSimpArgs false
namespace Go.AM
abbrev Res (α : Type) := Except (Int × Int) α
def kindR (s : List UInt8) : Int := if s = [99] then 1 else if s = [103] then 2 else if s = [109, 115] then 3 else if s = [104] then 4 else if s = [100] then 5 else 0
theorem kind_eq (n : Nat) (hn : 100 ≤ n) (s : List UInt8) : F.dog_Kind n s = some (if kindR s = 0 then (0, 16, ()) else (kindR s, 0, ())) := by
  obtain ⟨m, hm⟩ : ∃ q, n = q + 7 := ⟨n - 7, by omega⟩
  unfold F.dog_Kind
  rw [show F.dog_words n = some ([], [99], [103], [109, 115], [104], [100], ()) from rfl, some_bind']
  have L : ∀ (k0 : Unit → Option (Int × Int × Unit)) (kr : Int → Int → Option (Int × Int × Unit)), F.dog_Kind.L2 n k0 kr (m + 7) s ([], [99], [103], [109, 115], [104], [100], ()) (0 : Int) = if s = [99] then kr 1 0 else if s = [103] then kr 2 0 else if s = [109, 115] then kr 3 0 else if s = [104] then kr 4 0 else if s = [100] then kr 5 0 else k0 () := by
    intro k0 kr
    have e1 : ([99] == s) = decide (s = [99]) := by by_cases h : s = [99] <;> simp [h]; exact fun h' => h h'.symm
    have e2 : ([103] == s) = decide (s = [103]) := by by_cases h : s = [103] <;> simp [h]; exact fun h' => h h'.symm
    have e3 : ([109, 115] == s) = decide (s = [109, 115]) := by by_cases h : s = [109, 115] <;> simp [h]; exact fun h' => h h'.symm
    have e4 : ([104] == s) = decide (s = [104]) := by by_cases h : s = [104] <;> simp [h]; exact fun h' => h h'.symm
    have e5 : ([100] == s) = decide (s = [100]) := by by_cases h : s = [100] <;> simp [h]; exact fun h' => h h'.symm
    show (bif [99] == s then kr 1 0 else bif [103] == s then kr 2 0 else bif [109, 115] == s then kr 3 0 else bif [104] == s then kr 4 0 else bif [100] == s then kr 5 0 else k0 ()) = _
    rw [e1, e2, e3, e4, e5]
    simp only [bdec]
  rw [hm] at L ⊢
  refine (L _ _).trans ?_
  unfold kindR
  repeat' split
  all_goals first | rfl | (simp_all)
def readVals : List (List UInt8) → List DecL → Int → Except Int (List DecL)
  | [], acc, _ => .ok acc
  | v :: r, acc, at_ => if (parseR v).2.1.1 = 0 ∧ acc.length ≠ 64 then readVals r (acc ++ [((parseR v).1.1, (parseR v).1.2.1, (parseR v).1.2.2.1)]) (at_ + v.length + 1) else .error at_
def restN (c : UInt8) (s : List UInt8) : List UInt8 := if c ∈ s then s.drop ((seg c s).length + 1) else []
def firstR (s : List UInt8) : Res (List UInt8 × List DecL) :=
  if nameOK (seg 58 s) = false then .error (15, 0)
  else if 58 ∉ s then .error (11, (s.length : Int))
  else match readVals (splitL 58 (restN 58 s)) [] ((seg 58 s).length + 1) with
    | .ok vs => .ok (seg 58 s, vs)
    | .error at_ => .error (17, at_)
def tagsR : List (List UInt8) → List TagL → Int → Except Int (List TagL)
  | [], acc, _ => .ok acc
  | p :: r, acc, at_ => if tagGood (seg 58 p, restN 58 p) = true ∧ ¬ (58 ∈ p ∧ restN 58 p = []) then tagsR r (acc ++ [(seg 58 p, restN 58 p)]) (at_ + p.length + 1) else .error at_
def moreR (m : MetD) (last : Int) : List UInt8 → Except Int (MetD × Int)
  | [] => .error 11
  | x :: s =>
    if x = 64 then (if 0 < last then .error 11 else if (rateR s).2.1.1 ≠ 0 ∨ (m.2.1 = 2 ∧ (rateR s).1 ≠ 1000000) then .error 18 else .ok ((m.1, m.2.1, m.2.2.1, (rateR s).1, m.2.2.2.2.1, m.2.2.2.2.2.1, ()), 1))
    else if x = 35 then (if 1 < last then .error 11 else match tagsR (splitL 44 s) [] 0 with
      | .error _ => .error 19
      | .ok l => if 32 < l.length then .error 19 else .ok ((m.1, m.2.1, m.2.2.1, m.2.2.2.1, normT l, m.2.2.2.2.2.1, ()), 2))
    else if x = 84 then (if 2 < last then .error 11 else if (parseNum s 1 1099511627776).2.1.1 ≠ 0 then .error 20 else .ok ((m.1, m.2.1, m.2.2.1, m.2.2.2.1, m.2.2.2.2.1, (parseNum s 1 1099511627776).1, ()), 3))
    else .error 11
def restR : List (List UInt8) → Int → MetD → Int → Res MetD
  | [], _, m, _ => .ok m
  | p :: r, at_, m, last => match moreR m last p with
    | .error e => .error (e, at_)
    | .ok (m', last') => restR r (at_ + p.length + 1) m' last'
def secondR (s p : List UInt8) (nm : List UInt8) (vs : List DecL) : List (List UInt8) → Res MetD
  | [] => .error (11, (s.length : Int))
  | q :: r => if kindR q = 0 then .error (16, (p.length : Int) + 1) else restR r ((p.length : Int) + 1 + (q.length + 1)) (nm, kindR q, vs, 1000000, [], 0, ()) 0
def linesR (s : List UInt8) : List (List UInt8) → Res MetD
  | [] => .error (11, 0)
  | p :: r => match firstR p with
    | .error e => .error e
    | .ok x => secondR s p x.1 x.2 r
abbrev ParseD := MetD × (Int × Int × Unit) × Unit
def outP : Res MetD → ParseD
  | .ok m => (m, (0, 0, ()), ())
  | .error e => (zeroM, (e.1, e.2, ()), ())
def parseD (s : List UInt8) : ParseD := if 8192 < s.length then (zeroM, (12, 0, ()), ()) else outP (linesR s (splitL 124 s))
theorem restN_le (c : UInt8) (s : List UInt8) : (restN c s).length ≤ s.length := by
  unfold restN; split <;> simp
theorem splitL_seg (c : UInt8) (s : List UInt8) : splitL c s = if c ∈ s then seg c s :: splitL c (restN c s) else [s] := by
  induction s with
  | nil => rfl
  | cons x s ih =>
    by_cases hx : x = c
    · subst hx
      have e1 : seg x (x :: s) = [] := by rw [seg_cons, if_pos rfl]
      have e2 : restN x (x :: s) = s := by unfold restN; rw [if_pos (by simp), e1]; rfl
      rw [if_pos (by simp), e1, e2, splitL, if_pos rfl]
    · have hmem : (c ∈ x :: s) ↔ c ∈ s := by simp [show ¬ c = x from fun h => hx h.symm]
      rw [splitL, if_neg hx, ih]
      by_cases hc : c ∈ s
      · rw [if_pos hc, if_pos (hmem.2 hc)]
        have e1 : seg c (x :: s) = x :: seg c s := by rw [seg_cons, if_neg hx]
        have e2 : restN c (x :: s) = restN c s := by unfold restN; rw [if_pos hc, if_pos (hmem.2 hc), e1]; rfl
        rw [e1, e2]
      · rw [if_neg hc, if_neg (fun h => hc (hmem.1 h))]
def sumL (l : List (List UInt8)) : Nat := (l.map fun p => p.length + 1).sum
theorem splitL_sum (c : UInt8) (s : List UInt8) : sumL (splitL c s) = s.length + 1 := by
  induction s with
  | nil => rfl
  | cons x s ih =>
    rw [splitL]
    split
    · simp only [sumL, List.map_cons, List.sum_cons, List.length_nil, List.length_cons] at ih ⊢
      omega
    · have hne := splitL_ne c s
      revert ih hne
      cases splitL c s with
      | nil => intro _ h; exact absurd rfl h
      | cons p l =>
        intro ih _
        simp only [sumL, List.map_cons, List.sum_cons, List.length_cons] at ih ⊢
        omega
theorem sumL_len (l : List (List UInt8)) : l.length ≤ sumL l := by
  induction l with
  | nil => simp [sumL]
  | cons p l ih => simp only [sumL, List.map_cons, List.sum_cons, List.length_cons] at ih ⊢; omega
theorem sumL_mem {l : List (List UInt8)} {p : List UInt8} (h : p ∈ l) : p.length + 1 ≤ sumL l := by
  induction l with
  | nil => cases h
  | cons q l ih =>
    simp only [sumL, List.map_cons, List.sum_cons] at ih ⊢
    rcases List.mem_cons.1 h with rfl | h
    · omega
    · have := ih h; omega
theorem split_eq (n : Nat) (c : UInt8) {s : List UInt8} (hs : s.length ≤ 1000000) : O.split1 n s [c] = some (splitL c s) := by
  unfold O.split1
  dsimp only
  rw [decide_eq_true (by omega)]; rfl
theorem parseR_bad (s : List UInt8) : ((parseR s).2.1.1 == 0 && (parseR s).2.1.2.1 == 0) = decide ((parseR s).2.1.1 = 0) := by
  by_cases h : (parseR s).2.1.1 = 0
  · rw [decide_eq_true h, h, parseR_at h]; rfl
  · rw [decide_eq_false h, beq_eq_false_iff_ne.2 h]; rfl
theorem tagsR_loop (n : Nat) (hn : 200000 ≤ n) (X : Type) (k0 kr : List TagL → Int → Int → Nat → Option X) (ps : List (List UInt8)) (hs : sumL ps ≤ 10000) (b0 b1 : Int) : ∀ (r : List (List UInt8)) (acc : List TagL) (a : Int) (i m : Nat), ps.drop i = r → acc.length ≤ i → i ≤ ps.length → r.length < m → 0 ≤ a → a + sumL r ≤ 10000 →
    F.tag_Parse.L4 n k0 kr m acc a ps (ps.length : Int) (i : Int) b0 b1 acc.length = match tagsR r acc a with
      | .ok l => k0 l b0 b1 l.length
      | .error e => kr [] 19 e 0 := by
  intro r
  have hpl := sumL_len ps
  induction r with
  | nil =>
    intro acc a i m h1 h2 hi hm ha has
    obtain ⟨m, rfl⟩ : ∃ q, m = q + 1 := ⟨m - 1, by omega⟩
    rw [F.tag_Parse.L4]
    unfold F.tag_Parse.L4.step
    dsimp only
    rw [bif_neg (by have := drop_nil' h1; omega)]
    rfl
  | cons p r ih =>
    intro acc a i m h1 h2 hi hm ha has
    obtain ⟨m, rfl⟩ : ∃ q, m = q + 1 := ⟨m - 1, by simp at hm; omega⟩
    obtain ⟨l1, g1, t1⟩ := drop_cons h1
    simp only [List.length_cons] at hm
    simp only [sumL, List.map_cons, List.sum_cons] at has
    have hp := sumL_mem (List.mem_of_getElem? g1)
    have hsl := seg_le 58 p
    have hrl := restN_le 58 p
    have hih := ih (acc ++ [(seg 58 p, restN 58 p)]) (a + p.length + 1) (i + 1) m t1 (by simp; omega) (by omega) (by omega) (by omega) (by simp only [sumL]; omega)
    have hcut : F.strings_Cut n p [58] = some (seg 58 p, restN 58 p, decide (58 ∈ p), ()) := cut_eq n 58 (by omega)
    have hw : IntKind.wrap .i64 (a + IntKind.wrap .i64 ((p.length : Int) + 1)) = a + p.length + 1 := by
      rw [wrap_succ (by omega), wrap_in (by omega)]; omega
    have hg : (decide ((acc.length + 1) * 32 ≤ 2 ^ 46) && decide (0 < 32 ∧ 32 ≤ 2 ^ 20)) = true := by rw [decide_eq_true (by omega)]; rfl
    rw [F.tag_Parse.L4]
    unfold F.tag_Parse.L4.step
    dsimp only
    rw [bif_pos (by omega), idx_nat, g1, some_bind', hcut, some_bind']
    dsimp only
    have hc := tag_chk n hn (t := (seg 58 p, restN 58 p)) ⟨by show (seg 58 p).length ≤ 10000; omega, by show (restN 58 p).length ≤ 10000; omega⟩
    dsimp only at hc
    rw [hc, some_bind', hw, wrap_succ (by omega), hg, Nat.beq_refl, cond_true, cond_true, tagsR]
    cases tagGood (seg 58 p, restN 58 p)
    · rw [if_neg (by simp)]; rfl
    · rw [cond_true, beq_self_eq_true, Bool.not_true, cond_false, bdec]
      by_cases hin : (58 : UInt8) ∈ p
      · rw [if_pos hin]
        by_cases h0 : restN 58 p = []
        · rw [h0, beq_self_eq_true, cond_true, if_neg (by simp [hin])]
        · rw [beq_eq_false_iff_ne.2 h0, cond_false, if_pos ⟨rfl, by simp [h0]⟩]
          exact hih
      · rw [if_neg hin, if_pos ⟨rfl, by simp [hin]⟩]
        exact hih
theorem tagParse_eq (n : Nat) (hn : 200000 ≤ n) (s : List UInt8) (hs : s.length ≤ 9000) : F.tag_Parse n s = some (match tagsR (splitL 44 s) [] 0 with | .ok l => (l, (0, 0, ()), ()) | .error e => ([], (19, e, ()), ())) := by
  unfold F.tag_Parse
  have h1 := splitL_sum 44 s
  have h2 := sumL_len (splitL 44 s)
  rw [split_eq n 44 (by omega), some_bind']
  refine (tagsR_loop n hn _ _ _ (splitL 44 s) (by omega) 0 0 (splitL 44 s) [] 0 0 n rfl (by simp) (by omega) (by omega) (by omega) (by omega)).trans ?_
  cases tagsR (splitL 44 s) [] 0 <;> rfl
end Go.AM
set_option linter.unusedVariables false
set_option linter.unusedSimpArgs false
namespace Go.AM
end Go.AM
set_option linter.unusedVariables false
set_option linter.unusedSimpArgs false
namespace Go.AM
abbrev KR := List UInt8 → Int → List DecL → Int → List TagL → Int → Int → Int → List UInt8 → Int → List DecL → Int → List TagL → Int → Int → Int → Int → Int → Int → Int → Nat → Nat → Nat → Option ParseD
abbrev K8 := List UInt8 → List (List UInt8) → List UInt8 → Int → List DecL → Int → List TagL → Int → Int → Int → List UInt8 → Int → List DecL → Int → List TagL → Int → Int → Int → Int → Int → Nat → Nat → Nat → Option ParseD
def badP (e a : Int) : ParseD := (zeroM, (e, a, ()), ())
theorem first_loop (n : Nat) (hn : 200000 ≤ n) (k1 kr : KR) (ps : List (List UInt8)) (hs : sumL ps ≤ 9000)
    (c0 : List UInt8) (c1 : Int) (c2 : List DecL) (c3 : Int) (c4 : List TagL) (c5 d0 d1 : Int) (e0 : List UInt8) (e1 : Int) (e3 : Int) (e4 : List TagL) (e5 e7 f0 f1 : Int) (q0 q1 : Nat)
    (hbad : ∀ acc a l, kr c0 c1 c2 c3 c4 c5 d0 d1 e0 e1 acc e3 e4 e5 0 e7 f0 f1 17 a q0 q1 l = some (badP 17 a)) :
    ∀ (r : List (List UInt8)) (acc : List DecL) (a : Int) (i m : Nat), ps.drop i = r → acc.length ≤ i → i ≤ ps.length → r.length < m → 0 ≤ a → a + sumL r ≤ 10000 →
    F.dog_Parse.L9_dog_reader_first n k1 kr m a ps (ps.length : Int) (i : Int) c0 c1 c2 c3 c4 c5 d0 d1 e0 e1 acc e3 e4 e5 0 e7 f0 f1 0 0 q0 q1 acc.length = match readVals r acc a with
      | .ok vs => k1 c0 c1 c2 c3 c4 c5 d0 d1 e0 e1 vs e3 e4 e5 0 e7 f0 f1 0 0 q0 q1 vs.length
      | .error b => some (badP 17 b) := by
  intro r
  have hpl := sumL_len ps
  induction r with
  | nil =>
    intro acc a i m h1 h2 hi hm ha has
    obtain ⟨m, rfl⟩ : ∃ q, m = q + 1 := ⟨m - 1, by omega⟩
    rw [F.dog_Parse.L9_dog_reader_first]
    unfold F.dog_Parse.L9_dog_reader_first.step
    dsimp only
    rw [bif_neg (by have := drop_nil' h1; omega)]
    rfl
  | cons p r ih =>
    intro acc a i m h1 h2 hi hm ha has
    obtain ⟨m, rfl⟩ : ∃ q, m = q + 1 := ⟨m - 1, by simp at hm; omega⟩
    obtain ⟨l1, g1, t1⟩ := drop_cons h1
    simp only [List.length_cons] at hm
    simp only [sumL, List.map_cons, List.sum_cons] at has
    have hp := sumL_mem (List.mem_of_getElem? g1)
    have hih := ih (acc ++ [((parseR p).1.1, (parseR p).1.2.1, (parseR p).1.2.2.1)]) (a + p.length + 1) (i + 1) m t1 (by simp; omega) (by omega) (by omega) (by omega) (by simp only [sumL]; omega)
    have hw : IntKind.wrap .i64 (a + IntKind.wrap .i64 ((p.length : Int) + 1)) = a + p.length + 1 := by
      rw [wrap_succ (by omega), wrap_in (by omega)]; omega
    have hw0 : IntKind.wrap .i64 (0 + a) = a := by rw [Int.zero_add, wrap_in (by omega)]
    have hg : (decide ((acc.length + 1) * 24 ≤ 2 ^ 46) && decide (0 < 24 ∧ 24 ≤ 2 ^ 20)) = true := by rw [decide_eq_true (by omega)]; rfl
    have h64 : ((acc.length : Int) == 64) = decide (acc.length = 64) := by
      by_cases h : acc.length = 64
      · rw [h]; rfl
      · rw [decide_eq_false h, beq_eq_false_iff_ne]; omega
    rw [F.dog_Parse.L9_dog_reader_first]
    unfold F.dog_Parse.L9_dog_reader_first.step
    dsimp only
    rw [bif_pos (by omega), idx_nat, g1, some_bind', decparse_eq n hn p (by omega), some_bind', parseR_bad, hw, hw0, wrap_succ (by omega), hg, Nat.beq_refl, cond_true, cond_true, h64, readVals]
    by_cases h0 : (parseR p).2.1.1 = 0
    · rw [decide_eq_true h0, Bool.not_true, cond_false]
      by_cases h6 : acc.length = 64
      · rw [decide_eq_true h6, cond_true, if_neg (by simp [h6])]
        exact hbad _ _ _
      · rw [decide_eq_false h6, cond_false, if_pos ⟨h0, h6⟩]
        exact hih
    · rw [decide_eq_false h0, Bool.not_false, cond_true, if_neg (by simp [h0])]
      exact hbad _ _ _
theorem prefix_eq (n : Nat) (c x : UInt8) (s : List UInt8) : F.strings_CutPrefix n (x :: s) [c] = some (if x = c then (s, true, ()) else (x :: s, false, ())) := by
  unfold F.strings_CutPrefix F.stringslite_CutPrefix F.stringslite_HasPrefix
  have h1 : sub (x :: s) 0 (([c] : List UInt8).length : Int) = some [x] := by
    rw [show (0 : Int) = ((0 : Nat) : Int) from rfl, show (([c] : List UInt8).length : Int) = ((1 : Nat) : Int) from rfl, sub_nat (x :: s) 0 1 (by omega) (by simp)]; rfl
  have h2 : sub (x :: s) (([c] : List UInt8).length : Int) ((x :: s).length : Int) = some s := by
    rw [show (([c] : List UInt8).length : Int) = ((1 : Nat) : Int) from rfl, sub_nat (x :: s) 1 _ (by simp) (by omega), List.take_length]; rfl
  rw [bif_pos (by simp; omega), h1, h2]
  by_cases h : x = c
  · subst h
    simp
  · rw [if_neg h]
    have : ([x] == [c]) = false := by simpa using h
    simp [this]
theorem prefix_nil (n : Nat) (c : UInt8) : F.strings_CutPrefix n [] [c] = some ([], false, ()) := rfl
theorem rate_bad (s : List UInt8) : ((rateR s).2.1.1 == 0 && (rateR s).2.1.2.1 == 0) = decide ((rateR s).2.1.1 = 0) := by
  by_cases h : (rateR s).2.1.1 = 0
  · rw [decide_eq_true h, h, (rate_ok h).1]; rfl
  · rw [decide_eq_false h, beq_eq_false_iff_ne.2 h]; rfl
theorem time_bad (s : List UInt8) : ((parseNum s 1 1099511627776).2.1.1 == 0 && (parseNum s 1 1099511627776).2.1.2.1 == 0) = decide ((parseNum s 1 1099511627776).2.1.1 = 0) := by
  by_cases h : (parseNum s 1 1099511627776).2.1.1 = 0
  · rw [decide_eq_true h, h, (parse_back h).1]; rfl
  · rw [decide_eq_false h, beq_eq_false_iff_ne.2 h]; rfl
theorem tagsR_len : ∀ (r : List (List UInt8)) (acc : List TagL) (a : Int) (l : List TagL), tagsR r acc a = .ok l → l.length = acc.length + r.length
  | [], acc, a, l, h => by cases h; simp
  | p :: r, acc, a, l, h => by
    rw [tagsR] at h
    split at h
    · have := tagsR_len r _ _ _ h
      simp at this ⊢; omega
    · cases h
theorem more_eq (n : Nat) (hn : 200000 ≤ n) (k0 kr : KR) (p : List UInt8) (hs : p.length ≤ 9000)
    (c0 : List UInt8) (c1 : Int) (c2 : List DecL) (c3 : Int) (c4 : List TagL) (c5 d0 d1 : Int) (e0 : List UInt8) (e1 : Int) (e2 : List DecL) (e3 : Int) (e4 : List TagL) (e5 a last f0 f1 : Int) (q0 q1 q2 : Nat) (ha : 0 ≤ a ∧ a ≤ 100000)
    (hk0 : k0 c0 c1 c2 c3 c4 c5 d0 d1 e0 e1 e2 e3 e4 e5 a last f0 f1 0 0 q0 q1 q2 = some (badP 11 a))
    (hbad : ∀ l e, e ≠ 0 → kr c0 c1 c2 c3 c4 c5 d0 d1 e0 e1 e2 e3 e4 e5 a l f0 f1 e a q0 q1 q2 = some (badP e a)) (m : Nat) (hm : 5 ≤ m) :
    F.dog_Parse.L2_dog_reader_more n k0 kr m p ([64], (), [35], (), [84], (), ()) (0 : Int) c0 c1 c2 c3 c4 c5 d0 d1 e0 e1 e2 e3 e4 e5 a last f0 f1 0 0 q0 q1 q2 = match moreR (e0, e1, e2, e3, e4, e5, ()) last p with
      | .error e => some (badP e a)
      | .ok (w, l) => kr c0 c1 c2 c3 c4 c5 d0 d1 w.1 w.2.1 w.2.2.1 w.2.2.2.1 w.2.2.2.2.1 w.2.2.2.2.2.1 a l f0 f1 0 0 q0 q1 q2 := by
  obtain ⟨m, rfl⟩ : ∃ q, m = q + 4 := ⟨m - 4, by omega⟩
  have hw0 : IntKind.wrap .i64 (a + 0) = a := by rw [Int.add_zero, wrap_in (by omega)]
  have w1 : IntKind.wrap .i64 ((0 : Int) + 1) = 1 := rfl
  have w2 : IntKind.wrap .i64 ((1 : Int) + 1) = 2 := rfl
  have w3 : IntKind.wrap .i64 ((2 : Int) + 1) = 3 := rfl
  have b1 : ((1 : Int) == 0) = false := rfl
  have b2 : ((2 : Int) == 0) = false := rfl
  have b3 : ((2 : Int) == 1) = false := rfl
  cases p with
  | nil =>
    rw [moreR]
    rw [F.dog_Parse.L2_dog_reader_more]
    unfold F.dog_Parse.L2_dog_reader_more.step
    dsimp only
    rw [bif_pos (by omega), beq_self_eq_true, cond_true, prefix_nil, some_bind', Bool.not_false, cond_true, w1, F.dog_Parse.L2_dog_reader_more]
    unfold F.dog_Parse.L2_dog_reader_more.step
    dsimp only
    rw [bif_pos (by omega), b1, beq_self_eq_true, cond_true, cond_false, prefix_nil, some_bind', Bool.not_false, cond_true, w2, F.dog_Parse.L2_dog_reader_more]
    unfold F.dog_Parse.L2_dog_reader_more.step
    dsimp only
    rw [bif_pos (by omega), b2, b3, beq_self_eq_true, cond_true, cond_false, cond_false, prefix_nil, some_bind', Bool.not_false, cond_true, w3, F.dog_Parse.L2_dog_reader_more]
    unfold F.dog_Parse.L2_dog_reader_more.step
    dsimp only
    rw [bif_neg (by omega)]
    exact hk0
  | cons x s =>
    simp only [List.length_cons] at hs
    rw [moreR]
    rw [F.dog_Parse.L2_dog_reader_more]
    unfold F.dog_Parse.L2_dog_reader_more.step
    dsimp only
    rw [bif_pos (by omega), beq_self_eq_true, cond_true, prefix_eq, some_bind', w1, hw0]
    by_cases h64 : x = 64
    · rw [if_pos h64, if_pos h64]
      dsimp only
      rw [Bool.not_true, cond_false, bdec]
      by_cases hl : 0 < last
      · rw [if_pos hl, if_pos hl]; exact hk0
      · rw [if_neg hl, if_neg hl, rate_num n (by omega) s (by omega) (by omega), some_bind', rate_bad]
        by_cases h0 : (rateR s).2.1.1 = 0
        · rw [decide_eq_true h0, Bool.not_true, cond_false]
          by_cases h2 : e1 = 2
          · rw [h2, beq_self_eq_true, cond_true]
            by_cases h1 : (rateR s).1 = 1000000
            · rw [h1, beq_self_eq_true, Bool.not_true, cond_false, if_neg (by simp [h0])]
            · rw [beq_eq_false_iff_ne.2 h1, Bool.not_false, cond_true, if_pos (by simp [h1])]
              rw [h2] at hbad
              exact hbad _ _ (by decide)
          · rw [beq_eq_false_iff_ne.2 h2, cond_false, if_neg (by simp [h0, h2])]
        · rw [decide_eq_false h0, Bool.not_false, cond_true, if_pos (by simp [h0])]
          exact hbad _ _ (by decide)
    rw [if_neg h64, if_neg h64]
    dsimp only
    rw [Bool.not_false, cond_true]
    rw [F.dog_Parse.L2_dog_reader_more]
    unfold F.dog_Parse.L2_dog_reader_more.step
    dsimp only
    rw [bif_pos (by omega), b1, beq_self_eq_true, cond_false, cond_true, prefix_eq, some_bind', w2, hw0]
    by_cases h35 : x = 35
    · rw [if_pos h35, if_pos h35]
      dsimp only
      rw [Bool.not_true, cond_false, bdec]
      by_cases hl : 1 < last
      · rw [if_pos hl, if_pos hl]; exact hk0
      · have hsl := splitL_sum 44 s
        have hsn := sumL_len (splitL 44 s)
        rw [if_neg hl, if_neg hl, tagParse_eq n hn s (by omega), some_bind']
        cases hT : tagsR (splitL 44 s) [] 0 with
        | error e =>
          dsimp only
          rw [show ((19 : Int) == 0) = false from rfl, Bool.false_and, Bool.not_false, cond_true]
          exact hbad _ _ (by decide)
        | ok l =>
          have hll := tagsR_len _ _ _ _ hT
          simp only [List.length_nil, Nat.zero_add] at hll
          dsimp only
          rw [beq_self_eq_true, Bool.and_self, Bool.not_true, cond_false, bdec]
          by_cases h32 : 32 < l.length
          · rw [if_pos (by omega), if_pos h32]
            exact hbad _ _ (by decide)
          · rw [if_neg (by omega), if_neg h32, tagNormal_eq n hn l (by omega), some_bind']
    rw [if_neg h35, if_neg h35]
    dsimp only
    rw [Bool.not_false, cond_true]
    rw [F.dog_Parse.L2_dog_reader_more]
    unfold F.dog_Parse.L2_dog_reader_more.step
    dsimp only
    rw [bif_pos (by omega), b2, b3, beq_self_eq_true, cond_false, cond_false, cond_true, prefix_eq, some_bind', w3, hw0]
    by_cases h84 : x = 84
    · rw [if_pos h84, if_pos h84]
      dsimp only
      rw [Bool.not_true, cond_false, bdec]
      by_cases hl : 2 < last
      · rw [if_pos hl, if_pos hl]; exact hk0
      · rw [if_neg hl, if_neg hl, time_eq n s (by omega) (by omega), some_bind', time_bad]
        by_cases h0 : (parseNum s 1 1099511627776).2.1.1 = 0
        · rw [decide_eq_true h0, Bool.not_true, cond_false, if_neg (by simp [h0])]
        · rw [decide_eq_false h0, Bool.not_false, cond_true, if_pos h0]
          exact hbad _ _ (by decide)
    rw [if_neg h84, if_neg h84]
    dsimp only
    rw [Bool.not_false, cond_true]
    rw [F.dog_Parse.L2_dog_reader_more]
    unfold F.dog_Parse.L2_dog_reader_more.step
    dsimp only
    rw [bif_neg (by omega)]
    exact hk0
structure K8OK (s : List UInt8) (ps : List (List UInt8)) (k0 : K8) : Prop where
  bad : ∀ c0 c1 c2 c3 c4 c5 d0 d1 e0 e1 e2 e3 e4 e5 e6 e7 e a q0 q1 q2, e ≠ 0 → k0 s ps c0 c1 c2 c3 c4 c5 d0 d1 e0 e1 e2 e3 e4 e5 e6 e7 e a q0 q1 q2 = some (badP e a)
  ok : 2 ≤ ps.length → ∀ c0 c1 c2 c3 c4 c5 d0 d1 e0 e1 e2 e3 e4 e5 e6 e7 q0 q1 q2, k0 s ps c0 c1 c2 c3 c4 c5 d0 d1 e0 e1 e2 e3 e4 e5 e6 e7 0 0 q0 q1 q2 = some ((e0, e1, e2, e3, e4, e5, ()), (0, 0, ()), ())
  one : ps.length < 2 → ∀ c0 c1 c2 c3 c4 c5 d0 d1 e0 e1 e2 e3 e4 e5 e6 e7 q0 q1 q2, k0 s ps c0 c1 c2 c3 c4 c5 d0 d1 e0 e1 e2 e3 e4 e5 e6 e7 0 0 q0 q1 q2 = some (badP 11 (s.length : Int))
theorem at_step {a : Int} (p : List UInt8) (h : 0 ≤ a ∧ a + p.length + 1 ≤ 100000) : IntKind.wrap .i64 (a + IntKind.wrap .i64 ((p.length : Int) + 1)) = a + p.length + 1 := by
  rw [wrap_succ (by omega), wrap_in (by omega)]; omega
theorem drest_loop (n : Nat) (hn : 200000 ≤ n) (k0 : K8) (s : List UInt8) (ps : List (List UInt8)) (hs : sumL ps ≤ 9000) (hk : K8OK s ps k0) (h2 : 2 ≤ ps.length)
    (c0 : List UInt8) (c1 : Int) (c2 : List DecL) (c3 : Int) (c4 : List TagL) (c5 d0 d1 : Int) (q0 q1 q2 : Nat) :
    ∀ (r : List (List UInt8)) (a : Int) (w : MetD) (last : Int) (i m : Nat), ps.drop i = r → 2 ≤ i → i ≤ ps.length → r.length < m → 0 ≤ a → a + sumL r ≤ 10000 →
    F.dog_Parse.L8 n k0 m s ps ps (ps.length : Int) (i : Int) c0 c1 c2 c3 c4 c5 d0 d1 w.1 w.2.1 w.2.2.1 w.2.2.2.1 w.2.2.2.2.1 w.2.2.2.2.2.1 a last 0 0 q0 q1 q2 = some (outP (restR r a w last)) := by
  intro r
  have hpl := sumL_len ps
  induction r with
  | nil =>
    intro a w last i m h1 hi2 hi hm ha has
    obtain ⟨m, rfl⟩ : ∃ q, m = q + 1 := ⟨m - 1, by omega⟩
    rw [F.dog_Parse.L8]
    unfold F.dog_Parse.L8.step
    dsimp only
    rw [bif_neg (by have := drop_nil' h1; omega), restR]
    exact hk.ok h2 _ _ _ _ _ _ _ _ _ _ _ _ _ _ _ _ _ _ _
  | cons p r ih =>
    intro a w last i m h1 hi2 hi hm ha has
    obtain ⟨m, rfl⟩ : ∃ q, m = q + 1 := ⟨m - 1, by simp at hm; omega⟩
    obtain ⟨l1, g1, t1⟩ := drop_cons h1
    simp only [List.length_cons] at hm
    simp only [sumL, List.map_cons, List.sum_cons] at has
    have hp := sumL_mem (List.mem_of_getElem? g1)
    have hw0 : IntKind.wrap .i64 (a + 0) = a := by rw [Int.add_zero, wrap_in (by omega)]
    rw [F.dog_Parse.L8]
    unfold F.dog_Parse.L8.step
    dsimp only
    rw [bif_pos (by omega), idx_nat, g1, some_bind', bif_neg (by omega : ¬ (i : Int) < 2)]
    refine (more_eq n hn _ _ p (by omega) c0 c1 c2 c3 c4 c5 d0 d1 w.1 w.2.1 w.2.2.1 w.2.2.2.1 w.2.2.2.2.1 w.2.2.2.2.2.1 a last 0 0 q0 q1 q2 (by omega) ?_ ?_ n (by omega)).trans ?_
    · rw [hw0, Bool.false_and, Bool.not_false, cond_true]
      exact hk.bad _ _ _ _ _ _ _ _ _ _ _ _ _ _ _ _ _ _ _ _ _ (by decide)
    · intro l e he
      rw [beq_eq_false_iff_ne.2 he, Bool.false_and, Bool.not_false, cond_true]
      exact hk.bad _ _ _ _ _ _ _ _ _ _ _ _ _ _ _ _ _ _ _ _ _ he
    · have hww : (w.1, w.2.1, w.2.2.1, w.2.2.2.1, w.2.2.2.2.1, w.2.2.2.2.2.1, ()) = w := rfl
      rw [hww, restR]
      cases moreR w last p with
      | error e => rfl
      | ok x =>
        obtain ⟨w', l'⟩ := x
        dsimp only
        rw [at_step p (by omega), wrap_succ (by omega)]
        exact ih (a + p.length + 1) w' l' (i + 1) m t1 (by omega) (by omega) (by omega) (by omega) (by simp only [sumL]; omega)
theorem nameB (s : List UInt8) : (((textF 1 s 1 200).1 == 0) && ((textF 1 s 1 200).2.1 == 0)) = nameOK s := textF_both 1 s 1 200
theorem lines_eq (n : Nat) (hn : 200000 ≤ n) (k0 : K8) (s : List UInt8) (ps : List (List UInt8)) (hne : ps ≠ []) (hs : sumL ps ≤ 9000) (hsl : s.length ≤ 9000) (hk : K8OK s ps k0) (c0 : List UInt8) (c1 : Int) (c2 : List DecL) (c3 : Int) (c4 : List TagL) (c5 d0 d1 : Int) (q0 q1 : Nat) :
    F.dog_Parse.L8 n k0 n s ps ps (ps.length : Int) (0 : Int) c0 c1 c2 c3 c4 c5 d0 d1 [] 0 [] 1000000 [] 0 0 0 0 0 q0 q1 0 = some (outP (linesR s ps)) := by
  have hpl := sumL_len ps
  cases ps with
  | nil => exact absurd rfl hne
  | cons p r =>
    obtain ⟨m, hm⟩ : ∃ q, n = q + 2 := ⟨n - 2, by omega⟩
    have hp := sumL_mem (show p ∈ p :: r by simp)
    have hseg := seg_le 58 p
    have hrn := restN_le 58 p
    have hcut : F.strings_Cut n p [58] = some (seg 58 p, restN 58 p, decide (58 ∈ p), ()) := cut_eq n 58 (by omega)
    have hw0 : ∀ x : Int, 0 ≤ x ∧ x ≤ 100000 → IntKind.wrap .i64 (0 + x) = x := fun x hx => by rw [Int.zero_add, wrap_in (by omega)]
    have key : ∀ m, 20001 ≤ m + 1 → F.dog_Parse.L8 n k0 (m + 1) s (p :: r) (p :: r) ((p :: r).length : Int) (0 : Int) c0 c1 c2 c3 c4 c5 d0 d1 [] 0 [] 1000000 [] 0 0 0 0 0 q0 q1 0 = match firstR p with
        | .error e => some (badP e.1 e.2)
        | .ok x => F.dog_Parse.L8 n k0 m s (p :: r) (p :: r) ((p :: r).length : Int) ((1 : Nat) : Int) c0 c1 c2 c3 c4 c5 d0 d1 x.1 0 x.2 1000000 [] 0 ((p.length : Int) + 1) 0 0 0 q0 q1 x.2.length := by
      intro m hm
      rw [F.dog_Parse.L8]
      unfold F.dog_Parse.L8.step
      dsimp only
      rw [bif_pos (by simp only [List.length_cons]; omega), show idx (p :: r) 0 = some p from rfl, some_bind', bif_pos (by omega : (0 : Int) < 2), beq_self_eq_true, cond_true, hcut, some_bind']
      dsimp only
      rw [text_cls n 1 _ 1 200 (by omega) (by omega), some_bind', nameB]
      unfold firstR
      cases hnm : nameOK (seg 58 p)
      · rw [Bool.not_false, cond_true, if_pos rfl, hw0 0 (by omega), Bool.false_and, Bool.not_false, cond_true]
        exact hk.bad _ _ _ _ _ _ _ _ _ _ _ _ _ _ _ _ _ _ _ _ _ (by decide)
      · rw [Bool.not_true, cond_false, if_neg (by simp)]
        by_cases hin : (58 : UInt8) ∈ p
        · rw [decide_eq_true hin, Bool.not_true, cond_false, if_neg (by simp [hin]), split_eq n 58 (by omega), some_bind']
          have hsum := splitL_sum 58 (restN 58 p)
          have hsn := sumL_len (splitL 58 (restN 58 p))
          have hrl : (seg 58 p).length + 1 + (restN 58 p).length ≤ p.length := by
            unfold restN
            rw [if_pos hin, List.length_drop]
            have := seg_lt hin
            omega
          have hA : IntKind.wrap .i64 (((seg 58 p).length : Int) + 1) = ((seg 58 p).length : Int) + 1 := wrap_in (by omega)
          have hP : IntKind.wrap .i64 ((p.length : Int) + 1) = (p.length : Int) + 1 := wrap_in (by omega)
          rw [hA, hP]
          refine (first_loop n hn _ _ (splitL 58 (restN 58 p)) (by omega) c0 c1 c2 c3 c4 c5 d0 d1 (seg 58 p) 0 1000000 [] 0 0 0 0 q0 q1 ?_ (splitL 58 (restN 58 p)) [] _ 0 n rfl (by simp) (by omega) (by omega) (by omega) (by omega)).trans ?_
          · intro acc a l
            rw [show ((17 : Int) == 0) = false from rfl, Bool.false_and, Bool.not_false, cond_true]
            exact hk.bad _ _ _ _ _ _ _ _ _ _ _ _ _ _ _ _ _ _ _ _ _ (by decide)
          · cases readVals (splitL 58 (restN 58 p)) [] (((seg 58 p).length : Int) + 1) with
            | error b => rfl
            | ok vs =>
              dsimp only
              rw [Bool.and_self, Bool.not_true, cond_false, hw0 ((p.length : Int) + 1) (by omega)]
              rfl
        · rw [decide_eq_false hin, Bool.not_false, cond_true, if_pos hin, hw0 _ (by omega), Bool.false_and, Bool.not_false, cond_true]
          exact hk.bad _ _ _ _ _ _ _ _ _ _ _ _ _ _ _ _ _ _ _ _ _ (by decide)
    have key2 : ∀ m, 20001 ≤ m + 1 → ∀ nm (vs : List DecL) (a : Int) (l : Nat), a = (p.length : Int) + 1 → F.dog_Parse.L8 n k0 (m + 1) s (p :: r) (p :: r) ((p :: r).length : Int) ((1 : Nat) : Int) c0 c1 c2 c3 c4 c5 d0 d1 nm 0 vs 1000000 [] 0 a 0 0 0 q0 q1 l = some (outP (secondR s p nm vs r)) := by
      intro m hm nm vs a l hA
      rw [F.dog_Parse.L8]
      unfold F.dog_Parse.L8.step
      dsimp only
      cases r with
      | nil =>
        rw [bif_neg (by simp), secondR]
        exact hk.one (by simp) _ _ _ _ _ _ _ _ _ _ _ _ _ _ _ _ _ _ _
      | cons q r =>
        have hq := sumL_mem (show q ∈ p :: q :: r by simp)
        rw [bif_pos (by simp only [List.length_cons]; omega), show idx (p :: q :: r) ((1 : Nat) : Int) = some q from rfl, some_bind', bif_pos (by omega), show (((1 : Nat) : Int) == 0) = false from rfl, cond_false, show (((1 : Nat) : Int) == 1) = true from rfl, cond_true, kind_eq n (by omega), some_bind']
        have hwa : IntKind.wrap .i64 (a + 0) = a := by rw [Int.add_zero, wrap_in (by omega)]
        rw [secondR]
        by_cases h0 : kindR q = 0
        · rw [if_pos h0, if_pos h0]
          dsimp only
          rw [show ((16 : Int) == 0) = false from rfl, Bool.not_false, cond_true, Bool.false_and, Bool.not_false, cond_true, hwa, hA]
          exact hk.bad _ _ _ _ _ _ _ _ _ _ _ _ _ _ _ _ _ _ _ _ _ (by decide)
        · rw [if_neg h0, if_neg h0]
          dsimp only
          rw [beq_self_eq_true, Bool.not_true, cond_false, Bool.and_self, Bool.not_true, cond_false]
          simp only [sumL, List.map_cons, List.sum_cons, List.length_cons] at hs hpl
          rw [at_step q (by omega), show IntKind.wrap .i64 (((1 : Nat) : Int) + 1) = ((2 : Nat) : Int) from rfl, hA]
          have := drest_loop n hn k0 s (p :: q :: r) (by simp only [sumL, List.map_cons, List.sum_cons]; omega) hk (by simp) c0 c1 c2 c3 c4 c5 d0 d1 q0 q1 l r ((p.length : Int) + 1 + (q.length + 1)) (nm, kindR q, vs, 1000000, [], 0, ()) 0 2 m rfl (by omega) (by simp) (by omega) (by omega) (by simp only [sumL]; omega)
          rw [show (p.length : Int) + 1 + (q.length + 1) = (p.length : Int) + 1 + q.length + 1 by omega] at this ⊢
          exact this
    have k1 := key (m + 1) (by omega)
    have k2 := key2 m (by omega)
    have hmm : n = m + 1 + 1 := hm
    rw [linesR]
    have goal : ∀ j, j = m + 1 + 1 → F.dog_Parse.L8 n k0 j s (p :: r) (p :: r) ((p :: r).length : Int) (0 : Int) c0 c1 c2 c3 c4 c5 d0 d1 [] 0 [] 1000000 [] 0 0 0 0 0 q0 q1 0 = some (outP (match firstR p with
      | .error e => .error e
      | .ok x => secondR s p x.1 x.2 r)) := by
      intro j hj
      rw [hj, k1]
      cases firstR p with
      | error e => rfl
      | ok x => exact k2 x.1 x.2 _ _ rfl
    exact goal n hmm
theorem parse_eq (n : Nat) (hn : 200000 ≤ n) (s : List UInt8) (hs : s.length ≤ 1000000) : F.dog_Parse n s = some (parseD s) := by
  unfold F.dog_Parse parseD
  rw [bdec]
  by_cases h : 8192 < s.length
  · rw [if_pos (by omega), if_pos h]; rfl
  · rw [if_neg (by omega), if_neg h, split_eq n 124 hs, some_bind']
    have hsum := splitL_sum 124 s
    refine lines_eq n hn _ s (splitL 124 s) (splitL_ne 124 s) (by omega) (by omega) ⟨?_, ?_, ?_⟩ [] 0 [] 0 [] 0 0 0 0 0
    · intro c0 c1 c2 c3 c4 c5 d0 d1 e0 e1 e2 e3 e4 e5 e6 e7 e a q0 q1 q2 he
      rw [beq_eq_false_iff_ne.2 he, Bool.false_and, cond_false, Bool.not_false, cond_true]
      rfl
    · intro h2 c0 c1 c2 c3 c4 c5 d0 d1 e0 e1 e2 e3 e4 e5 e6 e7 q0 q1 q2
      rw [beq_self_eq_true, Bool.and_self, cond_true, bif_neg (by omega), Bool.not_true, cond_false]
    · intro h2 c0 c1 c2 c3 c4 c5 d0 d1 e0 e1 e2 e3 e4 e5 e6 e7 q0 q1 q2
      rw [beq_self_eq_true, Bool.and_self, cond_true, bif_pos (by omega), Bool.false_and, Bool.not_false, cond_true]
      rfl
end Go.AM
set_option linter.unusedVariables false
set_option linter.unusedSimpArgs false
namespace Go.AM
end Go.AM
set_option linter.unusedVariables false
set_option linter.unusedSimpArgs false
namespace Go.AM
end Go.AM
set_option linter.unusedVariables false
set_option linter.unusedSimpArgs false
namespace Go.AM
theorem tagsR_good : ∀ (r : List (List UInt8)) (acc : List TagL) (a : Int) (l : List TagL), tagsR r acc a = .ok l → (∀ t ∈ acc, tagGood t = true) → ∀ t ∈ l, tagGood t = true
  | [], acc, a, l, h, hg => by cases h; exact hg
  | p :: r, acc, a, l, h, hg => by
    rw [tagsR] at h
    split at h
    · rename_i hc
      refine tagsR_good r _ _ _ h (fun t ht => ?_)
      rcases List.mem_append.1 ht with ht | ht
      · exact hg t ht
      · rw [List.mem_singleton.1 ht]; exact hc.1
    · cases h
theorem tagS_ok {t : TagL} (h : TagS t) : TagLOK t := ⟨by have := h.1; omega, by have := h.2; omega⟩
end Go.AM
set_option linter.unusedVariables false
set_option linter.unusedSimpArgs false
namespace Go.AM
end Go.AM
set_option linter.unusedVariables false
set_option linter.unusedSimpArgs false
namespace Go.AM
structure InvM (m : MetD) : Prop where
  nm : nameOK m.1 = true
  kd : kindB m.2.1 = true
  vs : (∀ d ∈ m.2.2.1, DecLOK d ∧ decC d = 0) ∧ 1 ≤ m.2.2.1.length ∧ m.2.2.1.length ≤ 64
  rt : rateB m.2.1 m.2.2.2.1 = true
  tg : (∀ t ∈ m.2.2.2.2.1, tagGood t = true) ∧ m.2.2.2.2.1.length ≤ 32 ∧ StrictT m.2.2.2.2.1
  tm : timeB m.2.2.2.2.2.1 = true
theorem InvM.right {m : MetD} (h : InvM m) : RightM m := by
  have hn := nameOK_le h.nm
  refine ⟨⟨by omega, ⟨by have := h.vs.2.2; omega, fun d hd => (h.vs.1 d hd).1⟩, by have := h.tg.2.1; omega, fun t ht => tagS_ok (tagGood_le (h.tg.1 t ht))⟩, ?_⟩
  have hv : valsB m.2.2.1 = true := by
    unfold valsB
    simp only [Bool.and_eq_true, decide_eq_true_eq]
    exact ⟨h.vs.2.1, h.vs.2.2, List.all_eq_true.2 (fun d hd => by simp [(h.vs.1 d hd).2])⟩
  have ht : tagsB m.2.2.2.2.1 = true := by
    unfold tagsB
    simp only [Bool.and_eq_true, decide_eq_true_eq]
    exact ⟨h.tg.2.1, List.all_eq_true.2 h.tg.1⟩
  unfold chkM
  rw [h.nm, h.kd, hv, h.rt, ht, h.tm]
  rfl
theorem RightM.inv {m : MetD} (h : RightM m) (hs : StrictT m.2.2.2.2.1) : InvM m := by
  obtain ⟨c1, c2, c3, c4, c5, c6⟩ := chk_zero h.chk
  have ht := right_tags h
  exact ⟨c1, c2, right_vals h, c4, ⟨fun t htm => (ht.1 t htm).2, ht.2, hs⟩, c6⟩
theorem parse_decl {p : List UInt8} (h : (parseR p).2.1.1 = 0) : DecLOK ((parseR p).1.1, (parseR p).1.2.1, (parseR p).1.2.2.1) ∧ decC ((parseR p).1.1, (parseR p).1.2.1, (parseR p).1.2.2.1) = 0 := by
  obtain ⟨neg, c, e, h1, h2, h3, h4⟩ := parse_ok h
  rw [h1]
  refine ⟨⟨trivial, ⟨by simp, ?_⟩, h3⟩, h4⟩
  have := two64_eq
  simp only
  omega
theorem readVals_ok : ∀ (r : List (List UInt8)) (acc : List DecL) (a : Int) (vs : List DecL), readVals r acc a = .ok vs → (∀ d ∈ acc, DecLOK d ∧ decC d = 0) → acc.length ≤ 64 → (∀ d ∈ vs, DecLOK d ∧ decC d = 0) ∧ vs.length ≤ 64 ∧ vs.length = acc.length + r.length
  | [], acc, a, vs, h, hd, hl => by cases h; exact ⟨hd, hl, by simp⟩
  | p :: r, acc, a, vs, h, hd, hl => by
    rw [readVals] at h
    split at h
    · rename_i hc
      have hr := readVals_ok r _ _ _ h (fun d hd' => by
        rcases List.mem_append.1 hd' with hd' | hd'
        · exact hd d hd'
        · rw [List.mem_singleton.1 hd']; exact parse_decl hc.1) (by simp; omega)
      refine ⟨hr.1, hr.2.1, ?_⟩
      have := hr.2.2
      simp at this ⊢
      omega
    · cases h
theorem readVals_err : ∀ (r : List (List UInt8)) (acc : List DecL) (a b : Int), readVals r acc a = .error b → a ≤ b ∧ b < a + sumL r
  | [], acc, a, b, h => by cases h
  | p :: r, acc, a, b, h => by
    rw [readVals] at h
    simp only [sumL, List.map_cons, List.sum_cons]
    split at h
    · have := readVals_err r _ _ _ h
      simp only [sumL] at this
      omega
    · cases h; omega
theorem kindR_ok {s : List UInt8} (h : kindR s ≠ 0) : kindB (kindR s) = true := by
  revert h
  unfold kindR
  repeat' split
  all_goals first | (intro _; rfl) | (intro h; exact absurd rfl h)
theorem moreR_ok {m : MetD} (h : InvM m) {last : Int} {p : List UInt8} {m' : MetD} {l : Int} (hr : moreR m last p = .ok (m', l)) : InvM m' := by
  cases p with
  | nil => cases hr
  | cons x s =>
    rw [moreR] at hr
    split at hr
    · split at hr
      · cases hr
      · split at hr
        · cases hr
        · rename_i hc
          cases hr
          have h0 : (rateR s).2.1.1 = 0 := Classical.byContradiction fun hh => hc (Or.inl hh)
          obtain ⟨_, r1, r2, _⟩ := rate_ok h0
          refine ⟨h.nm, h.kd, h.vs, ?_, h.tg, h.tm⟩
          unfold rateB
          simp only [Bool.and_eq_true, decide_eq_true_eq]
          refine ⟨r1, r2, ?_⟩
          by_cases h2 : m.2.1 = 2
          · have : (rateR s).1 = 1000000 := Classical.byContradiction fun hh => hc (Or.inr ⟨h2, hh⟩)
            simp [this]
          · simp [h2]
    · split at hr
      · split at hr
        · cases hr
        · split at hr
          · cases hr
          · rename_i l' hT
            split at hr
            · cases hr
            · rename_i h32
              cases hr
              have hg := tagsR_good _ _ _ _ hT (fun t ht => by cases ht)
              refine ⟨h.nm, h.kd, h.vs, h.rt, ⟨fun t ht => hg t ((normT_mem _ _).1 ht), ?_, normT_strict _⟩, h.tm⟩
              have := normT_len l'
              show (normT l').length ≤ 32
              omega
      · split at hr
        · split at hr
          · cases hr
          · split at hr
            · cases hr
            · rename_i hc
              cases hr
              have h0 : (parseNum s 1 1099511627776).2.1.1 = 0 := Classical.byContradiction hc
              obtain ⟨_, r1, r2, r3, r4, _⟩ := parse_back h0
              refine ⟨h.nm, h.kd, h.vs, h.rt, h.tg, ?_⟩
              unfold timeB
              simp only [Bool.and_eq_true, decide_eq_true_eq]
              rw [r1]
              omega
        · cases hr
theorem moreR_err {m : MetD} {last : Int} {p : List UInt8} {e : Int} (hr : moreR m last p = .error e) : e ≠ 0 := by
  cases p with
  | nil => cases hr; decide
  | cons x s =>
    rw [moreR] at hr
    split at hr
    · split at hr
      · cases hr; decide
      · split at hr <;> cases hr; decide
    · split at hr
      · split at hr
        · cases hr; decide
        · split at hr
          · cases hr; decide
          · split at hr <;> cases hr; decide
      · split at hr
        · split at hr
          · cases hr; decide
          · split at hr <;> cases hr; decide
        · cases hr; decide
theorem restR_ok : ∀ (r : List (List UInt8)) (a : Int) (m : MetD) (last : Int), InvM m → (∀ m', restR r a m last = .ok m' → InvM m') ∧ (∀ e b, restR r a m last = .error (e, b) → e ≠ 0 ∧ a ≤ b ∧ b < a + sumL r)
  | [], a, m, last, h => ⟨fun m' hr => by cases hr; exact h, fun e b hr => by cases hr⟩
  | p :: r, a, m, last, h => by
    rw [restR]
    simp only [sumL, List.map_cons, List.sum_cons]
    cases hm : moreR m last p with
    | error e => exact ⟨fun m' hr => (by cases hr), fun e b hr => by cases hr; exact ⟨moreR_err hm, by omega, by omega⟩⟩
    | ok x =>
      obtain ⟨m1, l1⟩ := x
      obtain ⟨h1, h2⟩ := restR_ok r (a + p.length + 1) m1 l1 (moreR_ok h hm)
      refine ⟨h1, fun e b hr => ?_⟩
      have := h2 e b hr
      simp only [sumL] at this
      omega
theorem firstR_ok {s : List UInt8} {nm : List UInt8} {vs : List DecL} (h : firstR s = .ok (nm, vs)) : nameOK nm = true ∧ (∀ d ∈ vs, DecLOK d ∧ decC d = 0) ∧ 1 ≤ vs.length ∧ vs.length ≤ 64 := by
  unfold firstR at h
  split at h
  · cases h
  · rename_i hnm
    split at h
    · cases h
    · split at h
      · rename_i vs' hv
        cases h
        obtain ⟨h1, h2, h3⟩ := readVals_ok _ _ _ _ hv (fun d hd => by cases hd) (by simp)
        have := List.length_pos_iff.2 (splitL_ne 58 (restN 58 s))
        simp only [List.length_nil, Nat.zero_add] at h3
        exact ⟨by simpa using hnm, h1, by omega, h2⟩
      · cases h
theorem firstR_err {s : List UInt8} {e a : Int} (h : firstR s = .error (e, a)) : e ≠ 0 ∧ 0 ≤ a ∧ a ≤ s.length := by
  unfold firstR at h
  split at h
  · cases h; exact ⟨by decide, by omega, by omega⟩
  · split at h
    · cases h; exact ⟨by decide, by omega, by omega⟩
    · rename_i hin
      split at h
      · cases h
      · rename_i b hv
        cases h
        have h1 := readVals_err _ _ _ _ hv
        have h2 := splitL_sum 58 (restN 58 s)
        have hin' : (58 : UInt8) ∈ s := Classical.byContradiction hin
        have h3 : (restN 58 s).length = s.length - ((seg 58 s).length + 1) := by unfold restN; rw [if_pos hin', List.length_drop]
        have h4 := seg_lt hin'
        exact ⟨by decide, by omega, by omega⟩
theorem linesR_ok (s : List UInt8) (ps : List (List UInt8)) (hsum : sumL ps = s.length + 1) : (∀ m, linesR s ps = .ok m → InvM m) ∧ (∀ e a, linesR s ps = .error (e, a) → e ≠ 0 ∧ 0 ≤ a ∧ a ≤ s.length) := by
  cases ps with
  | nil => exact ⟨fun m h => (by cases h), fun e a h => by cases h; exact ⟨by decide, by omega, by omega⟩⟩
  | cons p r =>
    simp only [sumL, List.map_cons, List.sum_cons] at hsum
    rw [linesR]
    cases hf : firstR p with
    | error x =>
      obtain ⟨e, a⟩ := x
      refine ⟨fun m h => (by cases h), fun e a h => ?_⟩
      cases h
      have := firstR_err hf
      exact ⟨this.1, this.2.1, by omega⟩
    | ok x =>
      obtain ⟨nm, vs⟩ := x
      obtain ⟨h1, h2, h3, h4⟩ := firstR_ok hf
      dsimp only
      cases r with
      | nil =>
        rw [secondR]
        exact ⟨fun m h => (by cases h), fun e a h => by cases h; exact ⟨by decide, by omega, by omega⟩⟩
      | cons q r =>
        simp only [List.map_cons, List.sum_cons] at hsum
        rw [secondR]
        by_cases h0 : kindR q = 0
        · rw [if_pos h0]
          exact ⟨fun m h => (by cases h), fun e a h => by cases h; exact ⟨by decide, by omega, by omega⟩⟩
        · rw [if_neg h0]
          have inv : InvM (nm, kindR q, vs, 1000000, [], 0, ()) := ⟨h1, kindR_ok h0, ⟨h2, h3, h4⟩, by
            unfold rateB; simp, ⟨fun t ht => (by cases ht), by simp, List.Pairwise.nil⟩, (show timeB 0 = true by decide)⟩
          obtain ⟨g1, g2⟩ := restR_ok r ((p.length : Int) + 1 + (q.length + 1)) _ 0 inv
          refine ⟨g1, fun e a h => ?_⟩
          have := g2 e a h
          simp only [sumL] at this
          omega
theorem parseD_cases (s : List UInt8) : ((parseD s).2.1 = (0, 0, ()) ∧ InvM (parseD s).1) ∨ (∃ e a, e ≠ 0 ∧ 0 ≤ a ∧ a ≤ (s.length : Int) ∧ parseD s = badP e a) := by
  unfold parseD
  split
  · exact Or.inr ⟨12, 0, by decide, by omega, by omega, rfl⟩
  · obtain ⟨h1, h2⟩ := linesR_ok s (splitL 124 s) (splitL_sum 124 s)
    cases hl : linesR s (splitL 124 s) with
    | ok m => exact Or.inl ⟨rfl, h1 m hl⟩
    | error x =>
      obtain ⟨e, a⟩ := x
      obtain ⟨g1, g2, g3⟩ := h2 e a hl
      exact Or.inr ⟨e, a, g1, g2, g3, rfl⟩
end Go.AM
set_option linter.unusedVariables false
set_option linter.unusedSimpArgs false
namespace Go.AM
end Go.AM
set_option linter.unusedVariables false
set_option linter.unusedSimpArgs false
namespace Go.AM
def sdM (s : List UInt8) : MetR := (sdParse s).getD (badM 11 0)
theorem sdM_eq (s : List UInt8) : sdParse s = some (sdM s) := by
  unfold sdM
  rcases sd_cases s with ⟨c, a, h, _⟩ | ⟨_, _, _, _, _, _, _, _, _, _, _, _, _, h⟩ <;> rw [h] <;> rfl
def fmtB (f : Int) : Bool := decide (1 ≤ f) && decide (f ≤ 3)
def parseT (s : List UInt8) (f : Int) : MetR :=
  if fmtB f = false then badM 29 0 else if 8192 < s.length then badM 12 0 else if f = 1 then sdM s else if f = 2 then parseD s else grParse s
theorem fmt_three {f : Int} (h : fmtB f = true) : f = 1 ∨ f = 2 ∨ f = 3 := by
  unfold fmtB at h
  simp only [Bool.and_eq_true, decide_eq_true_eq] at h
  omega
theorem textParse_eq (n : Nat) (hn : 200000 ≤ n) (s : List UInt8) (hs : s.length ≤ 1000000000) (f : Int) : F.text_Parse n s f = some (parseT s f) := by
  unfold F.text_Parse parseT
  have hd : decide ((s.length : Int) > 8192) = decide (8192 < s.length) := decide_eq_decide.2 (by omega)
  rw [hd]
  cases hf : fmtB f
  · have h1 : f ≠ 1 := fun e => by rw [e] at hf; cases hf
    have h2 : f ≠ 2 := fun e => by rw [e] at hf; cases hf
    have h3 : f ≠ 3 := fun e => by rw [e] at hf; cases hf
    rw [beq_eq_false_iff_ne.2 h1, beq_eq_false_iff_ne.2 h2, beq_eq_false_iff_ne.2 h3, if_pos rfl]
    rfl
  · rw [if_neg (by simp)]
    by_cases hl : 8192 < s.length
    · rw [decide_eq_true hl, if_pos hl]
      rcases fmt_three hf with rfl | rfl | rfl <;> rfl
    · rw [decide_eq_false hl, if_neg hl]
      rcases fmt_three hf with rfl | rfl | rfl
      · rw [beq_self_eq_true, cond_true, cond_false, sdParse_eq n hn s (by omega), sdM_eq, if_pos rfl]
        rfl
      · rw [show ((2 : Int) == 1) = false from rfl, cond_false, beq_self_eq_true, cond_true, cond_false, parse_eq n hn s (by omega), if_neg (by decide), if_pos rfl]
        rfl
      · rw [show ((3 : Int) == 1) = false from rfl, show ((3 : Int) == 2) = false from rfl, cond_false, cond_false, beq_self_eq_true, cond_true, cond_false, grParse_eq n hn s (by omega), if_neg (by decide), if_neg (by decide)]
        rfl
theorem parseT_cases (s : List UInt8) (f : Int) : ((parseT s f).2.1 = (0, 0, ()) ∧ (parseT s f).1.2.2.1.length ≤ 64 ∧ (parseT s f).1.2.2.2.2.1.length ≤ 32) ∨ (∃ c a, c ≠ 0 ∧ 0 ≤ a ∧ a ≤ (s.length : Int) ∧ parseT s f = badM c a) := by
  unfold parseT
  split
  · exact Or.inr ⟨29, 0, by decide, by omega, by omega, rfl⟩
  · split
    · exact Or.inr ⟨12, 0, by decide, by omega, by omega, rfl⟩
    · split
      · rcases sd_cases s with ⟨c, a, h, h1, h2, h3⟩ | ⟨_, _, _, _, _, _, _, _, _, _, _, _, _, h⟩
        · rw [sdM_eq] at h
          exact Or.inr ⟨c, a, h1, h2, h3, Option.some.inj h⟩
        · rw [sdM_eq] at h
          rw [Option.some.inj h]
          exact Or.inl ⟨rfl, (show (1 : Nat) ≤ 64 by omega), (show (0 : Nat) ≤ 32 by omega)⟩
      · split
        · rcases parseD_cases s with ⟨h, hI⟩ | ⟨e, a, h1, h2, h3, h⟩
          · exact Or.inl ⟨h, hI.vs.2.2, hI.tg.2.1⟩
          · exact Or.inr ⟨e, a, h1, h2, h3, h⟩
        · rcases gr_cases s with ⟨c, a, h, h1, h2, h3⟩ | ⟨_, _, _, _, _, _, _, _, _, _, _, h⟩
          · exact Or.inr ⟨c, a, h1, h2, h3, h⟩
          · rw [h]
            exact Or.inl ⟨rfl, (show (1 : Nat) ≤ 64 by omega), (show (0 : Nat) ≤ 32 by omega)⟩
end Go.AM
set_option linter.unusedVariables false
set_option linter.unusedSimpArgs false
namespace Go.AM
abbrev MetL := List UInt8 × Int × List DecL × Int × List TagL × Int
def toL (m : MetD) : MetL := (m.1, m.2.1, m.2.2.1, m.2.2.2.1, m.2.2.2.2.1, m.2.2.2.2.2.1)
theorem growM {X : Type} {v : List MetL} (h : v.length ≤ 100000) (y : Option X) : (bif decide ((v.length + 1) * 88 ≤ 2 ^ 46) && decide (0 < 88 ∧ 88 ≤ 2 ^ 20) then y else none) = y := by
  rw [decide_eq_true (by omega)]; rfl
def opM (m : MetL) : MetD := (m.1, m.2.1, m.2.2.1, m.2.2.2.1, m.2.2.2.2.1, m.2.2.2.2.2, ())
def BatOK (l : List MetL) : Prop := ∀ m ∈ l, MetOK (opM m)
def RightB (l : List MetL) : Prop := l.length ≤ 1000 ∧ ∀ m ∈ l, RightM (opM m) ∧ StrictT m.2.2.2.2.1
theorem RightB.ok {l : List MetL} (h : RightB l) : BatOK l := fun m hm => (h.2 m hm).1.ok
end Go.AM
set_option linter.unusedVariables false
set_option linter.unusedSimpArgs false
namespace Go.AM
abbrev DecT := List MetL × (Int × Int × Unit) × Unit
def decF (f : Int) : List (List UInt8) → List MetL → Int → Except (Int × Int) (List MetL)
  | [], out, _ => .ok out
  | [t], out, at_ => if t = [] then .ok out else if out.length = 1000 then .error (12, at_) else .error (30, at_)
  | p :: q :: r, out, at_ => if out.length = 1000 then .error (12, at_) else if (parseT p f).2.1.1 ≠ 0 then .error ((parseT p f).2.1.1, at_ + (parseT p f).2.1.2.1)
      else decF f (q :: r) (out ++ [toL (parseT p f).1]) (at_ + p.length + 1)
def outT : Except (Int × Int) (List MetL) → DecT
  | .ok l => (l, (0, 0, ()), ())
  | .error e => ([], (e.1, e.2, ()), ())
def decodeT (b : List UInt8) (f : Int) : DecT := if fmtB f = false then ([], (29, 0, ()), ()) else outT (decF f (splitL 10 b) [] 0)
theorem parseT_at (s : List UInt8) (f : Int) : (((parseT s f).2.1.1 == 0) && ((parseT s f).2.1.2.1 == 0)) = decide ((parseT s f).2.1.1 = 0) := by
  rcases parseT_cases s f with ⟨h, _⟩ | ⟨c, a, h1, _, _, h⟩
  · rw [h]; rfl
  · rw [h]
    have e : (badM c a).2.1.1 = c := rfl
    rw [e, decide_eq_false h1, beq_eq_false_iff_ne.2 h1]; rfl
theorem parseT_a (s : List UInt8) (f : Int) : 0 ≤ (parseT s f).2.1.2.1 ∧ (parseT s f).2.1.2.1 ≤ s.length := by
  rcases parseT_cases s f with ⟨h, _⟩ | ⟨c, a, h1, h2, h3, h⟩
  · rw [h]; exact ⟨by simp, by simp⟩
  · rw [h]; exact ⟨h2, h3⟩
theorem suffix_hit (n : Nat) {a : List UInt8} (ha : a.length ≤ 1000000000) : F.strings_CutSuffix n (a ++ [10]) [10] = some (a, true, ()) := by
  unfold F.strings_CutSuffix F.stringslite_CutSuffix F.stringslite_HasSuffix
  have hw : IntKind.wrap .i64 (((a ++ [(10 : UInt8)]).length : Int) - (([(10 : UInt8)] : List UInt8).length : Int)) = (a.length : Int) := by
    rw [wrap_in (by simp; omega)]; simp
  rw [bif_pos (by simp; omega), hw, sub_nat _ a.length _ (by simp) (by omega), List.take_length, List.drop_left, some_bind', some_bind', beq_self_eq_true, Bool.not_true, cond_false,
    show (0 : Int) = ((0 : Nat) : Int) from rfl, sub_nat _ 0 a.length (by omega) (by simp), List.take_left]
  rfl
theorem suffix_miss (n : Nat) {a : List UInt8} (ha : a.length ≤ 1000000000) (hne : a ≠ []) (h : (10 : UInt8) ∉ a) : F.strings_CutSuffix n a [10] = some (a, false, ()) := by
  unfold F.strings_CutSuffix F.stringslite_CutSuffix F.stringslite_HasSuffix
  have hp := List.length_pos_iff.2 hne
  have hw : IntKind.wrap .i64 ((a.length : Int) - (([(10 : UInt8)] : List UInt8).length : Int)) = ((a.length - 1 : Nat) : Int) := by
    rw [wrap_in (by simp; omega)]; simp; omega
  rw [bif_pos (by simp; omega), hw, sub_nat _ (a.length - 1) _ (by omega) (by omega), List.take_length, some_bind']
  have hd : (a.drop (a.length - 1) == [10]) = false := by
    rw [beq_eq_false_iff_ne]
    intro e
    exact h (List.mem_of_mem_drop (by rw [e]; simp))
  rw [hd]
  rfl
abbrev KD := Int → List MetL → Int → Int → List MetL → Int → List UInt8 → Nat → Nat → Option DecT
theorem dec_loop (n : Nat) (hn : 200000 ≤ n) (f : Int) (k0 kr : KD) (h0 : ∀ out a r k, k0 f [] 0 0 out a r 0 k = some (out, (0, 0, ()), ())) (hr : ∀ c a out a' r k, kr f [] c a out a' r 0 k = some ([], (c, a, ()), ())) :
    ∀ (m : Nat) (b : List UInt8) (out : List MetL) (a : Int), b.length < m → 0 ≤ a → a + b.length ≤ 100000000 → out.length ≤ 1000 →
    F.text_Decode.L0_strings_Lines_1 n k0 kr m f [] 0 0 out a b 0 out.length = some (outT (decF f (splitL 10 b) out a)) := by
  intro m
  induction m with
  | zero => intro b out a h; omega
  | succ m ih =>
    intro b out a hm ha hb ho
    rw [F.text_Decode.L0_strings_Lines_1]
    unfold F.text_Decode.L0_strings_Lines_1.step
    dsimp only
    by_cases hne : b = []
    · subst hne
      rw [bif_neg (by simp), h0]
      rfl
    have hp := List.length_pos_iff.2 hne
    have hi : F.strings_IndexByte n b 10 = some (Lib.indexByte b 10) := rfl
    have hk : ((out.length : Int) == 1000) = decide (out.length = 1000) := by
      by_cases h : out.length = 1000
      · rw [h]; rfl
      · rw [decide_eq_false h, beq_eq_false_iff_ne]; omega
    have hw0 : IntKind.wrap .i64 (a + 0) = a := by rw [Int.add_zero, wrap_in (by omega)]
    rw [bif_pos (by omega), hi, some_bind', seg_idx, splitL_seg]
    by_cases hin : (10 : UInt8) ∈ b
    · have hlt := seg_lt hin
      have hw1 : IntKind.wrap .i64 (((seg 10 b).length : Int) + 1) = (((seg 10 b).length + 1 : Nat) : Int) := wrap_succ (by omega)
      have hsp := seg_split hin
      have h10 : b[(seg 10 b).length]? = some 10 := by
        have := congrArg (fun l => l[(seg 10 b).length]?) hsp
        simpa using this
      have hx2 : sub b 0 (((seg 10 b).length + 1 : Nat) : Int) = some (seg 10 b ++ [10]) := by
        rw [show (0 : Int) = ((0 : Nat) : Int) from rfl, sub_nat b 0 _ (by omega) (by omega), List.drop_zero, List.take_add_one, seg_take, h10]
        rfl
      have hrn : restN 10 b = b.drop ((seg 10 b).length + 1) := by unfold restN; rw [if_pos hin]
      have hrl : (restN 10 b).length + ((seg 10 b).length + 1) = b.length := by rw [hrn, List.length_drop]; omega
      rw [if_pos hin, if_pos hin, bif_pos (by omega), hw1, hx2, some_bind', sub_nat b _ b.length (by omega) (by omega), List.take_length, ← hrn, some_bind', suffix_hit n (by omega), some_bind', hk]
      have hsne := splitL_ne 10 (restN 10 b)
      obtain ⟨q, r, hqr⟩ : ∃ q r, splitL 10 (restN 10 b) = q :: r := by
        cases hq : splitL 10 (restN 10 b) with
        | nil => exact absurd hq hsne
        | cons q r => exact ⟨q, r, rfl⟩
      rw [hqr, decF]
      have hwl : IntKind.wrap .i64 (a + (((seg 10 b) ++ [10]).length : Int)) = a + (seg 10 b).length + 1 := by
        rw [wrap_in (by simp; omega)]; simp; omega
      by_cases h1000 : out.length = 1000
      · rw [decide_eq_true h1000, cond_true, if_pos h1000]
        rw [Bool.false_and, Bool.not_false, cond_true, hw0, hr]
        rfl
      · rw [decide_eq_false h1000, cond_false, if_neg h1000]
        have hpa := parseT_a (seg 10 b) f
        dsimp only
        rw [Bool.not_true, cond_false, textParse_eq n hn _ (by omega), some_bind', parseT_at]
        by_cases hc : (parseT (seg 10 b) f).2.1.1 = 0
        · rw [decide_eq_true hc, Bool.not_true, cond_false, growM (by omega), Nat.beq_refl, cond_true, hwl, if_neg (fun h => h hc)]
          have := ih (restN 10 b) (out ++ [toL (parseT (seg 10 b) f).1]) (a + (seg 10 b).length + 1) (by omega) (by omega) (by omega) (by simp; omega)
          rw [hqr] at this
          exact this
        · rw [decide_eq_false hc, Bool.not_false, cond_true, if_pos hc, wrap_in (x := a + (parseT (seg 10 b) f).2.1.2.1) (by omega)]
          exact hr _ _ _ _ _ _
    · rw [if_neg hin, if_neg hin, bif_neg (by omega), suffix_miss n (by omega) hne hin, some_bind', hk, decF, if_neg hne]
      by_cases h1000 : out.length = 1000
      · rw [decide_eq_true h1000, cond_true, if_pos h1000]
        rw [Bool.false_and, Bool.not_false, cond_true, hw0, hr]
        rfl
      · rw [decide_eq_false h1000, cond_false, if_neg h1000]
        dsimp only
        rw [Bool.not_false, cond_true, Bool.false_and, Bool.not_false, cond_true, hw0, hr]
        rfl
theorem decode_big (n : Nat) (hn : 200000 ≤ n) (b : List UInt8) (hb : b.length ≤ 100000000) (hbn : b.length < n) (f : Int) : F.text_Decode n b f = some (decodeT b f) := by
  unfold F.text_Decode decodeT
  cases hf : fmtB f
  · have h1 : f ≠ 1 := fun e => by rw [e] at hf; cases hf
    have h2 : f ≠ 2 := fun e => by rw [e] at hf; cases hf
    have h3 : f ≠ 3 := fun e => by rw [e] at hf; cases hf
    rw [beq_eq_false_iff_ne.2 h1, beq_eq_false_iff_ne.2 h2, beq_eq_false_iff_ne.2 h3, if_pos rfl]
    rfl
  · rw [if_neg (by simp)]
    have L := dec_loop n hn f (fun e8_b0_0 e8_b1_0 e8_b2_0 e8_b2_1 e8_b5_0 e8_b6_0 e8_b7_0 e8_k0 e8_k1 => some ((e8_b5_0, ((0 : Int), (0 : Int), ()), ()))) (fun e9_b0_0 e9_b1_0 e9_b2_0 e9_b2_1 e9_b5_0 e9_b6_0 e9_b7_0 e9_k0 e9_k1 => some ((e9_b1_0, (e9_b2_0, e9_b2_1, ()), ()))) (fun _ _ _ _ => rfl) (fun _ _ _ _ _ _ => rfl) n b [] 0 (by omega) (by omega) (by omega) (by simp)
    rcases fmt_three hf with rfl | rfl | rfl
    · exact L
    · exact L
    · exact L
theorem decode_eq (n : Nat) (hn : 200000 ≤ n) (b : List UInt8) (hb : b.length ≤ 20000) (f : Int) : F.text_Decode n b f = some (decodeT b f) := decode_big n hn b (by omega) (by omega) f
end Go.AM
set_option linter.unusedVariables false
set_option linter.unusedSimpArgs false
namespace Go.AM
end Go.AM
set_option linter.unusedVariables false
set_option linter.unusedSimpArgs false
namespace Go.AM
end Go.AM
set_option linter.unusedVariables false
set_option linter.unusedSimpArgs false
namespace Go.AM
theorem growU {X : Type} {a b : Nat} (h : a + b ≤ 100000000) (y : Option X) : (bif decide ((a + b) * 1 ≤ 2 ^ 46) && decide (0 < 1 ∧ 1 ≤ 2 ^ 20) then y else none) = y := by
  rw [decide_eq_true (by omega)]; rfl
end Go.AM
set_option linter.unusedVariables false
set_option linter.unusedSimpArgs false
namespace Go.AM
theorem parse_said {s : List UInt8} (hs : s.length ≤ 10000) {name value word tail : List UInt8} {d : DecL} {r : Int} (h0 : s = name ++ 58 :: (value ++ 124 :: (word ++ tail))) (hn : nameOK name = true) (hp : parseR value = ((d.1, d.2.1, d.2.2, ()), (0, 0, ()), ())) (hk : ¬ kindOf word = 0) (hg : ¬ (kindOf word = 2 ∧ value.head? = some 45))
    (ht : tail = [] ∧ r = 1000000 ∨ ∃ rt, tail = 124 :: 64 :: rt ∧ (rateR rt).2.1.1 = 0 ∧ (rateR rt).1 = r ∧ (kindOf word = 2 → r = 1000000) ∧ (124 : UInt8) ∉ rt) :
    MetOK (name, kindOf word, [d], r, [], 0, ()) ∧ expM (name, kindOf word, [d], r, [], 0, ()) 1 = 0 ∧ chkM (name, kindOf word, [d], r, [], 0, ()) = 0 ∧ (lineS (name, kindOf word, [d], r, [], 0, ())).length ≤ s.length := by
  obtain ⟨neg, c, e, q1, q2, q3, q4⟩ := parse_ok (s := value) (by rw [hp])
  have hd : d = (neg, (c : Int), e) := by
    rw [hp] at q1
    have w1 : d.1 = neg := congrArg (fun r : ParseR => r.1.1) q1
    have w2 : d.2.1 = (c : Int) := congrArg (fun r : ParseR => r.1.2.1) q1
    have w3 : d.2.2 = e := congrArg (fun r : ParseR => r.1.2.2.1) q1
    exact Prod.ext w1 (Prod.ext w2 w3)
  subst hd
  obtain ⟨t1, t2⟩ := text_short q1
  obtain ⟨hw1, hw2, hw3, hw4⟩ := kind_cases hk
  have hrate : 1 ≤ r ∧ r ≤ 1000000 ∧ (kindOf word = 2 → r = 1000000) ∧ (rateL r).length ≤ tail.length := by
    rcases ht with ⟨h1, h2⟩ | ⟨rt, h1, h2, h3, h4, h5⟩
    · subst h1 h2
      exact ⟨by decide, by decide, fun _ => rfl, by decide⟩
    · obtain ⟨g1, g2, g3, g4, a, j, g5, g6, g7, g8⟩ := rate_ok h2
      rw [h3] at g2 g3 g6
      refine ⟨g2, g3, h4, ?_⟩
      unfold rateL
      by_cases hr : r = 1000000
      · rw [if_pos hr]; simp
      · rw [if_neg hr, h1, g5, g6]; simp
  obtain ⟨r1, r2, r3, r4⟩ := hrate
  have hlen := congrArg List.length h0
  simp at hlen
  have hd0 : decC (neg, (c : Int), e) = 0 := q4
  have hck : chkM (name, kindOf word, [(neg, (c : Int), e)], r, [], 0, ()) = 0 := by
    have e1 : kindB (kindOf word) = true := by unfold kindB; simp; omega
    have e2 : valsB [(neg, (c : Int), e)] = true := by unfold valsB; simp [hd0]
    have e3 : rateB (kindOf word) r = true := by
      unfold rateB
      simp only [Bool.and_eq_true, decide_eq_true_eq, Bool.or_eq_true, Bool.not_eq_true', beq_eq_false_iff_ne, beq_iff_eq]
      refine ⟨r1, r2, ?_⟩
      by_cases h : kindOf word = 2
      · exact Or.inr (r3 h)
      · exact Or.inl h
    unfold chkM
    simp only [hn, e1, e2, e3]
    rfl
  refine ⟨⟨?_, ⟨by simp, fun d' hd' => ?_⟩, by simp, fun t ht => by simp at ht⟩, ?_, hck, ?_⟩
  · show name.length ≤ 10000; omega
  · have : d' = (neg, (c : Int), e) := by simpa using hd'
    subst this
    rw [two64_eq] at q2
    refine ⟨trivial, ⟨?_, ?_⟩, q3.1, q3.2⟩
    · show (0 : Int) ≤ (c : Int); omega
    · show (c : Int) ≤ 18446744073709551615; omega
  · unfold expM
    rw [if_neg (by omega), if_pos hck]
    have : saysM (name, kindOf word, [(neg, (c : Int), e)], r, [], 0, ()) 1 = true := by
      unfold saysM
      rw [if_pos rfl]
      unfold saysS bareM negM
      have h5 : (kindOf word == 5) = false := by rw [beq_eq_false_iff_ne]; omega
      simp only [h5]
      by_cases h2 : kindOf word = 2
      · have : neg = false := by
          cases hh : neg
          · rfl
          · exact absurd ⟨h2, t2 hh⟩ hg
        rw [this]; simp
      · have : (kindOf word == 2) = false := by simpa using h2
        rw [this]; simp
    rw [this]; rfl
  · unfold lineS
    have : valL [(neg, (c : Int), e)] = textD neg c e := rfl
    simp only [this, ← hw1]
    simp
    omega
end Go.AM
set_option linter.unusedVariables false
set_option linter.unusedSimpArgs false
namespace Go.AM
theorem name_pos {s : List UInt8} (h : nameOK s = true) : 1 ≤ s.length := (nameOK_le h).1
structure ParsedT (s : List UInt8) (f : Int) : Prop where
  fm : fmtB f = true
  ok : (parseT s f).2.1 = (0, 0, ())
  inv : InvM (parseT s f).1
  can : expM (parseT s f).1 f = 0
  min : 3 ≤ s.length
  max : s.length ≤ 8192
theorem parseT_ok {s : List UInt8} {f : Int} (h : (parseT s f).2.1.1 = 0) : ParsedT s f := by
  have he : parseT s f = if fmtB f = false then badM 29 0 else if 8192 < s.length then badM 12 0 else if f = 1 then sdM s else if f = 2 then parseD s else grParse s := rfl
  rw [he] at h
  cases hf : fmtB f
  · rw [hf, if_pos rfl] at h; exact absurd h (by decide)
  rw [hf, if_neg (by simp)] at he h
  by_cases hl : 8192 < s.length
  · rw [if_pos hl] at h; exact absurd h (by decide)
  rw [if_neg hl] at he h
  have fin : ∀ {q : MetD × (Int × Int × Unit) × Unit}, parseT s f = q → q.2.1 = (0, 0, ()) → MetOK q.1 → chkM q.1 = 0 → StrictT q.1.2.2.2.2.1 → expM q.1 f = 0 → 3 ≤ s.length → ParsedT s f := fun e h1 h2 h3 h4 h5 h6 =>
    ⟨hf, by rw [e]; exact h1, by rw [e]; exact RightM.inv ⟨h2, h3⟩ h4, by rw [e]; exact h5, h6, by omega⟩
  rcases fmt_three hf with rfl | rfl | rfl
  · rw [if_pos rfl] at he h
    rcases sd_cases s with ⟨c, a, h1, h2, _⟩ | ⟨name, value, word, tail, d, r, h0, h1, _, h3, h4, h5, h6, h7⟩
    · rw [sdM_eq] at h1
      rw [Option.some.inj h1] at h
      exact absurd h h2
    · obtain ⟨q1, q2, q3, q4⟩ := parse_said (by omega) h0 h1 h3 h4 h5 h6
      rw [sdM_eq] at h7
      rw [Option.some.inj h7] at he
      refine fin he rfl q1 q3 List.Pairwise.nil q2 ?_
      have := name_pos h1
      rw [h0]
      simp only [List.length_append, List.length_cons]
      omega
  · rw [if_neg (by decide), if_pos rfl] at he h
    rcases parseD_cases s with ⟨h1, hI⟩ | ⟨e, a, h1, _, _, h2⟩
    · refine fin he h1 hI.right.ok hI.right.chk hI.tg.2.2 ?_ ?_
      · unfold expM
        rw [if_neg (by decide), if_pos hI.right.chk]
        rfl
      · have hI' := hI
        unfold parseD at h1
        rw [if_neg hl] at h1
        rw [splitL_seg] at h1
        by_cases h124 : (124 : UInt8) ∈ s
        · rw [if_pos h124, linesR] at h1
          have hlt := seg_lt h124
          cases hfr : firstR (seg 124 s) with
          | error e =>
            rw [hfr] at h1
            have := (firstR_err (e := e.1) (a := e.2) hfr).1
            exact absurd (congrArg (·.1) h1) this
          | ok x =>
            have := hfr
            unfold firstR at this
            split at this
            · cases this
            · rename_i hnm
              split at this
              · cases this
              · rename_i h58
                have h58 : (58 : UInt8) ∈ seg 124 s := Classical.byContradiction h58
                have l1 := seg_lt h58
                have := name_pos (show nameOK (seg 58 (seg 124 s)) = true by simpa using hnm)
                omega
        · rw [if_neg h124, linesR] at h1
          cases hfr : firstR s with
          | error e =>
            rw [hfr] at h1
            have := (firstR_err (e := e.1) (a := e.2) hfr).1
            exact absurd (congrArg (·.1) h1) this
          | ok x =>
            rw [hfr] at h1
            dsimp only at h1
            unfold secondR at h1
            exact absurd (congrArg (·.1) h1) (show ¬ ((11 : Int) = 0) by decide)
    · rw [h2] at h
      exact absurd h h1
  · rw [if_neg (by decide), if_neg (by decide)] at he h
    rcases gr_cases s with ⟨c, a, h1, h2, _⟩ | ⟨name, value, time, d, h0, h1, _, _, _, h5, h6, h7⟩
    · rw [h1] at h
      exact absurd h h2
    · obtain ⟨q1, q2, q3, q4⟩ := parseG_said (by omega) h0 h1 h5 h6
      rw [h7] at he
      refine fin he rfl q1 q3 List.Pairwise.nil q2 ?_
      have := name_pos h1
      rw [h0]
      simp only [List.length_append, List.length_cons]
      omega
end Go.AM
set_option linter.unusedVariables false
set_option linter.unusedSimpArgs false
namespace Go.AM
def c29 : Option MetR → Prop
  | some x => x.2.1.1 ≠ 29
  | none => True
theorem ite_c29 {p : Prop} [Decidable p] {a b : Option MetR} (ha : c29 a) (hb : c29 b) : c29 (if p then a else b) := by split <;> assumption
theorem sd_code (s : List UInt8) : (sdM s).2.1.1 ≠ 29 := by
  have h : c29 (sdParse s) := by
    unfold sdParse nameS valueS kindS rateS badK' finK
    repeat' apply ite_c29
    all_goals first | exact (show ¬ ((15 : Int) = 29) by decide) | exact (show ¬ ((11 : Int) = 29) by decide) | exact (show ¬ ((17 : Int) = 29) by decide) | exact (show ¬ ((16 : Int) = 29) by decide) | exact (show ¬ ((26 : Int) = 29) by decide) | exact (show ¬ ((18 : Int) = 29) by decide) | exact (show ¬ ((0 : Int) = 29) by decide)
  rw [sdM_eq] at h
  exact h
theorem gr_code (s : List UInt8) : (grParse s).2.1.1 ≠ 29 := by
  unfold grParse valueG timeS
  repeat' split
  all_goals first | exact (show ¬ ((15 : Int) = 29) by decide) | exact (show ¬ ((11 : Int) = 29) by decide) | exact (show ¬ ((17 : Int) = 29) by decide) | exact (show ¬ ((20 : Int) = 29) by decide) | exact (show ¬ ((0 : Int) = 29) by decide)
theorem moreR_code {m : MetD} {last : Int} {p : List UInt8} {e : Int} (hr : moreR m last p = .error e) : e ≠ 29 := by
  cases p with
  | nil => cases hr; decide
  | cons x s =>
    rw [moreR] at hr
    split at hr
    · split at hr
      · cases hr; decide
      · split at hr <;> cases hr; decide
    · split at hr
      · split at hr
        · cases hr; decide
        · split at hr
          · cases hr; decide
          · split at hr <;> cases hr; decide
      · split at hr
        · split at hr
          · cases hr; decide
          · split at hr <;> cases hr; decide
        · cases hr; decide
theorem restR_code : ∀ (r : List (List UInt8)) (a : Int) (m : MetD) (last : Int) (e b : Int), restR r a m last = .error (e, b) → e ≠ 29
  | [], a, m, last, e, b, h => by cases h
  | p :: r, a, m, last, e, b, h => by
    rw [restR] at h
    cases hm : moreR m last p with
    | error e' => rw [hm] at h; cases h; exact moreR_code hm
    | ok q => rw [hm] at h; exact restR_code r _ q.1 q.2 e b h
theorem parseD_code (s : List UInt8) : (parseD s).2.1.1 ≠ 29 := by
  unfold parseD
  split
  · exact (show ¬ ((12 : Int) = 29) by decide)
  · cases hl : linesR s (splitL 124 s) with
    | ok m => exact (show ¬ ((0 : Int) = 29) by decide)
    | error e =>
      obtain ⟨e, a⟩ := e
      show e ≠ 29
      cases hp : splitL 124 s with
      | nil => rw [hp] at hl; cases hl; decide
      | cons p r =>
        rw [hp, linesR] at hl
        cases hf : firstR p with
        | error q =>
          rw [hf] at hl
          cases hl
          unfold firstR at hf
          split at hf
          · cases hf; decide
          · split at hf
            · cases hf; decide
            · split at hf <;> cases hf
              decide
        | ok x =>
          rw [hf] at hl
          dsimp only at hl
          unfold secondR at hl
          split at hl
          · cases hl; decide
          · split at hl
            · cases hl; decide
            · exact restR_code _ _ _ _ _ _ hl
theorem parseT_code {s : List UInt8} {f : Int} (hf : fmtB f = true) : (parseT s f).2.1.1 ≠ 29 := by
  unfold parseT
  rw [if_neg (by simp [hf])]
  split
  · exact (show ¬ ((12 : Int) = 29) by decide)
  · split
    · exact sd_code s
    · split
      · exact parseD_code s
      · exact gr_code s
def appS : List (List UInt8) → List (List UInt8) → List (List UInt8)
  | [], B => B
  | [x], B => match B with
    | [] => [x]
    | q :: r => (x ++ q) :: r
  | x :: y :: l, B => x :: appS (y :: l) B
theorem splitL_append (c : UInt8) : ∀ a b : List UInt8, splitL c (a ++ b) = appS (splitL c a) (splitL c b)
  | [], b => by
    have := splitL_ne c b
    rw [List.nil_append, show splitL c [] = [[]] from rfl]
    cases h : splitL c b with
    | nil => exact absurd h this
    | cons q r => rfl
  | x :: a, b => by
    have ih := splitL_append c a b
    have ha := splitL_ne c a
    have hb := splitL_ne c b
    rw [List.cons_append]
    by_cases hx : x = c
    · rw [splitL, if_pos hx, splitL, if_pos hx, ih]
      cases h : splitL c a with
      | nil => exact absurd h ha
      | cons q r => rfl
    · rw [splitL, if_neg hx, splitL, if_neg hx, ih]
      cases h : splitL c a with
      | nil => exact absurd h ha
      | cons q r =>
        cases r with
        | nil =>
          cases h2 : splitL c b with
          | nil => exact absurd h2 hb
          | cons u v => rfl
        | cons r1 r2 => rfl
theorem appS_ne {p : List UInt8} {r B : List (List UInt8)} (h : B ≠ []) : appS (p :: r) B ≠ [] := by
  cases r with
  | nil =>
    cases B with
    | nil => exact absurd rfl h
    | cons q s => exact List.cons_ne_nil _ _
  | cons q s => exact List.cons_ne_nil _ _
theorem decF_cons {p : List UInt8} {r : List (List UInt8)} (h : r ≠ []) (f : Int) (out : List MetL) (a : Int) : decF f (p :: r) out a =
    if out.length = 1000 then .error (12, a) else if (parseT p f).2.1.1 ≠ 0 then .error ((parseT p f).2.1.1, a + (parseT p f).2.1.2.1) else decF f r (out ++ [toL (parseT p f).1]) (a + p.length + 1) := by
  cases r with
  | nil => exact absurd rfl h
  | cons q r => rfl
theorem sumL_cons (p : List UInt8) (r : List (List UInt8)) : sumL (p :: r) = p.length + 1 + sumL r := by simp [sumL]
theorem decF_ok (f : Int) : ∀ (ps : List (List UInt8)) (out : List MetL) (a : Int) (l : List MetL), decF f ps out a = .ok l →
    ∃ ms, l = out ++ ms ∧ (∀ m ∈ ms, InvM (opM m) ∧ expM (opM m) f = 0) ∧ 4 * ms.length ≤ sumL ps ∧ (out.length ≤ 1000 → l.length ≤ 1000) ∧ ∀ B, B ≠ [] → ps ≠ [] → decF f (appS ps B) out a = decF f B l (a + sumL ps - 1)
  | [], out, a, l, h => by cases h; exact ⟨[], by simp, fun m hm => (by cases hm), by simp, id, fun B hB hp => absurd rfl hp⟩
  | [t], out, a, l, h => by
    rw [decF] at h
    split at h
    · rename_i ht
      cases h
      refine ⟨[], by simp, fun m hm => (by cases hm), by simp, id, fun B hB _ => ?_⟩
      subst ht
      cases B with
      | nil => exact absurd rfl hB
      | cons q r =>
        show decF f (([] ++ q) :: r) out a = _
        rw [List.nil_append, show a + (sumL [([] : List UInt8)] : Int) - 1 = a by show a + ((1 : Nat) : Int) - 1 = a; omega]
    · split at h <;> cases h
  | p :: q :: r, out, a, l, h => by
    rw [decF] at h
    split at h
    · cases h
    · rename_i h1
      split at h
      · cases h
      · rename_i hc
        have hc : (parseT p f).2.1.1 = 0 := Classical.byContradiction hc
        have hP := parseT_ok hc
        obtain ⟨ms, e1, e2, e3, e4, e5⟩ := decF_ok f (q :: r) _ _ l h
        refine ⟨toL (parseT p f).1 :: ms, by rw [e1]; simp, fun m hm => ?_, ?_, fun ho => e4 (by simp; omega), fun B hB _ => ?_⟩
        · rcases List.mem_cons.1 hm with rfl | hm
          · exact ⟨hP.inv, hP.can⟩
          · exact e2 m hm
        · rw [sumL_cons]
          have := hP.min
          simp only [List.length_cons]
          omega
        · show decF f (p :: appS (q :: r) B) out a = _
          rw [decF_cons (appS_ne hB), if_neg h1, if_neg (fun hh => hh hc), e5 B hB (by simp), sumL_cons p (q :: r)]
          congr 1
          omega
theorem decF_err (f : Int) : ∀ (ps : List (List UInt8)) (out : List MetL) (a c e : Int), decF f ps out a = .error (c, e) →
    c ≠ 0 ∧ a ≤ e ∧ e < a + sumL ps ∧ (fmtB f = true → c ≠ 29) ∧ (c ≠ 30 → ∀ B, B ≠ [] → decF f (appS ps B) out a = .error (c, e))
  | [], out, a, c, e, h => by cases h
  | [t], out, a, c, e, h => by
    rw [decF] at h
    split at h
    · cases h
    · rename_i ht
      split at h
      · rename_i h1
        cases h
        refine ⟨by decide, by omega, by simp [sumL]; omega, fun _ => by decide, fun _ B hB => ?_⟩
        cases B with
        | nil => exact absurd rfl hB
        | cons q r =>
          show decF f ((t ++ q) :: r) out a = _
          cases r with
          | nil => rw [decF, if_neg (by simp [ht]), if_pos h1]
          | cons r1 r2 => rw [decF, if_pos h1]
      · cases h
        exact ⟨by decide, by omega, by simp [sumL]; omega, fun _ => by decide, fun hh => absurd rfl hh⟩
  | p :: q :: r, out, a, c, e, h => by
    rw [decF] at h
    split at h
    · rename_i h1
      cases h
      exact ⟨by decide, by omega, by rw [sumL_cons]; omega, fun _ => by decide, fun _ B hB => by show decF f (p :: appS (q :: r) B) out a = _; rw [decF_cons (appS_ne hB), if_pos h1]⟩
    · rename_i h1
      split at h
      · rename_i hc
        have := parseT_a p f
        cases h
        exact ⟨hc, by omega, by rw [sumL_cons]; omega, fun hf => parseT_code hf, fun _ B hB => by show decF f (p :: appS (q :: r) B) out a = _; rw [decF_cons (appS_ne hB), if_neg h1, if_pos hc]⟩
      · rename_i hc
        obtain ⟨e1, e2, e3, e4, e5⟩ := decF_err f (q :: r) _ _ c e h
        refine ⟨e1, by omega, by rw [sumL_cons]; omega, e4, fun hh B hB => ?_⟩
        show decF f (p :: appS (q :: r) B) out a = _
        rw [decF_cons (appS_ne hB), if_neg h1, if_neg hc, e5 hh B hB]
theorem decF_shift (f : Int) (pre : List MetL) (s : Int) : ∀ (ps : List (List UInt8)) (o : List MetL) (a : Int), 4 * (pre.length + o.length) + sumL ps ≤ 3999 →
    decF f ps (pre ++ o) (s + a) = match decF f ps o a with
      | .ok l => .ok (pre ++ l)
      | .error e => .error (e.1, s + e.2)
  | [], o, a, h => rfl
  | [t], o, a, h => by
    have h1 : sumL [t] = t.length + 1 := by simp [sumL]
    rw [decF, decF]
    by_cases ht : t = []
    · rw [if_pos ht, if_pos ht]
    · rw [if_neg ht, if_neg ht, if_neg (by simp; omega), if_neg (by omega)]
  | p :: q :: r, o, a, h => by
    rw [sumL_cons] at h
    have e1 := decF_cons (p := p) (r := q :: r) (by simp) f (pre ++ o) (s + a)
    have e2 := decF_cons (p := p) (r := q :: r) (by simp) f o a
    rw [if_neg (by simp; omega)] at e1
    rw [if_neg (by omega)] at e2
    rw [e1, e2]
    by_cases hc : (parseT p f).2.1.1 = 0
    · have hP := parseT_ok hc
      have := hP.min
      rw [if_neg (fun hh => hh hc), if_neg (fun hh => hh hc), List.append_assoc, show s + a + (p.length : Int) + 1 = s + (a + p.length + 1) by omega]
      exact decF_shift f pre s (q :: r) (o ++ [toL (parseT p f).1]) _ (by simp; omega)
    · rw [if_pos hc, if_pos hc]
      show _ = Except.error _
      rw [Int.add_assoc]
end Go.AM
set_option linter.unusedVariables false
set_option linter.unusedSimpArgs false
namespace Go.AM
def SmallB (l : List MetL) : Prop := l.length ≤ 2000 ∧ ∀ x ∈ l, x.2.2.1.length ≤ 1000 ∧ x.2.2.2.2.1.length ≤ 1000
theorem equal_loop (n : Nat) (hn : 200000 ≤ n) (k0 : Unit → Option Bool) (kr : Bool → Option Bool) (l : List MetL) (h : SmallB l) : ∀ (r : List MetL) (i m : Nat), l.drop i = r → r.length < m → F.batch_Equal.L4_slices_EqualFunc_api_Metric_api_Metric_api_Metric_api_Metric n k0 kr m l l (l.length : Int) (i : Int) = k0 () := by
  have hl := h.1
  intro r
  induction r with
  | nil =>
    intro i m hi hm
    have := drop_nil' hi
    obtain ⟨m, rfl⟩ : ∃ q, m = q + 1 := ⟨m - 1, by omega⟩
    rw [F.batch_Equal.L4_slices_EqualFunc_api_Metric_api_Metric_api_Metric_api_Metric]
    unfold F.batch_Equal.L4_slices_EqualFunc_api_Metric_api_Metric_api_Metric_api_Metric.step
    dsimp only
    rw [bif_neg (by omega)]
  | cons x r ih =>
    intro i m hi hm
    obtain ⟨g1, g2, g3⟩ := drop_cons hi
    obtain ⟨m, rfl⟩ : ∃ q, m = q + 1 := ⟨m - 1, by omega⟩
    obtain ⟨x1, x2⟩ := h.2 x (List.mem_of_getElem? g2)
    have hN : F.metric_Equal n (x.1, x.2.1, x.2.2.1, x.2.2.2.1, x.2.2.2.2.1, x.2.2.2.2.2, ()) (x.1, x.2.1, x.2.2.1, x.2.2.2.1, x.2.2.2.2.1, x.2.2.2.2.2, ()) = some true := by
      have := equal_eq n hn (opM x) (opM x) (show x.2.2.1.length ≤ 10000 by omega) (show x.2.2.2.2.1.length ≤ 10000 by omega)
      rw [eqM_pos rfl] at this
      exact this
    rw [F.batch_Equal.L4_slices_EqualFunc_api_Metric_api_Metric_api_Metric_api_Metric]
    unfold F.batch_Equal.L4_slices_EqualFunc_api_Metric_api_Metric_api_Metric_api_Metric.step
    dsimp only
    rw [bif_pos (by omega), idx_nat, g2, some_bind', some_bind', hN, some_bind', Bool.not_true, cond_false, wrap_succ (by omega), ih (i + 1) m g3 (by simp at hm; omega)]
theorem batEqual_refl (n : Nat) (hn : 200000 ≤ n) {l : List MetL} (h : SmallB l) : F.batch_Equal n l l = some true := by
  unfold F.batch_Equal
  rw [beq_self_eq_true, Bool.not_true, cond_false]
  exact equal_loop n hn _ _ l h l 0 n rfl (by have := h.1; omega)
theorem inv_small {l : List MetL} (hl : l.length ≤ 2000) (h : ∀ m ∈ l, InvM (opM m)) : SmallB l := ⟨hl, fun x hx => ⟨by have : x.2.2.1.length ≤ 64 := (h x hx).vs.2.2; omega, by have : x.2.2.2.2.1.length ≤ 32 := (h x hx).tg.2.1; omega⟩⟩
theorem outT_err (c e : Int) : outT (.error (c, e)) = ([], (c, e, ()), ()) := rfl
theorem outT_ok (l : List MetL) : outT (.ok l) = (l, (0, 0, ()), ()) := rfl
theorem text_behind (n : Nat) (hn : 200000 ≤ n) (hA : F.law13_awake n = some true) (a b : List UInt8) (f : Int) : F.law13_TextBehind n (a, b, ()) f = some true := by
  unfold F.law13_TextBehind
  dsimp only
  rw [hA]
  by_cases ha : 1500 < a.length
  · rw [bif_pos (by omega)]; rfl
  rw [bif_neg (by omega)]
  by_cases hb : 1500 < b.length
  · rw [bif_pos (by omega)]; rfl
  rw [bif_neg (by omega), List.nil_append, decode_eq n hn a (by omega), decode_eq n hn b (by omega), decode_eq n hn (a ++ b) (by simp; omega), some_bind', some_bind', growU (by omega), growU (by omega), Nat.beq_refl, cond_true]
  simp only [some_bind']
  cases hf : fmtB f
  · have : ∀ x, decodeT x f = ([], (29, 0, ()), ()) := fun x => by unfold decodeT; rw [if_pos hf]
    rw [this, this, this]
    rfl
  have hD : ∀ x, decodeT x f = outT (decF f (splitL 10 x) [] 0) := fun x => by unfold decodeT; rw [if_neg (by simp [hf])]
  rw [hD, hD, hD, splitL_append]
  have sa := splitL_sum 10 a
  have sb := splitL_sum 10 b
  have nb := splitL_ne 10 b
  have na := splitL_ne 10 a
  generalize splitL 10 a = pa at sa na ⊢
  generalize splitL 10 b = pb at sb nb ⊢
  cases hA1 : decF f pa [] 0 with
  | error q =>
    obtain ⟨c, e⟩ := q
    obtain ⟨c0, e0, e1, c29', hC⟩ := decF_err f pa [] 0 c e hA1
    rw [outT_err]
    dsimp only
    by_cases h30 : c = 30
    · rw [h30, beq_self_eq_true, cond_true]; rfl
    · rw [hC h30 pb nb, outT_err]
      dsimp only
      rw [beq_eq_false_iff_ne.2 h30, cond_false, beq_eq_false_iff_ne.2 (c29' hf), cond_false, beq_eq_false_iff_ne.2 c0, Bool.false_and, Bool.not_false, cond_true, beq_self_eq_true, beq_self_eq_true]
      rfl
  | ok l =>
    obtain ⟨ms, e1, e2, e3, e4, e5⟩ := decF_ok f pa [] 0 l hA1
    rw [List.nil_append] at e1
    subst e1
    rw [outT_ok, e5 pb nb na, show (0 : Int) + (sumL pa : Int) - 1 = (a.length : Int) + 0 by omega]
    have hS := decF_shift f l a.length pb [] 0 (by simp; omega)
    rw [List.append_nil] at hS
    rw [hS]
    dsimp only
    rw [show ((0 : Int) == 30) = false from rfl, show ((0 : Int) == 29) = false from rfl, cond_false, cond_false, beq_self_eq_true, Bool.true_and, Bool.not_true, cond_false]
    cases hB : decF f pb [] 0 with
    | error q =>
      obtain ⟨c, e⟩ := q
      obtain ⟨c0, e0, e1, -, -⟩ := decF_err f pb [] 0 c e hB
      dsimp only
      rw [outT_err, outT_err]
      dsimp only
      rw [beq_eq_false_iff_ne.2 c0, Bool.false_and, Bool.not_false, cond_true, wrap_in (by omega), beq_self_eq_true, show ((a.length : Int) + e == e + (a.length : Int)) = true by rw [beq_iff_eq]; omega]
      rfl
    | ok l2 =>
      obtain ⟨ms, f1, f2, f3, f4, -⟩ := decF_ok f pb [] 0 l2 hB
      rw [List.nil_append] at f1
      subst f1
      dsimp only
      rw [outT_ok, outT_ok]
      dsimp only
      have hE : F.batch_Equal n (l ++ l2) (l ++ l2) = some true := batEqual_refl n hn (inv_small (by simp; omega) fun m hm => by
        rcases List.mem_append.1 hm with hm | hm
        · exact (e2 m hm).1
        · exact (f2 m hm).1)
      have g1 : ∀ {X : Type} {p q : Nat} (h : p + q ≤ 10000) (y : Option X), (bif decide ((p + q) * 88 ≤ 2 ^ 46) && decide (0 < 88 ∧ 88 ≤ 2 ^ 20) then y else none) = y := fun h y => by rw [decide_eq_true (by omega)]; rfl
      rw [beq_self_eq_true, Bool.true_and, Bool.not_true, cond_false, cond_true, g1 (by omega), g1 (by simp; omega), Nat.beq_refl, cond_true, List.nil_append, hE]
      rfl
theorem awake13M : F.law13_awake 10000000 = some true := by kernel_rfl
end Go.AM
namespace Go.Proofs.YtonhplejlfnkoaaGreatDoor.textBehind
open Go.ChangeShapes Go.WideShapes Go.ChangeAt Go.RowKit Go.AM
theorem j1 : laidOutB Tryz.prog = true := by kernel_rfl
theorem own : ownKnob Tryz.prog.godebug = none := by kernel_rfl
theorem goes : LawGoes Tryz.prog SI 6 [(.agg [(.sl .u8), (.sl .u8)]), (.int .i64)] := fun x hx w vals hI hr =>
  ok6 _ ((x.1.1, x.1.2, ()), x.2.1, ()) true (text_behind 10000000 (by omega) awake13M x.1.1 x.1.2 x.2.1) w (AllD w) vals (WOf.of hI) hr (fun b o h => h)
noncomputable def laidWorld (os : Os) : World := laidOf Tryz.prog os [layTab 4 Rows.laid_math_bits_deBruijn32tab, layTab 5 Rows.laid_math_bits_deBruijn64tab, layTab 1 Rows.laid_internal_strconv_uint64pow10, layTab 3 Rows.laid_unicode_utf8_acceptRanges, layErr 7 295 297 Rows.laid_strconv_ErrRange, layErr 6 295 297 Rows.laid_strconv_ErrSyntax, layTab 2 Rows.laid_unicode_utf8_first]
theorem laid_met (os : Os) (args : Array Value) : laidMet Tryz.prog Rows.textBehindRow.laid ((laidWorld os).forCall (fun _ _ => 0) ⟨#[], args, []⟩).memory :=
  (LaidIn.of_run [4, 5, 1, 3, 7, 6, 2, (World.holding Tryz.prog os ⟨#[], #[], []⟩).heap.size, (World.holding Tryz.prog os ⟨#[], #[], []⟩).heap.size + 1] 8 (by kernel_rfl) (by kernel_rfl) (by kernel_rfl) (by kernel_rfl)).met
theorem witness_row (os : Os) {H : Type} (enc : TypeId × Value → H) :
    (OpenSpec.ofChange Rows.textBehindSpec).preRow enc Tryz.prog Tryz.f6 Rows.textBehindRow.domain false Rows.textBehindRow.laid ((laidWorld os).forCall (fun _ _ => 0) ⟨#[], #[.agg #[.slice none 0 0, .slice none 0 0], .int .i64 0], []⟩).memory #[.agg #[.slice none 0 0, .slice none 0 0], .int .i64 0] := by
  have hw : (DataW.whole enc Tryz.prog ((laidWorld os).forCall (fun _ _ => 0) ⟨#[], #[.agg #[.slice none 0 0, .slice none 0 0], .int .i64 0], []⟩).memory Tryz.f6.params.toList Rows.textBehindSpec.vars false (#[.agg #[.slice none 0 0, .slice none 0 0], .int .i64 0] : Array Value).toList 8).map (fun x => (x.1, x.2.1)) =
      some ([.agg [.nil, .nil], .lit (.int .i64 0)], []) := by kernel_rfl
  obtain ⟨⟨x1, x2, x3⟩, hx, hx1⟩ := Option.map_eq_some_iff.1 hw
  simp only [Prod.mk.injEq] at hx1
  obtain ⟨rfl, rfl⟩ := hx1
  exact OpenSpec.preRow_of_cond 8 hx (by kernel_rfl) (fun k hk => by cases hk) (by kernel_rfl) (laid_met os _)
set_option maxRecDepth 100000 in
theorem lifted (os : Os) (started : os.Started) (H : Type) (enc : TypeId × Value → H) (F : Stop.Interp) :
    ReturnsInHanded {} Tryz.checked os 6 .any ((OpenSpec.ofChange Rows.textBehindSpec).preRow enc Tryz.prog Tryz.f6 Rows.textBehindRow.domain false Rows.textBehindRow.laid) (((OpenSpec.ofChange Rows.textBehindSpec).at F).post enc Tryz.prog Tryz.f6 false true false false) := by
  refine returnsInHanded_of_row (C := Tryz.checked) (s := OpenSpec.ofChange Rows.textBehindSpec) own started (by kernel_rfl) Tryz.func6
    (witness_row_atRef (enc := enc) (C := Tryz.checked) false (laidWorld os) #[.agg #[.slice none 0 0, .slice none 0 0], .int .i64 0] rfl (by kernel_rfl) (by kernel_rfl) (by kernel_rfl) (witness_row os enc)) ?_
  intro W base args ds gs before hval hW _ _ hw hL hO _
  exact law_calls (s := Rows.textBehindSpec) (n := 8) j1 Tryz.func6 (by kernel_rfl) (by decide) (by kernel_rfl) rfl Tryz.underlying4 rfl (fun ds h => by match ds, h with | [_, _], _ => rfl) goes hval hW hw ⟨hL, hO⟩
theorem j2 : mapsRowed Tryz.prog = true := by kernel_rfl
theorem j3 : (Rows.textBehindRow.inPlace == Tryz.prog.inPlace 6) = true := by kernel_rfl
theorem j4 : (Rows.textBehindRow.unfollowed == Tryz.prog.unfollowed 6) = true := by kernel_rfl
theorem j5 : (Rows.textBehindRow.recurses == Tryz.prog.recurses 6) = true := by kernel_rfl
theorem j6 : (Rows.textBehindRow.named == Tryz.prog.varsNamed 6) = true := by kernel_rfl
theorem joined : joinedFacts Tryz.prog 6 Tryz.f6 (OpenSpec.ofChange Rows.textBehindSpec).bare Rows.textBehindRow = true := by
  simp only [joinedFacts, Bool.and_eq_true]
  repeat' apply And.intro
  · kernel_rfl
  · exact j1
  · exact j2
  · kernel_rfl
  · kernel_rfl
  · kernel_rfl
  · kernel_rfl
  · kernel_rfl
  · kernel_rfl
  · exact j3
  · exact j4
  · exact j5
  · exact j6
  all_goals kernel_rfl
theorem said : Rows.TextBehindSaid :=
  OpenClaim.holds_of_cond 6 Tryz.f6 rfl rfl rfl rfl rfl rfl rfl ⟨rfl, rfl, rfl, rfl, rfl⟩ rfl rfl rfl rfl rfl (by kernel_rfl) Tryz.func6 joined
    (of_decide_eq_true (by kernel_rfl)) (by unfold Func.isWrapper; first | (rw [if_pos (by decide +kernel)]; kernel_rfl) | (rw [if_neg (by decide +kernel)]; exact ⟨rfl, rfl⟩))
    (fun os started H enc _ F => by rw [OpenClaim.pre_eq_preRow]; exact lifted os started H enc F)
theorem plain (f : FuncId) (fn : Func) (hf : Tryz.pinned.checked.prog.funcNamed "forebay/forebaylaw13.TextBehind" = some f) (hfn : Tryz.pinned.checked.prog.funcs[f]? = some fn) :
    true = Tryz.pinned.checked.prog.looks [] ∧ ∀ (j : Nat) t, fn.params[j]? = some t → Tryz.pinned.checked.prog.wantsStandIn t = false := by
  obtain rfl : f = 6 := Option.some.inj ((show Tryz.prog.funcNamed "forebay/forebaylaw13.TextBehind" = some 6 by kernel_rfl).symm.trans hf) |>.symm
  obtain rfl : fn = Tryz.f6 := (Option.some.inj (Tryz.func6.symm.trans hfn)).symm
  refine ⟨by kernel_rfl, fun j t ht => ?_⟩
  have hm : t ∈ ([49, 3] : List TypeId) := by
    rw [Tryz.params6] at ht
    have := Array.mem_of_getElem? ht
    simpa using this
  have all : ∀ x ∈ ([49, 3] : List TypeId), Tryz.prog.wantsStandIn x = false := fun x hx => by
    have h : ([49, 3] : List TypeId).all (fun x => Tryz.prog.wantsStandIn x == false) = true := by kernel_rfl
    simpa using List.all_eq_true.1 h x hx
  exact all t hm
theorem proved : Rows.TextBehindCardSaid :=
  Claim7.holds_tied_plain_at .later [] _ _ _ _ said (fun _ h => by cases h) (by kernel_rfl) (fun _ h => by cases h) textBehind_row_tie rfl ⟨rfl, rfl⟩ (by kernel_rfl) rfl plain (by kernel_rfl)
end Go.Proofs.YtonhplejlfnkoaaGreatDoor.textBehind
