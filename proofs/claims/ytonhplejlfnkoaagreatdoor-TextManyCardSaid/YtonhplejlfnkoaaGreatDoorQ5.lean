/- A text has up to 1000 lines, a line more is too many, where it begins, and a line of more than 8192 bytes is too long. -/
import Derived.Test.YtonhplejlfnkoaaGreatDoorQ4
import Derived.KernelRfl
import Derived.Test.YtonhplejlfnkoaaGreatDoorCards
import Derived.Test.YtonhplejlfnkoaaGreatDoorTie
import Derived.OpenShut
set_option linter.unusedVariables false
set_option linter.unusedSimpArgs false
namespace Go.AM
abbrev KRS (X : Type) := List UInt8 → List UInt8 → Int → List (Bool × Int × Int) → Int → List (List UInt8 × List UInt8) → Int → Int → Int → Option X
section
variable {X : Type} (n : Nat) (kr : KRS X)
def badK' (kr : KRS X) (s : List UInt8) (c a : Int) : Option X := kr s [] 0 [] 0 [] 0 c a
theorem c31_eq (c9 : Bool) (s : List UInt8) (b10 : List UInt8) (b11 : Int) (b12 : List (Bool × Int × Int)) (b13 : Int) (b14 : List (List UInt8 × List UInt8)) (b15 b20 b21 b3 : Int) (d0 : List UInt8) (d1 : Int) (d2 : List (Bool × Int × Int)) (d3 : Int) (d4 : List (List UInt8 × List UInt8)) (d5 : Int) (k0 k1 k2 k3 : Nat) :
    F.statsd_Parse.C31 n kr c9 s b10 b11 b12 b13 b14 b15 b20 b21 b3 d0 d1 d2 d3 d4 d5 k0 k1 k2 k3 = if c9 = true then badK' kr s 11 (IntKind.wrap .i64 (b3 - 1)) else kr s d0 d1 d2 d3 d4 d5 0 0 := by
  cases c9 <;> rfl
theorem c28_eq (hn : 100 ≤ n) (c9 : Bool) (kind : Int) (rate : List UInt8) (hr : rate.length ≤ 10000) (hl : rate.length < n) (at' : Int) (s : List UInt8) (b10 : List UInt8) (b11 : Int) (b12 : List (Bool × Int × Int)) (b13 : Int) (b14 : List (List UInt8 × List UInt8)) (b15 b20 b21 b3 : Int) (d0 : List UInt8) (d1 : Int) (d2 : List (Bool × Int × Int)) (d3 : Int) (d4 : List (List UInt8 × List UInt8)) (d5 : Int) (e0 : Bool) (e1 e2 f0 f1 : Int) (k0 k1 k2 k3 : Nat) :
    F.statsd_Parse.C28 n kr c9 kind rate at' s b10 b11 b12 b13 b14 b15 b20 b21 b3 d0 d1 d2 d3 d4 d5 e0 e1 e2 f0 f1 k0 k1 k2 k3 =
      if ¬ (rateR rate).2.1.1 = 0 ∨ (kind = 2 ∧ ¬ (rateR rate).1 = 1000000) then badK' kr s 18 at' else if c9 = true then badK' kr s 11 (IntKind.wrap .i64 (b3 - 1)) else kr s d0 d1 d2 (rateR rate).1 d4 d5 0 0 := by
  unfold F.statsd_Parse.C28
  rw [rate_num n hn rate (by omega) hl, some_bind']
  have c30 : ∀ (kn : Bool → List UInt8 → List UInt8 → Int → List (Bool × Int × Int) → Int → List (List UInt8 × List UInt8) → Int → Int → Int → Int → List UInt8 → Int → List (Bool × Int × Int) → Int → List (List UInt8 × List UInt8) → Int → Nat → Nat → Nat → Nat → Option X) (t : Bool) (r : Int), F.statsd_Parse.C30 n kr kn c9 at' t s b10 b11 b12 b13 b14 b15 b20 b21 b3 d0 d1 d2 r d4 d5 k0 k1 k2 k3 = if t = true then badK' kr s 18 at' else kn c9 s b10 b11 b12 b13 b14 b15 b20 b21 b3 d0 d1 d2 r d4 d5 k0 k1 k2 k3 := by
    intro kn t r
    cases t <;> rfl
  by_cases h0 : (rateR rate).2.1.1 = 0
  · have h1 := (rate_ok h0).1
    have e : (!((rateR rate).2.1.1 == 0 && (rateR rate).2.1.2.1 == 0)) = false := by rw [h0, h1]; rfl
    rw [e, cond_false]
    by_cases hk : kind = 2
    · have ek : (kind == 2) = true := by simp [hk]
      rw [ek, cond_true]
      refine (c30 _ _ _).trans ?_
      by_cases hr1 : (rateR rate).1 = 1000000
      · have e2 : (!((rateR rate).1 == 1000000)) = false := by simp [hr1]
        rw [e2, if_neg (by simp), if_neg (by simp [h0, hr1])]
        exact c31_eq n kr c9 s b10 b11 b12 b13 b14 b15 b20 b21 b3 d0 d1 d2 _ d4 d5 k0 k1 k2 k3
      · have e2 : (!((rateR rate).1 == 1000000)) = true := by simpa using hr1
        rw [e2, if_pos rfl, if_pos (Or.inr ⟨hk, hr1⟩)]
    · have ek : (kind == 2) = false := by simpa using hk
      rw [ek, cond_false]
      refine (c30 _ _ _).trans ?_
      rw [if_neg (by simp), if_neg (by simp [h0, hk])]
      exact c31_eq n kr c9 s b10 b11 b12 b13 b14 b15 b20 b21 b3 d0 d1 d2 _ d4 d5 k0 k1 k2 k3
  · have e : (!((rateR rate).2.1.1 == 0 && (rateR rate).2.1.2.1 == 0)) = true := by
      have : ((rateR rate).2.1.1 == 0) = false := by simpa using h0
      rw [this]; rfl
    rw [e, cond_true]
    refine (c30 _ _ _).trans ?_
    rw [if_pos rfl, if_pos (Or.inl h0)]
def rateS (kr : KRS X) (s name : List UInt8) (kind : Int) (v : List (Bool × Int × Int)) (r0 : Int) (tags : List (List UInt8 × List UInt8)) (time : Int) (is3 : Bool) (p : Nat) : Option X :=
  if is3 = false then kr s name kind v r0 tags time 0 0
  else if ¬ (s.drop p).head? = some 64 then badK' kr s 11 p
  else if ¬ (rateR (seg 124 (s.drop (p + 1)))).2.1.1 = 0 ∨ (kind = 2 ∧ ¬ (rateR (seg 124 (s.drop (p + 1)))).1 = 1000000) then badK' kr s 18 ((p + 1 : Nat) : Int)
  else if 124 ∈ s.drop (p + 1) then badK' kr s 11 ((p + 1 + (seg 124 (s.drop (p + 1))).length : Nat) : Int) else kr s name kind v (rateR (seg 124 (s.drop (p + 1)))).1 tags time 0 0
theorem c21_eq (hn : 20000 ≤ n) (name : List UInt8) (is3 : Bool) (kind : Int) (s : List UInt8) (hs : s.length ≤ 10000) (b10 : List UInt8) (b11 : Int) (b12 : List (Bool × Int × Int)) (b13 : Int) (b14 : List (List UInt8 × List UInt8)) (b15 b20 b21 : Int) (p : Nat) (hp : p ≤ s.length) (d0 : List UInt8) (d1 : Int) (d2 : List (Bool × Int × Int)) (d3 : Int) (d4 : List (List UInt8 × List UInt8)) (d5 : Int) (e0 : Bool) (e1 e2 f0 f1 : Int) (k0 k1 k2 k3 : Nat) :
    F.statsd_Parse.C21 n kr name is3 kind s b10 b11 b12 b13 b14 b15 b20 b21 (p : Int) d0 d1 d2 d3 d4 d5 e0 e1 e2 f0 f1 k0 k1 k2 k3 = rateS kr s name kind [(e0, e1, e2)] d3 d4 d5 is3 p := by
  unfold F.statsd_Parse.C21 rateS
  cases is3
  · rfl
  · rw [Bool.not_true, cond_false, if_neg (by simp), sub_tail hp, some_bind', hasPrefix_one, some_bind']
    by_cases h64 : (s.drop p).head? = some 64
    · have hlt := drop_lt h64
      have hsl := seg_le 124 (s.drop (p + 1))
      have hdl : (s.drop (p + 1)).length = s.length - (p + 1) := by simp
      rw [decide_eq_true h64, Bool.not_true, cond_false, if_neg (fun h => h h64), wrap_succ (by omega), sub_tail (by omega), some_bind', cut_eq n 124 (by omega), some_bind']
      have w1 : IntKind.wrap .i64 (((p + 1 : Nat) : Int) + ((seg 124 (s.drop (p + 1))).length : Int)) = ((p + 1 + (seg 124 (s.drop (p + 1))).length : Nat) : Int) := by rw [wrap_in (by omega)]; omega
      simp only [w1]
      by_cases hm : 124 ∈ s.drop (p + 1)
      · simp only [hm, decide_true, cond_true, if_true]
        rw [wrap_succ (by omega)]
        refine (c28_eq n kr (by omega) true kind _ (by omega) (by omega) _ s b10 b11 b12 b13 b14 b15 b20 b21 _ name kind [(e0, e1, e2)] d3 d4 d5 e0 e1 e2 f0 f1 k0 k1 1 k3).trans ?_
        rw [if_pos rfl, wrap_in (by omega)]
        congr 2
        omega
      · simp only [hm, decide_false, cond_false, if_false]
        exact (c28_eq n kr (by omega) false kind _ (by omega) (by omega) _ s b10 b11 b12 b13 b14 b15 b20 b21 _ name kind [(e0, e1, e2)] d3 d4 d5 e0 e1 e2 f0 f1 k0 k1 1 k3)
    · rw [decide_eq_false h64, Bool.not_false, cond_true, if_pos h64]
      rfl
def kindS (kr : KRS X) (s name : List UInt8) (word value : List UInt8) (av aw : Int) (v : List (Bool × Int × Int)) (r0 : Int) (tags : List (List UInt8 × List UInt8)) (time : Int) (is3 : Bool) (p : Nat) : Option X :=
  if kindOf word = 0 then badK' kr s 16 aw else if kindOf word = 2 ∧ value.head? = some 45 then badK' kr s 26 av else rateS kr s name (kindOf word) v r0 tags time is3 p
theorem c16_eq (hn : 20000 ≤ n) (name : List UInt8) (is3 : Bool) (value : List UInt8) (av : Int) (word : List UInt8) (aw : Int) (s : List UInt8) (hs : s.length ≤ 10000) (b10 : List UInt8) (b11 : Int) (b12 : List (Bool × Int × Int)) (b13 : Int) (b14 : List (List UInt8 × List UInt8)) (b15 b20 b21 : Int) (p : Nat) (hp : p ≤ s.length) (d0 : List UInt8) (d1 : Int) (d2 : List (Bool × Int × Int)) (d3 : Int) (d4 : List (List UInt8 × List UInt8)) (d5 : Int) (e0 : Bool) (e1 e2 f0 f1 : Int) (k0 k1 k2 k3 : Nat) :
    F.statsd_Parse.C16 n kr name is3 value av word aw s b10 b11 b12 b13 b14 b15 b20 b21 (p : Int) d0 d1 d2 d3 d4 d5 e0 e1 e2 f0 f1 k0 k1 k2 k3 = kindS kr s name word value av aw [(e0, e1, e2)] d3 d4 d5 is3 p := by
  unfold F.statsd_Parse.C16 kindS
  rw [sdKind_eq n (by omega), some_bind']
  unfold sdKindR
  by_cases h0 : kindOf word = 0
  · rw [if_pos h0, if_pos h0]; rfl
  · have e0' : (!((0 : Int) == 0)) = false := rfl
    rw [if_neg h0, if_neg h0]
    simp only [e0', cond_false]
    by_cases h2 : kindOf word = 2
    · have e2' : (kindOf word == 2) = true := by simp [h2]
      rw [e2', cond_true, hasPrefix_one, some_bind']
      by_cases h45 : value.head? = some 45
      · rw [decide_eq_true h45, cond_true, if_pos ⟨h2, h45⟩]; rfl
      · rw [decide_eq_false h45, cond_false, if_neg (fun h => h45 h.2)]
        exact c21_eq n kr hn name is3 _ s hs b10 b11 b12 b13 b14 b15 b20 b21 p hp d0 d1 d2 d3 d4 d5 e0 e1 e2 f0 f1 k0 k1 k2 k3
    · have e2' : (kindOf word == 2) = false := by simpa using h2
      rw [e2', cond_false, if_neg (fun h => h2 h.1)]
      exact c21_eq n kr hn name is3 _ s hs b10 b11 b12 b13 b14 b15 b20 b21 p hp d0 d1 d2 d3 d4 d5 e0 e1 e2 f0 f1 k0 k1 k2 k3
def valueS (kr : KRS X) (s name : List UInt8) (value : List UInt8) (av : Nat) (r0 : Int) (tags : List (List UInt8 × List UInt8)) (time : Int) (is2 : Bool) (p : Nat) : Option X :=
  if ¬ (parseR value).2.1.1 = 0 then badK' kr s 17 av else if is2 = false then badK' kr s 11 s.length
  else kindS kr s name (seg 124 (s.drop p)) value av p [((parseR value).1.1, (parseR value).1.2.1, (parseR value).1.2.2.1)] r0 tags time (decide (124 ∈ s.drop p)) (nextP 124 s p)
theorem c10_eq (hn : 200000 ≤ n) (name : List UInt8) (is2 : Bool) (value : List UInt8) (hv : value.length ≤ 10000) (av : Nat) (s : List UInt8) (hs : s.length ≤ 10000) (b10 : List UInt8) (b11 : Int) (b12 : List (Bool × Int × Int)) (b13 : Int) (b14 : List (List UInt8 × List UInt8)) (b15 b20 b21 : Int) (p : Nat) (hp : p ≤ s.length) (d0 : List UInt8) (d1 : Int) (d2 : List (Bool × Int × Int)) (d3 : Int) (d4 : List (List UInt8 × List UInt8)) (d5 : Int) (k0 k1 k2 k3 : Nat) :
    F.statsd_Parse.C10 n kr name is2 value (av : Int) s b10 b11 b12 b13 b14 b15 b20 b21 (p : Int) d0 d1 d2 d3 d4 d5 k0 k1 k2 k3 = valueS kr s name value av d3 d4 d5 is2 p := by
  unfold F.statsd_Parse.C10 valueS
  rw [decparse_eq n hn value hv, some_bind']
  by_cases h0 : (parseR value).2.1.1 = 0
  · have e : (!((parseR value).2.1.1 == 0 && (parseR value).2.1.2.1 == 0)) = false := by rw [h0, parseR_at h0]; rfl
    rw [e, cond_false, if_neg (fun h => h h0)]
    cases is2
    · rfl
    · have hsl := seg_le 124 (s.drop p)
      have hdl : (s.drop p).length = s.length - p := by simp
      have hnl := nextP_le (c := 124) hp
      rw [Bool.not_true, cond_false, if_neg (by simp), sub_tail hp, some_bind', cut_eq n 124 (by omega), some_bind']
      have w1 : IntKind.wrap .i64 ((p : Int) + ((seg 124 (s.drop p)).length : Int)) = ((p + (seg 124 (s.drop p)).length : Nat) : Int) := by rw [wrap_in (by omega)]; omega
      simp only [w1]
      by_cases hm : 124 ∈ s.drop p
      · have hq : nextP 124 s p = p + (seg 124 (s.drop p)).length + 1 := by unfold nextP; rw [if_pos hm]
        simp only [hm, decide_true, cond_true]
        rw [wrap_succ (by omega), ← hq]
        exact c16_eq n kr (by omega) name true value _ _ _ s hs b10 b11 b12 b13 b14 b15 b20 b21 _ hnl d0 d1 d2 d3 d4 d5 _ _ _ _ _ k0 k1 k2 k3
      · have hq : nextP 124 s p = p + (seg 124 (s.drop p)).length := by unfold nextP; rw [if_neg hm]; rfl
        simp only [hm, decide_false, cond_false]
        rw [← hq]
        exact c16_eq n kr (by omega) name false value _ _ _ s hs b10 b11 b12 b13 b14 b15 b20 b21 _ hnl d0 d1 d2 d3 d4 d5 _ _ _ _ _ k0 k1 k2 k3
  · have e : (!((parseR value).2.1.1 == 0 && (parseR value).2.1.2.1 == 0)) = true := by
      have : ((parseR value).2.1.1 == 0) = false := by simpa using h0
      rw [this]; rfl
    rw [e, cond_true, if_pos h0]
    rfl
def nameS (kr : KRS X) (s name : List UInt8) (r0 : Int) (tags : List (List UInt8 × List UInt8)) (time : Int) (is1 : Bool) (p : Nat) : Option X :=
  if ¬ (textF 1 name 1 200).1 = 0 then badK' kr s 15 0 else if is1 = false then badK' kr s 11 s.length
  else valueS kr s name (seg 124 (s.drop p)) p r0 tags time (decide (124 ∈ s.drop p)) (nextP 124 s p)
theorem c5_eq (hn : 200000 ≤ n) (name : List UInt8) (hnl : name.length ≤ 10000) (is1 : Bool) (s : List UInt8) (hs : s.length ≤ 10000) (b10 : List UInt8) (b11 : Int) (b12 : List (Bool × Int × Int)) (b13 : Int) (b14 : List (List UInt8 × List UInt8)) (b15 b20 b21 : Int) (p : Nat) (hp : p ≤ s.length) (d0 : List UInt8) (d1 : Int) (d2 : List (Bool × Int × Int)) (d3 : Int) (d4 : List (List UInt8 × List UInt8)) (d5 : Int) (k0 k1 k2 k3 : Nat) :
    F.statsd_Parse.C5 n kr name is1 s b10 b11 b12 b13 b14 b15 b20 b21 (p : Int) d0 d1 d2 d3 d4 d5 k0 k1 k2 k3 = nameS kr s name d3 d4 d5 is1 p := by
  unfold F.statsd_Parse.C5 nameS
  rw [text_cls n 1 name 1 200 (by omega) (by omega), some_bind']
  by_cases h0 : (textF 1 name 1 200).1 = 0
  · have e : (!((textF 1 name 1 200).1 == 0 && (textF 1 name 1 200).2.1 == 0)) = false := by rw [h0, textF_at h0]; rfl
    rw [e, cond_false, if_neg (fun h => h h0)]
    cases is1
    · rfl
    · have hsl := seg_le 124 (s.drop p)
      have hdl : (s.drop p).length = s.length - p := by simp
      have hnx := nextP_le (c := 124) hp
      rw [Bool.not_true, cond_false, if_neg (by simp), sub_tail hp, some_bind', cut_eq n 124 (by omega), some_bind']
      have w1 : IntKind.wrap .i64 ((p : Int) + ((seg 124 (s.drop p)).length : Int)) = ((p + (seg 124 (s.drop p)).length : Nat) : Int) := by rw [wrap_in (by omega)]; omega
      simp only [w1]
      by_cases hm : 124 ∈ s.drop p
      · have hq : nextP 124 s p = p + (seg 124 (s.drop p)).length + 1 := by unfold nextP; rw [if_pos hm]
        simp only [hm, decide_true, cond_true]
        rw [wrap_succ (by omega), ← hq]
        exact c10_eq n kr hn name true _ (by omega) p s hs b10 b11 b12 b13 b14 b15 b20 b21 _ hnx d0 d1 d2 d3 d4 d5 k0 k1 k2 k3
      · have hq : nextP 124 s p = p + (seg 124 (s.drop p)).length := by unfold nextP; rw [if_neg hm]; rfl
        simp only [hm, decide_false, cond_false]
        rw [← hq]
        exact c10_eq n kr hn name false _ (by omega) p s hs b10 b11 b12 b13 b14 b15 b20 b21 _ hnx d0 d1 d2 d3 d4 d5 k0 k1 k2 k3
  · have e : (!((textF 1 name 1 200).1 == 0 && (textF 1 name 1 200).2.1 == 0)) = true := by
      have : ((textF 1 name 1 200).1 == 0) = false := by simpa using h0
      rw [this]; rfl
    rw [e, cond_true, if_pos h0]
    rfl
end
def finK : KRS MetR := fun _ a b c d e f x y => some ((a, b, c, d, e, f, ()), (x, y, ()), ())
def sdParse (s : List UInt8) : Option MetR := nameS finK s (seg 58 s) 1000000 [] 0 (decide (58 ∈ s)) (nextP 58 s 0)
theorem sdParse_eq (n : Nat) (hn : 200000 ≤ n) (s : List UInt8) (hs : s.length ≤ 10000) : F.statsd_Parse n s = sdParse s := by
  unfold F.statsd_Parse sdParse
  have h0 : sub s (0 : Int) (s.length : Int) = some s := sub_tail (s := s) (p := 0) (Nat.zero_le _)
  have hsl := seg_le 58 s
  have hnx := nextP_le (c := 58) (s := s) (p := 0) (Nat.zero_le _)
  rw [h0, some_bind', cut_eq n 58 (by omega), some_bind']
  have w1 : IntKind.wrap .i64 ((0 : Int) + ((seg 58 s).length : Int)) = (((seg 58 s).length : Nat) : Int) := by rw [wrap_in (by omega)]; omega
  simp only [w1]
  by_cases hm : 58 ∈ s
  · have hq : nextP 58 s 0 = (seg 58 s).length + 1 := by unfold nextP; rw [List.drop_zero, if_pos hm]; omega
    simp only [hm, decide_true, cond_true]
    rw [wrap_succ (by omega), ← hq]
    exact c5_eq n finK hn _ (by omega) true s hs _ _ _ _ _ _ _ _ _ hnx _ _ _ _ _ _ _ _ _ _
  · have hq : nextP 58 s 0 = (seg 58 s).length := by unfold nextP; rw [List.drop_zero, if_neg hm]; omega
    simp only [hm, decide_false, cond_false]
    rw [← hq]
    exact c5_eq n finK hn _ (by omega) false s hs _ _ _ _ _ _ _ _ _ hnx _ _ _ _ _ _ _ _ _ _
end Go.AM
set_option linter.unusedVariables false
set_option linter.unusedSimpArgs false
namespace Go.AM
end Go.AM
set_option linter.unusedVariables false
set_option linter.unusedSimpArgs false
namespace Go.AM
end Go.AM
set_option linter.unusedVariables false
set_option linter.unusedSimpArgs false
namespace Go.AM
end Go.AM
set_option linter.unusedVariables false
set_option linter.unusedSimpArgs false
namespace Go.AM
end Go.AM
set_option linter.unusedVariables false
set_option linter.unusedSimpArgs false
namespace Go.AM
section
variable {X : Type} (n : Nat) (kr : KRS X)
end
end Go.AM
set_option linter.unusedVariables false
set_option linter.unusedSimpArgs false
namespace Go.AM
theorem seg_app {c : UInt8} {a : List UInt8} (h : c ∉ a) (t : List UInt8) : seg c (a ++ c :: t) = a := by
  induction a with
  | nil => show seg c (c :: t) = []; rw [seg_cons, if_pos rfl]
  | cons b a ih =>
    show seg c (b :: (a ++ c :: t)) = _
    rw [seg_cons, if_neg (fun hh => h (by simp [hh])), ih (fun hh => h (by simp [hh]))]
theorem seg_split {c : UInt8} {s : List UInt8} (h : c ∈ s) : s = seg c s ++ c :: s.drop ((seg c s).length + 1) := by
  induction s with
  | nil => simp at h
  | cons b s ih =>
    rw [seg_cons]
    by_cases hb : b = c
    · rw [if_pos hb, hb]; rfl
    · rw [if_neg hb]
      have hm : c ∈ s := by
        rcases List.mem_cons.1 h with h | h
        · exact absurd h.symm hb
        · exact h
      have := ih hm
      simp only [List.length_cons, List.drop_succ_cons, List.cons_append]
      rw [← this]
theorem seg_free (c : UInt8) (s : List UInt8) : c ∉ seg c s := by
  induction s with
  | nil => simp [seg]
  | cons b s ih =>
    rw [seg_cons]
    by_cases hb : b = c
    · rw [if_pos hb]; simp
    · rw [if_neg hb]
      intro hm
      rcases List.mem_cons.1 hm with h | h
      · exact hb h.symm
      · exact ih h
theorem nextP_app {c : UInt8} {s a t : List UInt8} {p : Nat} (hs : s.drop p = a ++ c :: t) (h : c ∉ a) : nextP c s p = p + a.length + 1 ∧ s.drop (p + a.length + 1) = t := by
  constructor
  · unfold nextP
    rw [hs, seg_app h, if_pos (by simp)]
  · rw [Nat.add_assoc, ← List.drop_drop, hs]
    simp
theorem nextP_end {c : UInt8} {s a : List UInt8} {p : Nat} (hs : s.drop p = a) (h : c ∉ a) : nextP c s p = p + a.length := by
  unfold nextP
  rw [hs, if_neg h, seg_all h]; omega
theorem name_free {s : List UInt8} (h : nameOK s = true) : (58 : UInt8) ∉ s := by
  rw [nameOK_eq] at h
  simp only [Bool.and_eq_true, List.all_eq_true] at h
  intro hm
  have := h.1 58 hm
  revert this
  decide
abbrev badM (c a : Int) : MetR := (([], 0, [], 0, [], 0, ()), (c, a, ()), ())
end Go.AM
set_option linter.unusedVariables false
set_option linter.unusedSimpArgs false
namespace Go.AM
theorem parse_cases (s : List UInt8) : ((parseR s).2.1.1 ≠ 0 ∧ (parseR s).1 = (false, 0, 0, ()) ∧ 0 ≤ (parseR s).2.1.2.1 ∧ (parseR s).2.1.2.1 ≤ s.length) ∨
    (∃ (neg : Bool) (c : Nat) (e : Int), parseR s = ((neg, (c : Int), e, ()), (0, 0, ()), ()) ∧ c < two64 ∧ (-9223372036854775808 ≤ e ∧ e ≤ 9223372036854775807) ∧ checkR neg c e = 0) := by
  unfold parseR
  by_cases h : (lookR s).1 = 0
  · rw [if_pos h]
    have hD : Digs (aheadD s ++ behindD s) := digs_append.2 ⟨tw_digs _, behind_digs s⟩
    generalize aheadD s ++ behindD s = d at hD
    generalize (-((behindD s).length : Int)) = E
    generalize negD s = neg
    by_cases hv : val d = 0
    · refine Or.inr ⟨false, 0, 0, ?_, by decide, by omega, ?_⟩
      · have : valR neg d E = zeroD := by unfold valR; rw [if_pos hv]
        rw [this]; rfl
      · have d0 : Lib.decDigits 0 = [48] := dd_small (by omega)
        unfold checkR
        rw [d0]; rfl
    · obtain ⟨c0, z, h1, h2⟩ := ten_split (val d) (by omega)
      rw [valR_core hD h2 h1]
      generalize E + (z : Int) = Y
      by_cases hY : Y < -18
      · refine Or.inl ?_
        have : normR neg c0 Y = ((false, 0, 0, ()), 10, ()) := by unfold normR; rw [if_pos hY]
        rw [this]
        exact ⟨by decide, rfl, by decide, by show (0 : Int) ≤ s.length; omega⟩
      · by_cases hf : c0 * 10 ^ (Y - 18).toNat < two64
        · have e1 : normR neg c0 Y = ((neg, ((c0 * 10 ^ (Y - 18).toNat : Nat) : Int), (if Y ≤ 18 then Y else 18), ()), 0, ()) := by unfold normR; rw [if_neg hY, if_pos hf]
          rw [e1]
          have hE : -18 ≤ (if Y ≤ 18 then Y else 18) ∧ (if Y ≤ 18 then Y else 18) ≤ 18 := by split <;> omega
          refine Or.inr ⟨neg, c0 * 10 ^ (Y - 18).toNat, (if Y ≤ 18 then Y else 18), rfl, hf, by omega, ?_⟩
          unfold checkR
          rw [if_neg (by omega), valR_core (dd_digs _) h2 (dd_val _)]
          have e2 : (if Y ≤ 18 then Y else 18) + (((Y - 18).toNat : Nat) : Int) = Y := by split <;> omega
          rw [e2, e1, if_pos ⟨rfl, rfl⟩]
        · refine Or.inl ?_
          have : normR neg c0 Y = ((false, 0, 0, ()), 10, ()) := by unfold normR; rw [if_neg hY, if_neg hf]
          rw [this]
          exact ⟨by decide, rfl, by decide, by show (0 : Int) ≤ s.length; omega⟩
  · rw [if_neg h]
    refine Or.inl ⟨h, rfl, ?_⟩
    show 0 ≤ (lookR s).2.1 ∧ (lookR s).2.1 ≤ s.length
    have endle : ∀ (r : Prop) [Decidable r] (a l : Nat), a ≤ l → 0 ≤ (endR r a l).2.1 ∧ (endR r a l).2.1 ≤ (l : Int) := by
      intro r _ a l hl
      unfold endR
      split
      · show (0 : Int) ≤ 0 ∧ (0 : Int) ≤ l; omega
      · split
        · show (0 : Int) ≤ a ∧ (a : Int) ≤ l; omega
        · show (0 : Int) ≤ a ∧ (a : Int) ≤ l; omega
    unfold lookR lookQ
    split
    · rename_i hp
      exact endle _ _ _ (p3_le hp.2)
    · exact endle _ _ _ (p1_le (p0_le s))
end Go.AM
set_option linter.unusedVariables false
set_option linter.unusedSimpArgs false
namespace Go.AM
theorem kind_cases {w : List UInt8} (h : ¬ kindOf w = 0) : w = wordL (kindOf w) ∧ 1 ≤ kindOf w ∧ kindOf w ≤ 4 ∧ (124 : UInt8) ∉ w := by
  unfold kindOf at h ⊢
  by_cases h1 : w = [99]
  · subst h1; decide
  rw [if_neg h1] at h ⊢
  by_cases h2 : w = [103]
  · subst h2; decide
  rw [if_neg h2] at h ⊢
  by_cases h3 : w = [109, 115]
  · subst h3; decide
  rw [if_neg h3] at h ⊢
  by_cases h4 : w = [104]
  · subst h4; decide
  rw [if_neg h4] at h
  exact absurd rfl h
section
variable {X : Type} (kr : KRS X)
theorem sd_parts {name value word : List UInt8} {d : DecL} (hn : nameOK name = true) (hv : (124 : UInt8) ∉ value) (hp : parseR value = ((d.1, d.2.1, d.2.2, ()), (0, 0, ()), ())) (hk : ¬ kindOf word = 0) (hg : ¬ (kindOf word = 2 ∧ value.head? = some 45))
    {s rest : List UInt8} (hs : s = name ++ 58 :: (value ++ 124 :: (word ++ rest))) (hr : rest = [] ∨ rest.head? = some 124) :
    nameS kr s (seg 58 s) 1000000 [] 0 (decide (58 ∈ s)) (nextP 58 s 0) = rateS kr s name (kindOf word) [d] 1000000 [] 0 (decide (rest.head? = some 124)) (name.length + 1 + value.length + 1 + word.length + (if rest.head? = some 124 then 1 else 0)) := by
  have hnf := name_free hn
  obtain ⟨hw1, hw2, hw3, hw4⟩ := kind_cases hk
  have h58 : (58 : UInt8) ∈ s := by rw [hs]; simp
  have hseg : seg 58 s = name := by rw [hs]; exact seg_app hnf _
  have hd0 : s.drop 0 = name ++ 58 :: (value ++ 124 :: (word ++ rest)) := hs
  obtain ⟨n1, n2⟩ := nextP_app hd0 hnf
  rw [Nat.zero_add] at n1 n2
  have hm1 : (124 : UInt8) ∈ s.drop (name.length + 1) := by rw [n2]; simp
  obtain ⟨m1, m2⟩ := nextP_app n2 hv
  have hsv : seg 124 (s.drop (name.length + 1)) = value := by rw [n2]; exact seg_app hv _
  have hname : (textF 1 name 1 200).1 = 0 := by unfold nameOK at hn; simpa using hn
  unfold nameS
  rw [hseg, if_neg (fun h => h hname), decide_eq_true h58, if_neg (by simp), n1, hsv, m1, decide_eq_true hm1]
  unfold valueS
  rw [hp, if_neg (by simp), if_neg (by simp)]
  unfold kindS
  rcases hr with hr | hr
  · subst hr
    rw [List.append_nil] at m2
    have hsw : seg 124 (s.drop (name.length + 1 + value.length + 1)) = word := by rw [m2]; exact seg_all hw4
    have hm2 : ¬ (124 : UInt8) ∈ s.drop (name.length + 1 + value.length + 1) := by rw [m2]; exact hw4
    rw [hsw, if_neg hk, if_neg hg, decide_eq_false hm2, nextP_end m2 hw4]
    rfl
  · obtain ⟨t, ht⟩ : ∃ t, rest = 124 :: t := by
      cases rest with
      | nil => simp at hr
      | cons b t => exact ⟨t, by simp at hr; rw [hr]⟩
    subst ht
    have hsw : seg 124 (s.drop (name.length + 1 + value.length + 1)) = word := by rw [m2]; exact seg_app hw4 _
    have hm2 : (124 : UInt8) ∈ s.drop (name.length + 1 + value.length + 1) := by rw [m2]; simp
    rw [hsw, if_neg hk, if_neg hg, decide_eq_true hm2, (nextP_app m2 hw4).1]
    rfl
theorem sd_drop {name value word t : List UInt8} {s : List UInt8} (hs : s = name ++ 58 :: (value ++ 124 :: (word ++ 124 :: t))) : s.drop (name.length + 1 + value.length + 1 + word.length + 1) = t ∧ s.length = name.length + 1 + value.length + 1 + word.length + 1 + t.length := by
  subst hs
  refine ⟨?_, by simp; omega⟩
  rw [show name.length + 1 + value.length + 1 + word.length + 1 = name.length + (1 + (value.length + (1 + (word.length + 1)))) from by omega, List.drop_append, List.drop_eq_nil_of_le (by omega), List.nil_append]
  rw [show name.length + (1 + (value.length + (1 + (word.length + 1)))) - name.length = (value.length + (1 + (word.length + 1))) + 1 from by omega, List.drop_succ_cons, List.drop_append, List.drop_eq_nil_of_le (by omega), List.nil_append,
    show value.length + (1 + (word.length + 1)) - value.length = word.length + 1 + 1 from by omega, List.drop_succ_cons, List.drop_append, List.drop_eq_nil_of_le (by omega), List.nil_append, show word.length + 1 - word.length = 0 + 1 from by omega, List.drop_succ_cons, List.drop_zero]
end
abbrev OkR (name : List UInt8) (k : Int) (d : DecL) (r : Int) : MetR := ((name, k, [d], r, [], 0, ()), (0, 0, ()), ())
theorem sd_short {name value word : List UInt8} {d : DecL} (hn : nameOK name = true) (hv : (124 : UInt8) ∉ value) (hp : parseR value = ((d.1, d.2.1, d.2.2, ()), (0, 0, ()), ())) (hk : ¬ kindOf word = 0) (hg : ¬ (kindOf word = 2 ∧ value.head? = some 45)) :
    sdParse (name ++ 58 :: (value ++ 124 :: word)) = some (OkR name (kindOf word) d 1000000) := by
  unfold sdParse
  have := sd_parts finK hn hv hp hk hg (s := name ++ 58 :: (value ++ 124 :: word)) (rest := []) (by rw [List.append_nil]) (Or.inl rfl)
  rw [this]
  rfl
theorem sd_long {name value word : List UInt8} {d : DecL} (hn : nameOK name = true) (hv : (124 : UInt8) ∉ value) (hp : parseR value = ((d.1, d.2.1, d.2.2, ()), (0, 0, ()), ())) (hk : ¬ kindOf word = 0) (hg : ¬ (kindOf word = 2 ∧ value.head? = some 45)) (t : List UInt8) :
    sdParse (name ++ 58 :: (value ++ 124 :: (word ++ 124 :: t))) = some (if ¬ t.head? = some 64 then badM 11 ((name.length + 1 + value.length + 1 + word.length + 1 : Nat) : Int)
      else if ¬ (rateR (seg 124 (t.drop 1))).2.1.1 = 0 ∨ (kindOf word = 2 ∧ ¬ (rateR (seg 124 (t.drop 1))).1 = 1000000) then badM 18 ((name.length + 1 + value.length + 1 + word.length + 1 + 1 : Nat) : Int)
      else if 124 ∈ t.drop 1 then badM 11 ((name.length + 1 + value.length + 1 + word.length + 1 + 1 + (seg 124 (t.drop 1)).length : Nat) : Int)
      else OkR name (kindOf word) d (rateR (seg 124 (t.drop 1))).1) := by
  unfold sdParse
  generalize hs : name ++ 58 :: (value ++ 124 :: (word ++ 124 :: t)) = s
  have := sd_parts finK hn hv hp hk hg (s := s) (rest := 124 :: t) hs.symm (Or.inr rfl)
  have hd := (sd_drop hs.symm).1
  rw [this]
  unfold rateS
  have h1 : (if (124 :: t : List UInt8).head? = some 124 then 1 else 0) = 1 := rfl
  have h2 : decide ((124 :: t : List UInt8).head? = some 124) = true := rfl
  have hd1 : s.drop (name.length + 1 + value.length + 1 + word.length + 1 + 1) = t.drop 1 := by rw [← List.drop_drop, hd]
  rw [h1, h2, if_neg (by simp), hd, hd1]
  repeat' split
  all_goals first | rfl | (exfalso; simp_all)
theorem sd_cases (s : List UInt8) : (∃ c a : Int, sdParse s = some (badM c a) ∧ c ≠ 0 ∧ 0 ≤ a ∧ a ≤ s.length) ∨
    (∃ name value word tail d r, s = name ++ 58 :: (value ++ 124 :: (word ++ tail)) ∧ nameOK name = true ∧ (124 : UInt8) ∉ value ∧ parseR value = ((d.1, d.2.1, d.2.2, ()), (0, 0, ()), ()) ∧ ¬ kindOf word = 0 ∧ ¬ (kindOf word = 2 ∧ value.head? = some 45) ∧
      (tail = [] ∧ r = 1000000 ∨ ∃ rt, tail = 124 :: 64 :: rt ∧ (rateR rt).2.1.1 = 0 ∧ (rateR rt).1 = r ∧ (kindOf word = 2 → r = 1000000) ∧ (124 : UInt8) ∉ rt) ∧ sdParse s = some (OkR name (kindOf word) d r)) := by
  by_cases hn : nameOK (seg 58 s) = true
  · by_cases h58 : (58 : UInt8) ∈ s
    · have hsp := seg_split h58
      have hlt := seg_lt h58
      generalize hname : seg 58 s = name at *
      generalize ht : s.drop (name.length + 1) = t at *
      have htl : t.length + (name.length + 1) = s.length := by rw [← ht]; simp; omega
      have hn0 : ¬ ¬ (textF 1 name 1 200).1 = 0 := by unfold nameOK at hn; simpa using hn
      have hq : nextP 58 s 0 = name.length + 1 := by unfold nextP; rw [List.drop_zero, if_pos h58, hname]; omega
      have e1 : sdParse s = valueS finK s name (seg 124 t) (name.length + 1) 1000000 [] 0 (decide (124 ∈ t)) (nextP 124 s (name.length + 1)) := by
        unfold sdParse nameS
        rw [hname, if_neg hn0, decide_eq_true h58, if_neg (by simp), hq, ht]
      by_cases hv : (parseR (seg 124 t)).2.1.1 = 0
      · by_cases hb : (124 : UInt8) ∈ t
        · have hsp2 := seg_split hb
          have hlt2 := seg_lt hb
          have hfree := seg_free 124 t
          generalize hvalue : seg 124 t = value at *
          generalize ht2 : t.drop (value.length + 1) = t2 at *
          have hd2 : s.drop (name.length + 1 + value.length + 1) = t2 := by rw [Nat.add_assoc (name.length + 1), ← List.drop_drop, ht, ht2]
          have htl2 : t2.length + (value.length + 1) = t.length := by rw [← ht2]; simp; omega
          have hq2 : nextP 124 s (name.length + 1) = name.length + 1 + value.length + 1 := by unfold nextP; rw [ht, if_pos hb, hvalue]
          have e2 : sdParse s = kindS finK s name (seg 124 t2) value (name.length + 1 : Nat) (name.length + 1 + value.length + 1 : Nat) [((parseR value).1.1, (parseR value).1.2.1, (parseR value).1.2.2.1)] 1000000 [] 0 (decide (124 ∈ t2)) (nextP 124 s (name.length + 1 + value.length + 1)) := by
            rw [e1]
            unfold valueS
            rw [if_neg (fun h => h hv), decide_eq_true hb, if_neg (by simp), hq2, hd2]
          by_cases hk : kindOf (seg 124 t2) = 0
          · left
            refine ⟨16, ((name.length + 1 + value.length + 1 : Nat) : Int), ?_, by decide, by omega, by omega⟩
            rw [e2]
            unfold kindS
            rw [if_pos hk]; rfl
          by_cases hg : kindOf (seg 124 t2) = 2 ∧ value.head? = some 45
          · left
            refine ⟨26, ((name.length + 1 : Nat) : Int), ?_, by decide, by omega, by omega⟩
            rw [e2]
            unfold kindS
            rw [if_neg hk, if_pos hg]; rfl
          have hat := parseR_at hv
          have hp : parseR value = (((((parseR value).1.1, (parseR value).1.2.1, (parseR value).1.2.2.1) : DecL).1, (parseR value).1.2.1, (parseR value).1.2.2.1, ()), (0, 0, ()), ()) := by
            generalize parseR value = z at hv hat
            obtain ⟨⟨a, b, c, _⟩, ⟨x, y, _⟩, _⟩ := z
            simp only at hv hat
            subst hv hat
            rfl
          by_cases hb2 : (124 : UInt8) ∈ t2
          · have hsp3 := seg_split hb2
            generalize hword : seg 124 t2 = word at *
            generalize ht3 : t2.drop (word.length + 1) = t3 at *
            have hlt3 : word.length + 1 + t3.length = t2.length := by
              have := congrArg List.length hsp3
              simp at this
              omega
            have hs : s = name ++ 58 :: (value ++ 124 :: (word ++ 124 :: t3)) := by rw [← hsp3, ← hsp2, ← hsp]
            have L := sd_long hn hfree hp hk hg t3
            rw [← hs] at L
            by_cases c1 : t3.head? = some 64
            · rw [if_neg (fun h => h c1)] at L
              obtain ⟨t4, ht4⟩ : ∃ t4, t3 = 64 :: t4 := by
                cases t3 with
                | nil => simp at c1
                | cons b t => exact ⟨t, by simp at c1; rw [c1]⟩
              subst ht4
              simp only [List.drop_succ_cons, List.drop_zero, List.length_cons] at L hlt3
              by_cases c2 : ¬ (rateR (seg 124 t4)).2.1.1 = 0 ∨ (kindOf word = 2 ∧ ¬ (rateR (seg 124 t4)).1 = 1000000)
              · rw [if_pos c2] at L
                exact Or.inl ⟨18, _, L, by decide, by omega, by omega⟩
              rw [if_neg c2] at L
              by_cases c3 : (124 : UInt8) ∈ t4
              · rw [if_pos c3] at L
                have := seg_lt c3
                exact Or.inl ⟨11, _, L, by decide, by omega, by omega⟩
              rw [if_neg c3, seg_all c3] at L
              rw [seg_all c3] at c2
              refine Or.inr ⟨name, value, word, 124 :: 64 :: t4, _, _, hs, hn, hfree, hp, hk, hg, Or.inr ⟨t4, rfl, ?_, rfl, fun h2 => ?_, c3⟩, L⟩
              · exact Classical.byContradiction fun h => c2 (Or.inl h)
              · exact Classical.byContradiction fun h => c2 (Or.inr ⟨h2, h⟩)
            · rw [if_pos c1] at L
              exact Or.inl ⟨11, _, L, by decide, by omega, by omega⟩
          · have hw : seg 124 t2 = t2 := seg_all hb2
            rw [hw] at hk hg
            have hs : s = name ++ 58 :: (value ++ 124 :: (t2 ++ [])) := by rw [List.append_nil, ← hsp2, ← hsp]
            have L := sd_short hn hfree hp hk hg
            have hs' := hs
            rw [List.append_nil] at hs'
            rw [← hs'] at L
            exact Or.inr ⟨name, value, t2, [], _, _, hs, hn, hfree, hp, hk, hg, Or.inl ⟨rfl, rfl⟩, L⟩
        · left
          refine ⟨11, (s.length : Int), ?_, by decide, by omega, by omega⟩
          rw [e1]
          unfold valueS
          rw [if_neg (fun h => h hv), decide_eq_false hb, if_pos rfl]; rfl
      · left
        refine ⟨17, ((name.length + 1 : Nat) : Int), ?_, by decide, by omega, by omega⟩
        rw [e1]
        unfold valueS
        rw [if_pos hv]; rfl
    · left
      refine ⟨11, (s.length : Int), ?_, by decide, by omega, by omega⟩
      unfold sdParse nameS
      have hn0 : ¬ ¬ (textF 1 (seg 58 s) 1 200).1 = 0 := by unfold nameOK at hn; simpa using hn
      rw [if_neg hn0, decide_eq_false h58, if_pos rfl]; rfl
  · left
    refine ⟨15, 0, ?_, by decide, by omega, by omega⟩
    unfold sdParse nameS
    rw [if_pos (fun h => hn (by unfold nameOK; simp [h]))]; rfl
end Go.AM
set_option linter.unusedVariables false
set_option linter.unusedSimpArgs false
namespace Go.AM
def parseNum (s : List UInt8) (lo hi : Int) : NumR :=
  if s = [] then numR 0 13 0 else if 0 ≤ badK isDig 0 s then numR 0 14 (badK isDig 0 s) else if s.head? = some 48 ∧ 1 < s.length then numR 0 11 0
  else if 9223372036854775808 ≤ val s ∨ (val s : Int) < lo ∨ (val s : Int) > hi then numR 0 10 0 else numR (val s) 0 0
theorem o_atoi (n : Nat) {s : List UInt8} (hd : Digs s) (hn : s ≠ []) (hs : s.length ≤ 1000000) : O.atoi n s = some (if val s < 9223372036854775808 then ((val s : Int), false, ()) else (Lib.atoiSat s, true, ())) := by
  unfold O.atoi
  have : Nat.ble s.length big47 = true := by rw [Nat.ble_eq]; unfold big47; omega
  rw [this, cond_true, atoi_digs hd hn]
  by_cases h : val s < 9223372036854775808
  · rw [if_pos h, if_pos h]
  · rw [if_neg h, if_neg h]
theorem parse_num (n : Nat) (s : List UInt8) (lo hi : Int) (hs : s.length ≤ 1000000) (hn : s.length < n) : F.num_Parse n s lo hi = some (parseNum s lo hi) := by
  unfold F.num_Parse parseNum
  rw [text_cls n 4 s _ _ (by omega) hn, some_bind', textF4 s (by omega)]
  by_cases h0 : s = []
  · rw [if_pos h0, if_pos h0]; rfl
  rw [if_neg h0, if_neg h0]
  by_cases h1 : 0 ≤ badK isDig 0 s
  · rw [if_pos h1, if_pos h1]; rfl
  rw [if_neg h1, if_neg h1]
  have e : (!((0 : Int) == 0 && (0 : Int) == 0)) = false := rfl
  simp only [e, cond_false]
  have hd := digs_of_bad h1
  cases s with
  | nil => exact absurd rfl h0
  | cons b r =>
    have ei : idx (b :: r) (0 : Int) = some b := rfl
    rw [ei, some_bind', o_atoi n hd h0 hs, some_bind']
    have tail : ∀ (p : Bool) (A : Option NumR), (bif p then A else A) = A := by intro p A; cases p <;> rfl
    have core : (bif (if val (b :: r) < 9223372036854775808 then ((val (b :: r) : Int), false, ()) else (Lib.atoiSat (b :: r), true, ())).2.1 then (F.num_fault n 10 0).bind fun y6 => some ((y6.1, (y6.2.1.1, y6.2.1.2.1, ()), ()))
        else bif decide ((if val (b :: r) < 9223372036854775808 then ((val (b :: r) : Int), false, ()) else (Lib.atoiSat (b :: r), true, ())).1 < lo) then (F.num_fault n 10 0).bind fun y6 => some ((y6.1, (y6.2.1.1, y6.2.1.2.1, ()), ()))
        else bif decide ((if val (b :: r) < 9223372036854775808 then ((val (b :: r) : Int), false, ()) else (Lib.atoiSat (b :: r), true, ())).1 > hi) then (F.num_fault n 10 0).bind fun y6 => some ((y6.1, (y6.2.1.1, y6.2.1.2.1, ()), ()))
        else some (((if val (b :: r) < 9223372036854775808 then ((val (b :: r) : Int), false, ()) else (Lib.atoiSat (b :: r), true, ())).1, ((0 : Int), (0 : Int), ()), ())))
        = some (if 9223372036854775808 ≤ val (b :: r) ∨ (val (b :: r) : Int) < lo ∨ (val (b :: r) : Int) > hi then numR 0 10 0 else numR (val (b :: r)) 0 0) := by
      by_cases hv : val (b :: r) < 9223372036854775808
      · rw [if_pos hv]
        simp only [cond_false]
        by_cases g1 : (val (b :: r) : Int) < lo
        · rw [bif_pos g1, if_pos (Or.inr (Or.inl g1))]; rfl
        · rw [bif_neg g1]
          by_cases g2 : (val (b :: r) : Int) > hi
          · rw [bif_pos g2, if_pos (Or.inr (Or.inr g2))]; rfl
          · rw [bif_neg g2, if_neg (by omega)]; rfl
      · rw [if_neg hv, if_pos (Or.inl (by omega))]; rfl
    by_cases hb : b = 48
    · subst hb
      have e2 : ((((48 : UInt8).toNat : Nat) : Int) == 48) = true := rfl
      rw [e2, cond_true]
      by_cases hl : 1 < (48 :: r).length
      · rw [bif_pos (by omega), if_pos (show (48 :: r).head? = some 48 ∧ 1 < (48 :: r).length from ⟨rfl, hl⟩)]; rfl
      · rw [bif_neg (by omega), if_neg (show ¬ ((48 :: r).head? = some 48 ∧ 1 < (48 :: r).length) from fun h => hl h.2)]; exact core
    · have e2 : ((b.toNat : Int) == 48) = false := by
        have : ¬ (b.toNat : Int) = 48 := fun h => hb (u8_ext (by simp; omega))
        simpa using this
      rw [e2, cond_false, if_neg (show ¬ ((b :: r).head? = some 48 ∧ 1 < (b :: r).length) from fun h => hb (by simpa using h.1))]; exact core
theorem time_eq (n : Nat) (s : List UInt8) (hs : s.length ≤ 1000000) (hn : s.length < n) : F.num_Time n s = some (parseNum s 1 1099511627776) := by
  unfold F.num_Time
  rw [parse_num n s _ _ hs hn, some_bind']
theorem parse_back {s : List UInt8} {lo hi : Int} (h : (parseNum s lo hi).2.1.1 = 0) : (parseNum s lo hi).2.1.2.1 = 0 ∧ (parseNum s lo hi).1 = (val s : Int) ∧ val s < 9223372036854775808 ∧ lo ≤ (val s : Int) ∧ (val s : Int) ≤ hi ∧ Digs s ∧ Norm s := by
  unfold parseNum at h ⊢
  by_cases h0 : s = []
  · rw [if_pos h0] at h; cases h
  rw [if_neg h0] at h ⊢
  by_cases h1 : 0 ≤ badK isDig 0 s
  · rw [if_pos h1] at h; cases h
  rw [if_neg h1] at h ⊢
  by_cases h2 : s.head? = some 48 ∧ 1 < s.length
  · rw [if_pos h2] at h; cases h
  rw [if_neg h2] at h ⊢
  by_cases h3 : 9223372036854775808 ≤ val s ∨ (val s : Int) < lo ∨ (val s : Int) > hi
  · rw [if_pos h3] at h; cases h
  rw [if_neg h3]
  refine ⟨rfl, rfl, by omega, by omega, by omega, digs_of_bad h1, h0, fun h => ?_⟩
  have h4 : ¬ 1 < s.length := fun hl => h2 ⟨h, hl⟩
  have : 0 < s.length := List.length_pos_iff.2 h0
  omega
end Go.AM
set_option linter.unusedVariables false
set_option linter.unusedSimpArgs false
namespace Go.AM
theorem tagL_beq (x y : TagL) : ((x.1 == y.1) && (x.2 == y.2)) = decide (x = y) := by
  obtain ⟨a, b⟩ := x
  obtain ⟨a', b'⟩ := y
  by_cases h : ((a, b) : TagL) = (a', b')
  · rw [decide_eq_true h]
    simp only [Prod.mk.injEq] at h
    simp [h.1, h.2]
  · rw [decide_eq_false h]
    cases h1 : (a == a') && (b == b') with
    | false => rfl
    | true =>
      simp only [Bool.and_eq_true, beq_iff_eq] at h1
      exact absurd (by rw [h1.1, h1.2]) h
end Go.AM
set_option linter.unusedVariables false
set_option linter.unusedSimpArgs false
namespace Go.AM
theorem parse_ok {s : List UInt8} (h : (parseR s).2.1.1 = 0) : ∃ (neg : Bool) (c : Nat) (e : Int), parseR s = ((neg, (c : Int), e, ()), (0, 0, ()), ()) ∧ c < two64 ∧ (-9223372036854775808 ≤ e ∧ e ≤ 9223372036854775807) ∧ checkR neg c e = 0 := by
  rcases parse_cases s with ⟨h1, _⟩ | h1
  · exact absurd h h1
  · exact h1
end Go.AM
set_option linter.unusedVariables false
set_option linter.unusedSimpArgs false
namespace Go.AM
abbrev timeR (s : List UInt8) : NumR := parseNum s 1 1099511627776
abbrev OkG (name : List UInt8) (d : DecL) (t : Int) : MetR := ((name, 2, [d], 1000000, [], t, ()), (0, 0, ()), ())
def timeS (name : List UInt8) (d : DecL) (u : List UInt8) (p : Nat) : MetR :=
  if ¬ (timeR (seg 32 u)).2.1.1 = 0 then badM 20 (p : Int) else if 32 ∈ u then badM 11 ((p + (seg 32 u).length : Nat) : Int) else OkG name d (timeR (seg 32 u)).1
def valueG (name : List UInt8) (u : List UInt8) (p : Nat) : MetR :=
  if ¬ (parseR (seg 32 u)).2.1.1 = 0 then badM 17 (p : Int) else if ¬ 32 ∈ u then badM 11 ((p + (seg 32 u).length : Nat) : Int)
  else timeS name ((parseR (seg 32 u)).1.1, (parseR (seg 32 u)).1.2.1, (parseR (seg 32 u)).1.2.2.1) (u.drop ((seg 32 u).length + 1)) (p + (seg 32 u).length + 1)
def grParse (s : List UInt8) : MetR :=
  if nameOK (seg 32 s) = false then badM 15 0 else if ¬ 32 ∈ s then badM 11 ((seg 32 s).length : Int) else valueG (seg 32 s) (s.drop ((seg 32 s).length + 1)) ((seg 32 s).length + 1)
theorem parseNum_at {s : List UInt8} {lo hi : Int} (h : (parseNum s lo hi).2.1.1 = 0) : (parseNum s lo hi).2.1.2.1 = 0 := (parse_back h).1
theorem faultN_both {c a : Int} (h : c = 0 → a = 0) : (!((c == 0) && (a == 0))) = !(c == 0) := by
  by_cases hc : c = 0
  · rw [hc, h hc]; rfl
  · rw [beq_eq_false_iff_ne.2 hc]; rfl
section
variable {X : Type} (n : Nat) (rec : Int → Int → Bool → List UInt8 → Int → List DecL → Int → List TagL → Int → Int → Int → List UInt8 → Int → List DecL → Int → List TagL → Int → Int → Int → List UInt8 → Nat → Nat → Nat → Nat → Option X)
  (k0 kr : List UInt8 → Int → List DecL → Int → List TagL → Int → Int → Int → List UInt8 → Int → List DecL → Int → List TagL → Int → Int → Int → List UInt8 → Nat → Nat → Nat → Nat → Option X)
  (b0 : List UInt8) (b1 : Int) (b2 : List DecL) (b3 : Int) (b4 : List TagL) (b5 b6 b7 : Int) (nm : List UInt8) (kd : Int) (vs : List DecL) (rt : Int) (ts : List TagL) (tm c a : Int) (s : List UInt8) (i0 i1 i2 i3 : Nat)
theorem g_end (p i : Int) : F.graphite_Parse.L2_graphite_cut_1.step n rec k0 kr p i false b0 b1 b2 b3 b4 b5 b6 b7 nm kd vs rt ts tm c a s i0 i1 i2 i3 = k0 b0 b1 b2 b3 b4 b5 b6 b7 nm kd vs rt ts tm c a s i0 i1 i2 i3 := rfl
theorem g_round0 (hn : 200000 ≤ n) (p : Nat) (hp : p ≤ s.length) (hs : s.length ≤ 10000) :
    F.graphite_Parse.L2_graphite_cut_1.step n rec k0 kr (p : Int) 0 true b0 b1 b2 b3 b4 b5 b6 b7 nm kd vs rt ts tm c a s i0 i1 i2 i3 =
      (if nameOK (seg 32 (s.drop p)) = false then kr b0 b1 b2 b3 b4 b5 b6 b7 (seg 32 (s.drop p)) kd vs rt ts tm 15 (p : Int) s i0 i1 i2 i3
      else if ¬ 32 ∈ s.drop p then kr b0 b1 b2 b3 b4 b5 b6 b7 (seg 32 (s.drop p)) kd vs rt ts tm 11 ((p + (seg 32 (s.drop p)).length : Nat) : Int) s i0 i1 i2 i3
      else rec ((p + (seg 32 (s.drop p)).length + 1 : Nat) : Int) 1 true b0 b1 b2 b3 b4 b5 b6 b7 (seg 32 (s.drop p)) kd vs rt ts tm c a s i0 i1 i2 i3) := by
  unfold F.graphite_Parse.L2_graphite_cut_1.step
  have hl := seg_le 32 (s.drop p)
  simp only [List.length_drop] at hl
  rw [cond_true, sub_tail hp, some_bind', cut_eq n 32 (by simp; omega), some_bind']
  simp only [beq_self_eq_true, cond_true]
  rw [text_cls n 1 _ 1 200 (by omega) (by omega), some_bind', textF_both]
  have e1 : ((textF 1 (seg 32 (s.drop p)) 1 200).1 == 0) = nameOK (seg 32 (s.drop p)) := rfl
  have w1 : IntKind.wrap .i64 ((p : Int) + ((seg 32 (s.drop p)).length : Int)) = ((p + (seg 32 (s.drop p)).length : Nat) : Int) := by rw [wrap_in (by omega)]; omega
  have w2 : IntKind.wrap .i64 ((p : Int) + (IntKind.wrap .i64 (((seg 32 (s.drop p)).length : Int) + (1 : Int)))) = ((p + (seg 32 (s.drop p)).length + 1 : Nat) : Int) := by rw [wrap_in (x := ((seg 32 (s.drop p)).length : Int) + 1) (by omega), wrap_in (by omega)]; omega
  have w3 : IntKind.wrap .i64 ((0 : Int) + 1) = 1 := rfl
  rw [e1, w1, w2, w3]
  cases nameOK (seg 32 (s.drop p))
  · rfl
  · have d2 : decide ((0 : Int) < 2) = true := rfl
    rw [Bool.not_true, cond_false, if_neg (by simp), d2]
    by_cases hm : 32 ∈ s.drop p
    · rw [decide_eq_true hm, if_neg (fun h => h hm)]; rfl
    · rw [decide_eq_false hm, if_pos hm]; rfl
theorem g_round1 (hn : 200000 ≤ n) (p : Nat) (hp : p ≤ s.length) (hs : s.length ≤ 10000) :
    F.graphite_Parse.L2_graphite_cut_1.step n rec k0 kr (p : Int) 1 true b0 b1 b2 b3 b4 b5 b6 b7 nm kd vs rt ts tm c a s i0 i1 i2 i3 =
      (if ¬ (parseR (seg 32 (s.drop p))).2.1.1 = 0 then kr b0 b1 b2 b3 b4 b5 b6 b7 nm kd vs rt ts tm 17 (p : Int) s i0 i1 i2 i3
      else if ¬ 32 ∈ s.drop p then kr b0 b1 b2 b3 b4 b5 b6 b7 nm kd [((parseR (seg 32 (s.drop p))).1.1, (parseR (seg 32 (s.drop p))).1.2.1, (parseR (seg 32 (s.drop p))).1.2.2.1)] rt ts tm 11 ((p + (seg 32 (s.drop p)).length : Nat) : Int) s i0 i1 1 i3
      else rec ((p + (seg 32 (s.drop p)).length + 1 : Nat) : Int) 2 true b0 b1 b2 b3 b4 b5 b6 b7 nm kd [((parseR (seg 32 (s.drop p))).1.1, (parseR (seg 32 (s.drop p))).1.2.1, (parseR (seg 32 (s.drop p))).1.2.2.1)] rt ts tm c a s i0 i1 1 i3) := by
  unfold F.graphite_Parse.L2_graphite_cut_1.step
  have hl := seg_le 32 (s.drop p)
  simp only [List.length_drop] at hl
  rw [cond_true, sub_tail hp, some_bind', cut_eq n 32 (by simp; omega), some_bind']
  have g1 : ((1 : Int) == 0) = false := rfl
  simp only [beq_self_eq_true, cond_true, g1, cond_false]
  have w1 : IntKind.wrap .i64 ((p : Int) + ((seg 32 (s.drop p)).length : Int)) = ((p + (seg 32 (s.drop p)).length : Nat) : Int) := by rw [wrap_in (by omega)]; omega
  have w2 : IntKind.wrap .i64 ((p : Int) + (IntKind.wrap .i64 (((seg 32 (s.drop p)).length : Int) + (1 : Int)))) = ((p + (seg 32 (s.drop p)).length + 1 : Nat) : Int) := by rw [wrap_in (x := ((seg 32 (s.drop p)).length : Int) + 1) (by omega), wrap_in (by omega)]; omega
  have w3 : IntKind.wrap .i64 ((1 : Int) + 1) = 2 := rfl
  rw [decparse_eq n hn _ (by omega), some_bind', faultN_both (fun h => parseR_at h), w1, w2, w3]
  by_cases h0 : (parseR (seg 32 (s.drop p))).2.1.1 = 0
  · have e0 : ((parseR (seg 32 (s.drop p))).2.1.1 == 0) = true := by simp [h0]
    have d2 : decide ((1 : Int) < 2) = true := rfl
    rw [e0, Bool.not_true, cond_false, if_neg (fun h => h h0), d2]
    by_cases hm : 32 ∈ s.drop p
    · rw [decide_eq_true hm, if_neg (fun h => h hm)]; rfl
    · rw [decide_eq_false hm, if_pos hm]; rfl
  · have e0 : ((parseR (seg 32 (s.drop p))).2.1.1 == 0) = false := by simpa using h0
    rw [e0, if_pos h0]; rfl
theorem g_round2 (hn : 200000 ≤ n) (p : Nat) (hp : p ≤ s.length) (hs : s.length ≤ 10000) :
    F.graphite_Parse.L2_graphite_cut_1.step n rec k0 kr (p : Int) 2 true b0 b1 b2 b3 b4 b5 b6 b7 nm kd vs rt ts tm c a s i0 i1 i2 i3 =
      (if ¬ (timeR (seg 32 (s.drop p))).2.1.1 = 0 then kr b0 b1 b2 b3 b4 b5 b6 b7 nm kd vs rt ts tm 20 (p : Int) s i0 i1 i2 i3
      else if 32 ∈ s.drop p then kr b0 b1 b2 b3 b4 b5 b6 b7 nm kd vs rt ts (timeR (seg 32 (s.drop p))).1 11 ((p + (seg 32 (s.drop p)).length : Nat) : Int) s i0 i1 i2 i3
      else rec ((p + (seg 32 (s.drop p)).length + 1 : Nat) : Int) 3 false b0 b1 b2 b3 b4 b5 b6 b7 nm kd vs rt ts (timeR (seg 32 (s.drop p))).1 c a s i0 i1 i2 i3) := by
  unfold F.graphite_Parse.L2_graphite_cut_1.step
  have hl := seg_le 32 (s.drop p)
  simp only [List.length_drop] at hl
  rw [cond_true, sub_tail hp, some_bind', cut_eq n 32 (by simp; omega), some_bind']
  have g1 : ((2 : Int) == 0) = false := rfl
  have g2 : ((2 : Int) == 1) = false := rfl
  simp only [g1, g2, cond_false]
  have w1 : IntKind.wrap .i64 ((p : Int) + ((seg 32 (s.drop p)).length : Int)) = ((p + (seg 32 (s.drop p)).length : Nat) : Int) := by rw [wrap_in (by omega)]; omega
  have w2 : IntKind.wrap .i64 ((p : Int) + (IntKind.wrap .i64 (((seg 32 (s.drop p)).length : Int) + (1 : Int)))) = ((p + (seg 32 (s.drop p)).length + 1 : Nat) : Int) := by rw [wrap_in (x := ((seg 32 (s.drop p)).length : Int) + 1) (by omega), wrap_in (by omega)]; omega
  have w3 : IntKind.wrap .i64 ((2 : Int) + 1) = 3 := rfl
  rw [time_eq n _ (by omega) (by omega), some_bind', faultN_both (fun h => parseNum_at h), w1, w2, w3]
  by_cases h0 : (timeR (seg 32 (s.drop p))).2.1.1 = 0
  · have e0 : ((timeR (seg 32 (s.drop p))).2.1.1 == 0) = true := by simp [h0]
    have d2 : decide ((2 : Int) < 2) = false := rfl
    rw [e0, Bool.not_true, cond_false, if_neg (fun h => h h0), d2]
    by_cases hm : 32 ∈ s.drop p
    · rw [decide_eq_true hm, if_pos hm]; rfl
    · rw [decide_eq_false hm, if_neg hm]; rfl
  · have e0 : ((timeR (seg 32 (s.drop p))).2.1.1 == 0) = false := by simpa using h0
    rw [e0, if_pos h0]; rfl
end
theorem grParse_eq (n : Nat) (hn : 200000 ≤ n) (s : List UInt8) (hs : s.length ≤ 10000) : F.graphite_Parse n s = some (grParse s) := by
  unfold F.graphite_Parse
  generalize hk0 : (fun (e6_b0_0 : List UInt8) (e6_b0_1 : Int) (e6_b0_2 : List DecL) (e6_b0_3 : Int) (e6_b0_4 : List TagL) (e6_b0_5 e6_b1_0 e6_b1_1 : Int) (e6_b2_0 : List UInt8) (e6_b2_1 : Int) (e6_b2_2 : List DecL) (e6_b2_3 : Int) (e6_b2_4 : List TagL) (e6_b2_5 e6_b3_0 e6_b3_1 : Int) (e6_b4_0 : List UInt8) (e6_k0 e6_k1 e6_k2 e6_k3 : Nat) =>
      bif !((e6_b3_0 == (0 : Int)) && (e6_b3_1 == (0 : Int))) then
        some (((([], (0 : Int), [], (0 : Int), [], (0 : Int), ()), (e6_b3_0, e6_b3_1, ()), ()) : MetR))
      else
        some (((e6_b2_0, e6_b2_1, e6_b2_2, e6_b2_3, e6_b2_4, e6_b2_5, ()), (e6_b3_0, e6_b3_1, ()), ()))) = k0
  have hbad : ∀ (b0 : List UInt8) (b1 : Int) (b2 : List DecL) (b3 : Int) (b4 : List TagL) (b5 b6 b7 : Int) (nm : List UInt8) (kd : Int) (vs : List DecL) (rt : Int) (ts : List TagL) (tm c a : Int) (s : List UInt8) (i0 i1 i2 i3 : Nat), ¬ c = 0 → k0 b0 b1 b2 b3 b4 b5 b6 b7 nm kd vs rt ts tm c a s i0 i1 i2 i3 = some (badM c a) := by
    intro b0 b1 b2 b3 b4 b5 b6 b7 nm kd vs rt ts tm c a s i0 i1 i2 i3 hc
    rw [← hk0]
    simp only
    rw [beq_eq_false_iff_ne.2 hc]; rfl
  have hok : ∀ (b0 : List UInt8) (b1 : Int) (b2 : List DecL) (b3 : Int) (b4 : List TagL) (b5 b6 b7 : Int) (nm : List UInt8) (kd : Int) (vs : List DecL) (rt : Int) (ts : List TagL) (tm : Int) (s : List UInt8) (i0 i1 i2 i3 : Nat), k0 b0 b1 b2 b3 b4 b5 b6 b7 nm kd vs rt ts tm 0 0 s i0 i1 i2 i3 = some ((nm, kd, vs, rt, ts, tm, ()), (0, 0, ()), ()) := by
    intro b0 b1 b2 b3 b4 b5 b6 b7 nm kd vs rt ts tm s i0 i1 i2 i3
    rw [← hk0]; rfl
  obtain ⟨q, hq⟩ : ∃ q, n = q + 1 + 1 + 1 + 1 := ⟨n - 4, by omega⟩
  have st : ∀ m p i b b0 b1 b2 b3 b4 b5 b6 b7 nm kd vs rt ts tm c a s i0 i1 i2 i3, F.graphite_Parse.L2_graphite_cut_1 n k0 k0 (m + 1) p i b b0 b1 b2 b3 b4 b5 b6 b7 nm kd vs rt ts tm c a s i0 i1 i2 i3 = F.graphite_Parse.L2_graphite_cut_1.step n (F.graphite_Parse.L2_graphite_cut_1 n k0 k0 m) k0 k0 p i b b0 b1 b2 b3 b4 b5 b6 b7 nm kd vs rt ts tm c a s i0 i1 i2 i3 := fun _ _ _ _ _ _ _ _ _ _ _ _ _ _ _ _ _ _ _ _ _ _ _ _ _ => rfl
  have key : F.graphite_Parse.L2_graphite_cut_1 n k0 k0 (q + 1 + 1 + 1 + 1) 0 0 true [] 0 [] 0 [] 0 0 0 [] 2 [] 1000000 [] 0 0 0 s 0 0 0 0 = some (grParse s) := by
    have hl := seg_le 32 s
    have r0 := g_round0 n (F.graphite_Parse.L2_graphite_cut_1 n k0 k0 (q + 1 + 1 + 1)) k0 k0 [] 0 [] 0 [] 0 0 0 [] 2 [] 1000000 [] 0 0 0 s 0 0 0 0 hn 0 (by omega) hs
    rw [st]
    refine r0.trans ?_
    rw [List.drop_zero, Nat.zero_add]
    unfold grParse
    by_cases h1 : nameOK (seg 32 s) = false
    · rw [if_pos h1, if_pos h1]; exact hbad _ _ _ _ _ _ _ _ _ _ _ _ _ _ _ _ _ _ _ _ _ (by decide)
    rw [if_neg h1, if_neg h1]
    by_cases h2 : ¬ 32 ∈ s
    · rw [if_pos h2, if_pos h2]; exact hbad _ _ _ _ _ _ _ _ _ _ _ _ _ _ _ _ _ _ _ _ _ (by decide)
    rw [if_neg h2, if_neg h2]
    have hlt := seg_lt (Classical.not_not.1 h2)
    generalize hA : (seg 32 s).length = A at *
    have hl2 := seg_le 32 (s.drop (A + 1))
    simp only [List.length_drop] at hl2
    rw [st, g_round1 n _ k0 k0 _ _ _ _ _ _ _ _ _ _ _ _ _ _ _ _ s _ _ _ _ hn (A + 1) (by omega) hs]
    unfold valueG
    by_cases h3 : ¬ (parseR (seg 32 (s.drop (A + 1)))).2.1.1 = 0
    · rw [if_pos h3, if_pos h3]; exact hbad _ _ _ _ _ _ _ _ _ _ _ _ _ _ _ _ _ _ _ _ _ (by decide)
    rw [if_neg h3, if_neg h3]
    by_cases h4 : ¬ 32 ∈ s.drop (A + 1)
    · rw [if_pos h4, if_pos h4]; exact hbad _ _ _ _ _ _ _ _ _ _ _ _ _ _ _ _ _ _ _ _ _ (by decide)
    rw [if_neg h4, if_neg h4]
    have hlt2 := seg_lt (Classical.not_not.1 h4)
    simp only [List.length_drop] at hlt2
    have hd2 : (s.drop (A + 1)).drop ((seg 32 (s.drop (A + 1))).length + 1) = s.drop (A + 1 + (seg 32 (s.drop (A + 1))).length + 1) := by rw [List.drop_drop]; rfl
    rw [hd2]
    generalize hB : A + 1 + (seg 32 (s.drop (A + 1))).length = B at *
    rw [st, g_round2 n _ k0 k0 _ _ _ _ _ _ _ _ _ _ _ _ _ _ _ _ s _ _ _ _ hn (B + 1) (by omega) hs]
    unfold timeS
    by_cases h5 : ¬ (timeR (seg 32 (s.drop (B + 1)))).2.1.1 = 0
    · rw [if_pos h5, if_pos h5]; exact hbad _ _ _ _ _ _ _ _ _ _ _ _ _ _ _ _ _ _ _ _ _ (by decide)
    rw [if_neg h5, if_neg h5]
    by_cases h6 : 32 ∈ s.drop (B + 1)
    · rw [if_pos h6, if_pos h6]; exact hbad _ _ _ _ _ _ _ _ _ _ _ _ _ _ _ _ _ _ _ _ _ (by decide)
    rw [if_neg h6, if_neg h6, st, g_end]
    exact hok _ _ _ _ _ _ _ _ _ _ _ _ _ _ _ _ _ _ _
  rw [← hq] at key
  exact key
end Go.AM
set_option linter.unusedVariables false
set_option linter.unusedSimpArgs false
namespace Go.AM
theorem gr_cases (s : List UInt8) : (∃ c a : Int, grParse s = badM c a ∧ c ≠ 0 ∧ 0 ≤ a ∧ a ≤ s.length) ∨
    (∃ name value time d, s = name ++ 32 :: (value ++ 32 :: time) ∧ nameOK name = true ∧ (32 : UInt8) ∉ name ∧ (32 : UInt8) ∉ value ∧ (32 : UInt8) ∉ time ∧ parseR value = ((d.1, d.2.1, d.2.2, ()), (0, 0, ()), ()) ∧ (timeR time).2.1.1 = 0 ∧ grParse s = OkG name d (timeR time).1) := by
  unfold grParse
  have hl := seg_le 32 s
  by_cases h1 : nameOK (seg 32 s) = false
  · rw [if_pos h1]
    exact Or.inl ⟨15, 0, rfl, by decide, by omega, by omega⟩
  rw [if_neg h1]
  by_cases h2 : ¬ 32 ∈ s
  · rw [if_pos h2]
    exact Or.inl ⟨11, _, rfl, by decide, by omega, by omega⟩
  rw [if_neg h2]
  have h2' := Classical.not_not.1 h2
  have hsp := seg_split h2'
  have hfr := seg_free 32 s
  have hlen := congrArg List.length hsp
  simp only [List.length_append, List.length_cons] at hlen
  generalize seg 32 s = name at *
  generalize s.drop (name.length + 1) = t at *
  unfold valueG
  have hl2 := seg_le 32 t
  by_cases h3 : ¬ (parseR (seg 32 t)).2.1.1 = 0
  · rw [if_pos h3]
    exact Or.inl ⟨17, _, rfl, by decide, by omega, by omega⟩
  rw [if_neg h3]
  by_cases h4 : ¬ 32 ∈ t
  · rw [if_pos h4]
    exact Or.inl ⟨11, _, rfl, by decide, by omega, by omega⟩
  rw [if_neg h4]
  have h4' := Classical.not_not.1 h4
  have hsp2 := seg_split h4'
  have hfr2 := seg_free 32 t
  have hlen2 := congrArg List.length hsp2
  simp only [List.length_append, List.length_cons] at hlen2
  generalize seg 32 t = value at *
  generalize t.drop (value.length + 1) = u at *
  unfold timeS
  have hl3 := seg_le 32 u
  by_cases h5 : ¬ (timeR (seg 32 u)).2.1.1 = 0
  · rw [if_pos h5]
    exact Or.inl ⟨20, _, rfl, by decide, by omega, by omega⟩
  rw [if_neg h5]
  by_cases h6 : 32 ∈ u
  · rw [if_pos h6]
    exact Or.inl ⟨11, _, rfl, by decide, by omega, by omega⟩
  rw [if_neg h6]
  rw [seg_all h6] at h5 ⊢
  have h3' := Classical.not_not.1 h3
  have hat := parseR_at h3'
  refine Or.inr ⟨name, value, u, ((parseR value).1.1, (parseR value).1.2.1, (parseR value).1.2.2.1), by rw [← hsp2, ← hsp], by simpa using h1, hfr, hfr2, h6, ?_, Classical.not_not.1 h5, rfl⟩
  generalize parseR value = z at h3' hat
  obtain ⟨⟨a, b, c, _⟩, ⟨x, y, _⟩, _⟩ := z
  simp only at h3' hat
  subst h3' hat
  rfl
end Go.AM
set_option linter.unusedVariables false
set_option linter.unusedSimpArgs false
namespace Go.AM
def insD (t : TagL) : List TagL → List TagL
  | [] => [t]
  | x :: r => if ltT x t then x :: insD t r else if x = t then x :: r else t :: x :: r
def normT (l : List TagL) : List TagL := l.foldl (fun o t => insD t o) []
abbrev StrictT (l : List TagL) : Prop := l.Pairwise fun a b => ltT a b = true
theorem insD_mem (t : TagL) : ∀ (l : List TagL) (x : TagL), x ∈ insD t l ↔ x = t ∨ x ∈ l
  | [], x => by simp [insD]
  | y :: r, x => by
    unfold insD
    split
    · simp only [List.mem_cons, insD_mem t r x]
      constructor
      · rintro (h | h | h) <;> simp [h]
      · rintro (h | h | h) <;> simp [h]
    · split
      · rename_i e
        subst e
        simp only [List.mem_cons]
        constructor
        · rintro (h | h) <;> simp [h]
        · rintro (h | h | h) <;> simp [h]
      · simp only [List.mem_cons]
theorem insD_strict (t : TagL) : ∀ (l : List TagL), StrictT l → StrictT (insD t l)
  | [], _ => by simp [insD, StrictT]
  | y :: r, h => by
    obtain ⟨h1, h2⟩ := List.pairwise_cons.1 h
    unfold insD
    split
    · rename_i hy
      refine List.pairwise_cons.2 ⟨fun x hx => ?_, insD_strict t r h2⟩
      rcases (insD_mem t r x).1 hx with rfl | hx
      · exact hy
      · exact h1 x hx
    · rename_i hy
      split
      · exact h
      · rename_i hne
        have hty : ltT t y = true := by
          cases hc : ltT t y
          · exact absurd (ltT_total (by simpa using hy) hc) hne
          · rfl
        refine List.pairwise_cons.2 ⟨fun x hx => ?_, h⟩
        rcases List.mem_cons.1 hx with rfl | hx
        · exact hty
        · exact ltT_trans hty (h1 x hx)
theorem strict_unique : ∀ (a b : List TagL), StrictT a → StrictT b → (∀ x, x ∈ a ↔ x ∈ b) → a = b
  | [], [], _, _, _ => rfl
  | [], y :: b, _, _, h => by have := (h y).2 (by simp); cases this
  | x :: a, [], _, _, h => by have := (h x).1 (by simp); cases this
  | x :: a, y :: b, ha, hb, h => by
    obtain ⟨h1, h2⟩ := List.pairwise_cons.1 ha
    obtain ⟨h3, h4⟩ := List.pairwise_cons.1 hb
    have e : x = y := by
      rcases List.mem_cons.1 ((h x).1 (by simp)) with e | e
      · exact e
      · rcases List.mem_cons.1 ((h y).2 (by simp)) with e' | e'
        · exact e'.symm
        · have := ltT_asymm (h1 y e'); rw [h3 x e] at this; cases this
    subst e
    rw [strict_unique a b h2 h4 (fun z => ?_)]
    have hx := h z
    simp only [List.mem_cons] at hx
    constructor
    · intro hz
      rcases hx.1 (Or.inr hz) with rfl | h'
      · have := h1 _ hz; rw [ltT_irrefl] at this; cases this
      · exact h'
    · intro hz
      rcases hx.2 (Or.inr hz) with rfl | h'
      · have := h3 _ hz; rw [ltT_irrefl] at this; cases this
      · exact h'
theorem normT_fold : ∀ (l o : List TagL), StrictT o → StrictT (l.foldl (fun o t => insD t o) o) ∧ ∀ x, x ∈ l.foldl (fun o t => insD t o) o ↔ x ∈ o ∨ x ∈ l
  | [], o, h => ⟨h, fun x => by simp⟩
  | t :: l, o, h => by
    obtain ⟨h1, h2⟩ := normT_fold l (insD t o) (insD_strict t o h)
    refine ⟨h1, fun x => ?_⟩
    rw [List.foldl_cons, h2 x, insD_mem, List.mem_cons]
    constructor
    · rintro ((h | h) | h) <;> simp [h]
    · rintro (h | h | h) <;> simp [h]
theorem normT_strict (l : List TagL) : StrictT (normT l) := (normT_fold l [] List.Pairwise.nil).1
theorem normT_mem (l : List TagL) (x : TagL) : x ∈ normT l ↔ x ∈ l := by
  unfold normT; rw [(normT_fold l [] List.Pairwise.nil).2 x]; simp
theorem insD_len (t : TagL) : ∀ l, (insD t l).length ≤ l.length + 1
  | [] => by simp [insD]
  | y :: r => by
    unfold insD
    have := insD_len t r
    split
    · simp; omega
    · split <;> simp
theorem normT_len (l : List TagL) : (normT l).length ≤ l.length := by
  have : ∀ (l o : List TagL), (l.foldl (fun o t => insD t o) o).length ≤ o.length + l.length := by
    intro l
    induction l with
    | nil => intro o; simp
    | cons t l ih => intro o; have h1 := ih (insD t o); have h2 := insD_len t o; simp only [List.foldl_cons, List.length_cons]; omega
  have h := this l []
  simp only [List.length_nil, Nat.zero_add] at h
  exact h
def dedF (D : List TagL) (t : TagL) : List TagL := if D.getLast? = some t then D else D ++ [t]
theorem dedF_fold : ∀ (s D : List TagL), SortedT s → StrictT D → (∀ a ∈ D, ∀ b ∈ s, ltT b a = false) → StrictT (s.foldl dedF D) ∧ ∀ x, x ∈ s.foldl dedF D ↔ x ∈ D ∨ x ∈ s
  | [], D, _, h, _ => ⟨h, fun x => by simp⟩
  | t :: s, D, hs, hD, hb => by
    obtain ⟨h1, h2⟩ := List.pairwise_cons.1 hs
    have key : StrictT (dedF D t) ∧ (∀ x, x ∈ dedF D t ↔ x ∈ D ∨ x = t) := by
      unfold dedF
      split
      · rename_i e
        have ht : t ∈ D := List.mem_of_getLast? e
        exact ⟨hD, fun x => ⟨Or.inl, fun h => h.elim id (fun e => e ▸ ht)⟩⟩
      · rename_i e
        refine ⟨?_, fun x => by simp⟩
        refine List.pairwise_append.2 ⟨hD, List.pairwise_singleton _ _, fun a ha b hb' => ?_⟩
        rw [List.mem_singleton.1 hb']
        have h0 := hb a ha t (by simp)
        cases hc : ltT a t
        · exfalso
          have : a = t := ltT_total hc h0
          subst this
          apply e
          have : ∀ (D : List TagL), StrictT D → (∀ x ∈ D, ltT a x = false) → a ∈ D → D.getLast? = some a := by
            intro D
            induction D with
            | nil => intro _ _ h; cases h
            | cons y D ih =>
              intro hp hm hin
              obtain ⟨p1, p2⟩ := List.pairwise_cons.1 hp
              cases D with
              | nil => rcases List.mem_cons.1 hin with rfl | h
                       · rfl
                       · cases h
              | cons z D =>
                rw [List.getLast?_cons_cons]
                refine ih p2 (fun x hx => hm x (List.mem_cons_of_mem _ hx)) ?_
                rcases List.mem_cons.1 hin with rfl | h
                · have := p1 z (by simp); rw [hm z (by simp)] at this; cases this
                · exact h
          exact this D hD (fun x hx => hb x hx a (by simp)) ha
        · rfl
    obtain ⟨k1, k2⟩ := key
    obtain ⟨f1, f2⟩ := dedF_fold s (dedF D t) h2 k1 (fun a ha b hb' => by
      rcases (k2 a).1 ha with ha | rfl
      · exact hb a ha b (List.mem_cons_of_mem _ hb')
      · exact h1 b hb')
    refine ⟨f1, fun x => ?_⟩
    rw [List.foldl_cons, f2 x, k2 x, List.mem_cons]
    constructor
    · rintro ((h | h) | h) <;> simp [h]
    · rintro (h | h | h) <;> simp [h]
theorem ded_norm (l : List TagL) : (sortTags l).foldl dedF [] = normT l := by
  obtain ⟨h1, h2⟩ := dedF_fold (sortTags l) [] (sortTags_sorted l) List.Pairwise.nil (fun a ha => by cases ha)
  refine strict_unique _ _ h1 (normT_strict l) (fun x => ?_)
  rw [h2 x, normT_mem, (sortTags_perm l).mem_iff]; simp
theorem upd_set {α : Type} : ∀ (l : List α) (k : Nat) (x : α), upd l k x = l.set k x
  | [], _, _ => rfl
  | _ :: l, 0, _ => rfl
  | _ :: l, k + 1, x => by simp [upd, upd_set l k x]
end Go.AM
set_option linter.unusedVariables false
set_option linter.unusedSimpArgs false
namespace Go.AM
theorem getLast_take {α : Type} {L D : List α} {k : Nat} (h : L.take D.length = D) (hk : D.length = k + 1) : L[k]? = D.getLast? := by
  rw [List.getLast?_eq_getElem?]
  have : D[D.length - 1]? = (L.take D.length)[D.length - 1]? := by rw [h]
  rw [this, hk, List.getElem?_take]
  simp
theorem take_set {α : Type} {L D : List α} (x : α) (h : L.take D.length = D) (hk : D.length < L.length) : (L.set D.length x).take (D ++ [x]).length = D ++ [x] := by
  rw [List.length_append, List.length_singleton, List.take_add_one, List.take_set_of_le (Nat.le_refl _), h]
  simp [hk]
theorem drop_set {α : Type} (L : List α) (i k : Nat) (x : α) (h : i ≤ k) : (L.set i x).drop (k + 1) = L.drop (k + 1) := List.drop_set_of_lt (by omega)
theorem norm_loop (n : Nat) (X : Type) (k0 : (Nat × Nat) → Int → (Nat × List TagL) → (Nat × List TagL) → (Nat × List TagL) → Option X) (v N : Nat) (hN : N ≤ 100000) (b0 b1 : Nat × List TagL) :
    ∀ (r D L : List TagL) (i m : Nat), L.drop i = r → i ≤ N → r.length < m → D.length ≤ i → (i = 0 ↔ D = []) → L.length = N → L.take D.length = D →
    ∃ L', L'.take (r.foldl dedF D).length = r.foldl dedF D ∧ L'.length = N ∧ F.tag_Normal.L5 n k0 m (v, N) (D.length : Int) (v, N) (N : Int) (i : Int) b0 b1 (v, L) = k0 (v, N) ((r.foldl dedF D).length : Int) b0 b1 (v, L') := by
  intro r
  induction r with
  | nil =>
    intro D L i m hr hi hm hD h0 hL hT
    obtain ⟨m, rfl⟩ : ∃ p, m = p + 1 := ⟨m - 1, by omega⟩
    refine ⟨L, hT, hL, ?_⟩
    rw [F.tag_Normal.L5]
    unfold F.tag_Normal.L5.step
    dsimp only
    rw [bif_neg (by have := drop_nil' hr; omega)]
    rfl
  | cons x r ih =>
    intro D L i m hr hi hm hD h0 hL hT
    obtain ⟨m, rfl⟩ : ∃ p, m = p + 1 := ⟨m - 1, by simp at hm; omega⟩
    obtain ⟨l1, g1, t1⟩ := drop_cons hr
    have hw : IntKind.wrap .i64 ((D.length : Int) + 1) = ((D.length + 1 : Nat) : Int) := wrap_succ (by omega)
    have hput : ∃ L', L'.take (r.foldl dedF (D ++ [x])).length = r.foldl dedF (D ++ [x]) ∧ L'.length = N ∧ F.tag_Normal.L5 n k0 m (v, N) (((D ++ [x]).length : Nat) : Int) (v, N) (N : Int) ((i + 1 : Nat) : Int) b0 b1 (v, L.set D.length x) = k0 (v, N) ((r.foldl dedF (D ++ [x])).length : Int) b0 b1 (v, L') :=
      ih (D ++ [x]) (L.set D.length x) (i + 1) m (by rw [drop_set L D.length i x hD]; exact t1) (by omega) (by simp at hm; omega) (by simp; omega) (by simp) (by simpa using hL) (take_set x hT (by omega))
    rw [F.tag_Normal.L5]
    unfold F.tag_Normal.L5.step
    dsimp only
    rw [List.foldl_cons]
    have hb1 : (decide ((0 : Int) ≤ (i : Int)) && decide ((i : Int) < (N : Int))) = true := by simp; omega
    have hb2 : (decide ((0 : Int) ≤ (D.length : Int)) && decide ((D.length : Int) < (N : Int))) = true := by simp; omega
    have hbe : Nat.beq v v = true := Nat.beq_refl v
    rw [bif_pos (by omega : (i : Int) < (N : Int)), hb1, hbe, cond_true, cond_true, idx_nat, g1, some_bind', wrap_succ (by omega : i < 4611686018427387904)]
    by_cases hi0 : i = 0
    · have hD0 := h0.1 hi0
      have e0 : ((i : Int) == 0) = true := by simp [hi0]
      rw [e0, cond_true, hb2, cond_true, cond_true, idx_lt (by omega : D.length < L.length), some_bind', hw, Int.toNat_natCast, upd_set]
      have hd : dedF D x = D ++ [x] := by rw [hD0]; rfl
      rw [hd]
      obtain ⟨L', q1, q2, q3⟩ := hput
      refine ⟨L', q1, q2, ?_⟩
      rw [← q3, List.length_append, List.length_singleton]
    · have e0 : ((i : Int) == 0) = false := by simpa using hi0
      have hne : D ≠ [] := fun h => hi0 (h0.2 h)
      have hpos : 0 < D.length := List.length_pos_iff.2 hne
      have hwp : IntKind.wrap .i64 ((D.length : Int) - 1) = ((D.length - 1 : Nat) : Int) := by rw [wrap_in (by omega)]; omega
      have hb3 : (decide ((0 : Int) ≤ ((D.length - 1 : Nat) : Int)) && decide (((D.length - 1 : Nat) : Int) < (N : Int))) = true := by simp; omega
      obtain ⟨y, hy⟩ : ∃ y, D.getLast? = some y := ⟨_, List.getLast?_eq_some_getLast hne⟩
      have gl : L[D.length - 1]? = some y := by rw [getLast_take hT (by omega), hy]
      rw [e0, cond_false, hwp, hb3, cond_true, cond_true, idx_nat, gl, some_bind', tagL_beq]
      by_cases hxy : x = y
      · rw [decide_eq_true hxy, Bool.not_true, cond_false]
        have hd : dedF D x = D := by unfold dedF; rw [hy, hxy, if_pos rfl]
        rw [hd]
        exact ih D L (i + 1) m t1 (by omega) (by simp at hm; omega) (by omega) (by simp [hne]) hL hT
      · rw [decide_eq_false hxy, Bool.not_false, cond_true, hb2, cond_true, cond_true, idx_lt (by omega : D.length < L.length), some_bind', hw, Int.toNat_natCast, upd_set]
        have hd : dedF D x = D ++ [x] := by unfold dedF; rw [hy, if_neg (by simpa using fun h : y = x => hxy h.symm)]
        rw [hd]
        obtain ⟨L', q1, q2, q3⟩ := hput
        refine ⟨L', q1, q2, ?_⟩
        rw [← q3, List.length_append, List.length_singleton]
theorem clip_eq (n : Nat) (l : List TagL) : F.slices_Clip_api_Tag_api_Tag n l = some l := by
  unfold F.slices_Clip_api_Tag_api_Tag
  rw [beq_self_eq_true, cond_true, show (0 : Int) = ((0 : Nat) : Int) from rfl, sub_nat l 0 l.length (by omega) (by omega)]
  simp
theorem norm_out (n : Nat) (hn : 200000 ≤ n) (l : List TagL) (hl : l.length ≤ 100000) (v : Nat) (b0 b1 : Nat × List TagL) :
    F.tag_Normal.L5 n (fun (e11_3 : Nat × Nat) (e11_4 : Int) (e11_b0_0 e11_b1_0 e11_b2_0 : Nat × List TagL) =>
          bif Nat.beq e11_3.1 e11_b2_0.1 then
            (sub e11_b2_0.2 (0 : Int) e11_4).bind fun x12 =>
              (F.slices_Clip_api_Tag_api_Tag n x12).bind fun y13 =>
                some (y13)
          else
            none) n (v, l.length) (0 : Int) (v, l.length) (l.length : Int) (0 : Int) b0 b1 (v, sortTags l) = some (normT l) := by
  obtain ⟨L', q1, q2, q3⟩ := norm_loop n _ (fun (e11_3 : Nat × Nat) (e11_4 : Int) (e11_b0_0 e11_b1_0 e11_b2_0 : Nat × List TagL) =>
          bif Nat.beq e11_3.1 e11_b2_0.1 then
            (sub e11_b2_0.2 (0 : Int) e11_4).bind fun x12 =>
              (F.slices_Clip_api_Tag_api_Tag n x12).bind fun y13 =>
                some (y13)
          else
            none) v l.length hl b0 b1 (sortTags l) [] (sortTags l) 0 n rfl (by omega) (by rw [sortTags_length]; omega) (by simp) (by simp) (sortTags_length l) rfl
  refine q3.trans ?_
  rw [ded_norm] at q1 ⊢
  dsimp only
  rw [Nat.beq_refl, cond_true, show (0 : Int) = ((0 : Nat) : Int) from rfl, sub_nat L' 0 _ (by omega) (by rw [q2]; exact normT_len l), q1]
  simp only [some_bind', List.drop_zero, clip_eq]
theorem tagNormal_eq (n : Nat) (hn : 200000 ≤ n) (l : List TagL) (hl : l.length ≤ 100000) : F.tag_Normal n l = some (normT l) := by
  have e1 : (decide ((0 + l.length) * 32 ≤ 2 ^ 46) && decide (0 < 32 ∧ 32 ≤ 2 ^ 20)) = true := by
    rw [decide_eq_true (by omega)]; rfl
  have e2 : ∀ l : List TagL, l.length ≤ 100000 → (Nat.beq (sortTags l).length l.length && Nat.blt l.length strMax) = true := by
    intro l hl
    rw [sortTags_length, Nat.beq_refl, Bool.true_and, strMax_eq]
    exact Nat.ble_eq ▸ (by omega : l.length + 1 ≤ 4611686018427387904)
  unfold F.tag_Normal
  rw [List.nil_append, e1, cond_true, e2 l hl, cond_true]
  cases l with
  | nil =>
    have h1 := norm_out n hn [] (by simp) 1 (1, []) (1, [])
    have h2 := norm_out n hn [] (by simp) 2 (1, []) (1, [])
    refine Eq.trans (b := both (some (normT [])) (some (normT []))) ?_ (both_same _)
    rw [List.isEmpty_nil, cond_true]
    congr 1
  | cons t l =>
    exact norm_out n hn (t :: l) hl 2 (1, []) (1, [])
end Go.AM
set_option linter.unusedVariables false
set_option linter.unusedSimpArgs false
namespace Go.AM
def zeroM : MetD := ([], (0 : Int), [], (0 : Int), [], (0 : Int), ())
end Go.AM
set_option linter.unusedVariables false
set_option linter.unusedSimpArgs false
namespace Go.AM
def TagS (t : TagL) : Prop := t.1.length ≤ 1000 ∧ t.2.length ≤ 1000
theorem textF_zero {c : Int} {s : List UInt8} {lo hi : Int} (h : (textF c s lo hi).1 = 0) : lo ≤ (s.length : Int) ∧ (s.length : Int) ≤ hi ∧ s.all (cls c) = true := by
  unfold textF at h
  split at h
  · cases h
  · split at h
    · cases h
    · split at h
      · cases h
      · split at h
        · cases h
        · rename_i h1 h2 h3 h4
          exact ⟨by omega, by omega, Classical.byContradiction fun hh => h4 ((badK_ge _ _ _).2 hh)⟩
theorem tagGood_le {t : TagL} (h : tagGood t = true) : TagS t := by
  unfold tagGood at h
  simp only [Bool.and_eq_true, beq_iff_eq] at h
  have h1 := textF_zero h.1
  have h2 := textF_zero h.2
  exact ⟨by omega, by omega⟩
end Go.AM
set_option linter.unusedVariables false
set_option linter.unusedSimpArgs false
namespace Go.AM
structure RightM (m : MetD) : Prop where
  ok : MetOK m
  chk : chkM m = 0
theorem right_vals {m : MetD} (h : RightM m) : (∀ d ∈ m.2.2.1, DecLOK d ∧ decC d = 0) ∧ 1 ≤ m.2.2.1.length ∧ m.2.2.1.length ≤ 64 := by
  have := (chk_zero h.chk).2.2.1
  unfold valsB at this
  simp only [Bool.and_eq_true, decide_eq_true_eq] at this
  refine ⟨fun d hd => ⟨h.ok.2.1.2 d hd, ?_⟩, this.1, this.2.1⟩
  simpa using List.all_eq_true.1 this.2.2 d hd
theorem right_tags {m : MetD} (h : RightM m) : (∀ t ∈ m.2.2.2.2.1, TagS t ∧ tagGood t = true) ∧ m.2.2.2.2.1.length ≤ 32 := by
  have := (chk_zero h.chk).2.2.2.2.1
  unfold tagsB at this
  simp only [Bool.and_eq_true, decide_eq_true_eq] at this
  exact ⟨fun t ht => ⟨tagGood_le (List.all_eq_true.1 this.2 t ht), List.all_eq_true.1 this.2 t ht⟩, this.1⟩
theorem nameOK_le {s : List UInt8} (h : nameOK s = true) : 1 ≤ s.length ∧ s.length ≤ 200 := by
  rw [nameOK_eq] at h
  simp only [Bool.and_eq_true, decide_eq_true_eq] at h
  exact h.2
end Go.AM
set_option linter.unusedVariables false
set_option linter.unusedSimpArgs false
namespace Go.AM
abbrev Res (α : Type) := Except (Int × Int) α
def kindR (s : List UInt8) : Int := if s = [99] then 1 else if s = [103] then 2 else if s = [109, 115] then 3 else if s = [104] then 4 else if s = [100] then 5 else 0
theorem kind_eq (n : Nat) (hn : 100 ≤ n) (s : List UInt8) : F.dog_Kind n s = some (if kindR s = 0 then (0, 16, ()) else (kindR s, 0, ())) := by
  obtain ⟨m, hm⟩ : ∃ q, n = q + 7 := ⟨n - 7, by omega⟩
  unfold F.dog_Kind
  rw [show F.dog_words n = some ([], [99], [103], [109, 115], [104], [100], ()) from rfl, some_bind']
  have L : ∀ (k0 : Unit → Option (Int × Int × Unit)) (kr : Int → Int → Option (Int × Int × Unit)), F.dog_Kind.L2 n k0 kr (m + 7) s ([], [99], [103], [109, 115], [104], [100], ()) (0 : Int) = if s = [99] then kr 1 0 else if s = [103] then kr 2 0 else if s = [109, 115] then kr 3 0 else if s = [104] then kr 4 0 else if s = [100] then kr 5 0 else k0 () := by
    intro k0 kr
    have e1 : ([99] == s) = decide (s = [99]) := by by_cases h : s = [99] <;> simp [h]; exact fun h' => h h'.symm
    have e2 : ([103] == s) = decide (s = [103]) := by by_cases h : s = [103] <;> simp [h]; exact fun h' => h h'.symm
    have e3 : ([109, 115] == s) = decide (s = [109, 115]) := by by_cases h : s = [109, 115] <;> simp [h]; exact fun h' => h h'.symm
    have e4 : ([104] == s) = decide (s = [104]) := by by_cases h : s = [104] <;> simp [h]; exact fun h' => h h'.symm
    have e5 : ([100] == s) = decide (s = [100]) := by by_cases h : s = [100] <;> simp [h]; exact fun h' => h h'.symm
    show (bif [99] == s then kr 1 0 else bif [103] == s then kr 2 0 else bif [109, 115] == s then kr 3 0 else bif [104] == s then kr 4 0 else bif [100] == s then kr 5 0 else k0 ()) = _
    rw [e1, e2, e3, e4, e5]
    simp only [bdec]
  rw [hm] at L ⊢
  refine (L _ _).trans ?_
  unfold kindR
  repeat' split
  all_goals first | rfl | (simp_all)
def readVals : List (List UInt8) → List DecL → Int → Except Int (List DecL)
  | [], acc, _ => .ok acc
  | v :: r, acc, at_ => if (parseR v).2.1.1 = 0 ∧ acc.length ≠ 64 then readVals r (acc ++ [((parseR v).1.1, (parseR v).1.2.1, (parseR v).1.2.2.1)]) (at_ + v.length + 1) else .error at_
def restN (c : UInt8) (s : List UInt8) : List UInt8 := if c ∈ s then s.drop ((seg c s).length + 1) else []
def firstR (s : List UInt8) : Res (List UInt8 × List DecL) :=
  if nameOK (seg 58 s) = false then .error (15, 0)
  else if 58 ∉ s then .error (11, (s.length : Int))
  else match readVals (splitL 58 (restN 58 s)) [] ((seg 58 s).length + 1) with
    | .ok vs => .ok (seg 58 s, vs)
    | .error at_ => .error (17, at_)
def tagsR : List (List UInt8) → List TagL → Int → Except Int (List TagL)
  | [], acc, _ => .ok acc
  | p :: r, acc, at_ => if tagGood (seg 58 p, restN 58 p) = true ∧ ¬ (58 ∈ p ∧ restN 58 p = []) then tagsR r (acc ++ [(seg 58 p, restN 58 p)]) (at_ + p.length + 1) else .error at_
def moreR (m : MetD) (last : Int) : List UInt8 → Except Int (MetD × Int)
  | [] => .error 11
  | x :: s =>
    if x = 64 then (if 0 < last then .error 11 else if (rateR s).2.1.1 ≠ 0 ∨ (m.2.1 = 2 ∧ (rateR s).1 ≠ 1000000) then .error 18 else .ok ((m.1, m.2.1, m.2.2.1, (rateR s).1, m.2.2.2.2.1, m.2.2.2.2.2.1, ()), 1))
    else if x = 35 then (if 1 < last then .error 11 else match tagsR (splitL 44 s) [] 0 with
      | .error _ => .error 19
      | .ok l => if 32 < l.length then .error 19 else .ok ((m.1, m.2.1, m.2.2.1, m.2.2.2.1, normT l, m.2.2.2.2.2.1, ()), 2))
    else if x = 84 then (if 2 < last then .error 11 else if (parseNum s 1 1099511627776).2.1.1 ≠ 0 then .error 20 else .ok ((m.1, m.2.1, m.2.2.1, m.2.2.2.1, m.2.2.2.2.1, (parseNum s 1 1099511627776).1, ()), 3))
    else .error 11
def restR : List (List UInt8) → Int → MetD → Int → Res MetD
  | [], _, m, _ => .ok m
  | p :: r, at_, m, last => match moreR m last p with
    | .error e => .error (e, at_)
    | .ok (m', last') => restR r (at_ + p.length + 1) m' last'
def secondR (s p : List UInt8) (nm : List UInt8) (vs : List DecL) : List (List UInt8) → Res MetD
  | [] => .error (11, (s.length : Int))
  | q :: r => if kindR q = 0 then .error (16, (p.length : Int) + 1) else restR r ((p.length : Int) + 1 + (q.length + 1)) (nm, kindR q, vs, 1000000, [], 0, ()) 0
def linesR (s : List UInt8) : List (List UInt8) → Res MetD
  | [] => .error (11, 0)
  | p :: r => match firstR p with
    | .error e => .error e
    | .ok x => secondR s p x.1 x.2 r
abbrev ParseD := MetD × (Int × Int × Unit) × Unit
def outP : Res MetD → ParseD
  | .ok m => (m, (0, 0, ()), ())
  | .error e => (zeroM, (e.1, e.2, ()), ())
def parseD (s : List UInt8) : ParseD := if 8192 < s.length then (zeroM, (12, 0, ()), ()) else outP (linesR s (splitL 124 s))
theorem restN_le (c : UInt8) (s : List UInt8) : (restN c s).length ≤ s.length := by
  unfold restN; split <;> simp
theorem splitL_seg (c : UInt8) (s : List UInt8) : splitL c s = if c ∈ s then seg c s :: splitL c (restN c s) else [s] := by
  induction s with
  | nil => rfl
  | cons x s ih =>
    by_cases hx : x = c
    · subst hx
      have e1 : seg x (x :: s) = [] := by rw [seg_cons, if_pos rfl]
      have e2 : restN x (x :: s) = s := by unfold restN; rw [if_pos (by simp), e1]; rfl
      rw [if_pos (by simp), e1, e2, splitL, if_pos rfl]
    · have hmem : (c ∈ x :: s) ↔ c ∈ s := by simp [show ¬ c = x from fun h => hx h.symm]
      rw [splitL, if_neg hx, ih]
      by_cases hc : c ∈ s
      · rw [if_pos hc, if_pos (hmem.2 hc)]
        have e1 : seg c (x :: s) = x :: seg c s := by rw [seg_cons, if_neg hx]
        have e2 : restN c (x :: s) = restN c s := by unfold restN; rw [if_pos hc, if_pos (hmem.2 hc), e1]; rfl
        rw [e1, e2]
      · rw [if_neg hc, if_neg (fun h => hc (hmem.1 h))]
def sumL (l : List (List UInt8)) : Nat := (l.map fun p => p.length + 1).sum
theorem splitL_sum (c : UInt8) (s : List UInt8) : sumL (splitL c s) = s.length + 1 := by
  induction s with
  | nil => rfl
  | cons x s ih =>
    rw [splitL]
    split
    · simp only [sumL, List.map_cons, List.sum_cons, List.length_nil, List.length_cons] at ih ⊢
      omega
    · have hne := splitL_ne c s
      revert ih hne
      cases splitL c s with
      | nil => intro _ h; exact absurd rfl h
      | cons p l =>
        intro ih _
        simp only [sumL, List.map_cons, List.sum_cons, List.length_cons] at ih ⊢
        omega
theorem sumL_len (l : List (List UInt8)) : l.length ≤ sumL l := by
  induction l with
  | nil => simp [sumL]
  | cons p l ih => simp only [sumL, List.map_cons, List.sum_cons, List.length_cons] at ih ⊢; omega
theorem sumL_mem {l : List (List UInt8)} {p : List UInt8} (h : p ∈ l) : p.length + 1 ≤ sumL l := by
  induction l with
  | nil => cases h
  | cons q l ih =>
    simp only [sumL, List.map_cons, List.sum_cons] at ih ⊢
    rcases List.mem_cons.1 h with rfl | h
    · omega
    · have := ih h; omega
theorem split_eq (n : Nat) (c : UInt8) {s : List UInt8} (hs : s.length ≤ 1000000) : O.split1 n s [c] = some (splitL c s) := by
  unfold O.split1
  dsimp only
  rw [decide_eq_true (by omega)]; rfl
theorem parseR_bad (s : List UInt8) : ((parseR s).2.1.1 == 0 && (parseR s).2.1.2.1 == 0) = decide ((parseR s).2.1.1 = 0) := by
  by_cases h : (parseR s).2.1.1 = 0
  · rw [decide_eq_true h, h, parseR_at h]; rfl
  · rw [decide_eq_false h, beq_eq_false_iff_ne.2 h]; rfl
theorem tagsR_loop (n : Nat) (hn : 200000 ≤ n) (X : Type) (k0 kr : List TagL → Int → Int → Nat → Option X) (ps : List (List UInt8)) (hs : sumL ps ≤ 10000) (b0 b1 : Int) : ∀ (r : List (List UInt8)) (acc : List TagL) (a : Int) (i m : Nat), ps.drop i = r → acc.length ≤ i → i ≤ ps.length → r.length < m → 0 ≤ a → a + sumL r ≤ 10000 →
    F.tag_Parse.L4 n k0 kr m acc a ps (ps.length : Int) (i : Int) b0 b1 acc.length = match tagsR r acc a with
      | .ok l => k0 l b0 b1 l.length
      | .error e => kr [] 19 e 0 := by
  intro r
  have hpl := sumL_len ps
  induction r with
  | nil =>
    intro acc a i m h1 h2 hi hm ha has
    obtain ⟨m, rfl⟩ : ∃ q, m = q + 1 := ⟨m - 1, by omega⟩
    rw [F.tag_Parse.L4]
    unfold F.tag_Parse.L4.step
    dsimp only
    rw [bif_neg (by have := drop_nil' h1; omega)]
    rfl
  | cons p r ih =>
    intro acc a i m h1 h2 hi hm ha has
    obtain ⟨m, rfl⟩ : ∃ q, m = q + 1 := ⟨m - 1, by simp at hm; omega⟩
    obtain ⟨l1, g1, t1⟩ := drop_cons h1
    simp only [List.length_cons] at hm
    simp only [sumL, List.map_cons, List.sum_cons] at has
    have hp := sumL_mem (List.mem_of_getElem? g1)
    have hsl := seg_le 58 p
    have hrl := restN_le 58 p
    have hih := ih (acc ++ [(seg 58 p, restN 58 p)]) (a + p.length + 1) (i + 1) m t1 (by simp; omega) (by omega) (by omega) (by omega) (by simp only [sumL]; omega)
    have hcut : F.strings_Cut n p [58] = some (seg 58 p, restN 58 p, decide (58 ∈ p), ()) := cut_eq n 58 (by omega)
    have hw : IntKind.wrap .i64 (a + IntKind.wrap .i64 ((p.length : Int) + 1)) = a + p.length + 1 := by
      rw [wrap_succ (by omega), wrap_in (by omega)]; omega
    have hg : (decide ((acc.length + 1) * 32 ≤ 2 ^ 46) && decide (0 < 32 ∧ 32 ≤ 2 ^ 20)) = true := by rw [decide_eq_true (by omega)]; rfl
    rw [F.tag_Parse.L4]
    unfold F.tag_Parse.L4.step
    dsimp only
    rw [bif_pos (by omega), idx_nat, g1, some_bind', hcut, some_bind']
    dsimp only
    have hc := tag_chk n hn (t := (seg 58 p, restN 58 p)) ⟨by show (seg 58 p).length ≤ 10000; omega, by show (restN 58 p).length ≤ 10000; omega⟩
    dsimp only at hc
    rw [hc, some_bind', hw, wrap_succ (by omega), hg, Nat.beq_refl, cond_true, cond_true, tagsR]
    cases tagGood (seg 58 p, restN 58 p)
    · rw [if_neg (by simp)]; rfl
    · rw [cond_true, beq_self_eq_true, Bool.not_true, cond_false, bdec]
      by_cases hin : (58 : UInt8) ∈ p
      · rw [if_pos hin]
        by_cases h0 : restN 58 p = []
        · rw [h0, beq_self_eq_true, cond_true, if_neg (by simp [hin])]
        · rw [beq_eq_false_iff_ne.2 h0, cond_false, if_pos ⟨rfl, by simp [h0]⟩]
          exact hih
      · rw [if_neg hin, if_pos ⟨rfl, by simp [hin]⟩]
        exact hih
theorem tagParse_eq (n : Nat) (hn : 200000 ≤ n) (s : List UInt8) (hs : s.length ≤ 9000) : F.tag_Parse n s = some (match tagsR (splitL 44 s) [] 0 with | .ok l => (l, (0, 0, ()), ()) | .error e => ([], (19, e, ()), ())) := by
  unfold F.tag_Parse
  have h1 := splitL_sum 44 s
  have h2 := sumL_len (splitL 44 s)
  rw [split_eq n 44 (by omega), some_bind']
  refine (tagsR_loop n hn _ _ _ (splitL 44 s) (by omega) 0 0 (splitL 44 s) [] 0 0 n rfl (by simp) (by omega) (by omega) (by omega) (by omega)).trans ?_
  cases tagsR (splitL 44 s) [] 0 <;> rfl
end Go.AM
set_option linter.unusedVariables false
set_option linter.unusedSimpArgs false
namespace Go.AM
end Go.AM
set_option linter.unusedVariables false
set_option linter.unusedSimpArgs false
namespace Go.AM
abbrev KR := List UInt8 → Int → List DecL → Int → List TagL → Int → Int → Int → List UInt8 → Int → List DecL → Int → List TagL → Int → Int → Int → Int → Int → Int → Int → Nat → Nat → Nat → Option ParseD
abbrev K8 := List UInt8 → List (List UInt8) → List UInt8 → Int → List DecL → Int → List TagL → Int → Int → Int → List UInt8 → Int → List DecL → Int → List TagL → Int → Int → Int → Int → Int → Nat → Nat → Nat → Option ParseD
def badP (e a : Int) : ParseD := (zeroM, (e, a, ()), ())
theorem first_loop (n : Nat) (hn : 200000 ≤ n) (k1 kr : KR) (ps : List (List UInt8)) (hs : sumL ps ≤ 9000)
    (c0 : List UInt8) (c1 : Int) (c2 : List DecL) (c3 : Int) (c4 : List TagL) (c5 d0 d1 : Int) (e0 : List UInt8) (e1 : Int) (e3 : Int) (e4 : List TagL) (e5 e7 f0 f1 : Int) (q0 q1 : Nat)
    (hbad : ∀ acc a l, kr c0 c1 c2 c3 c4 c5 d0 d1 e0 e1 acc e3 e4 e5 0 e7 f0 f1 17 a q0 q1 l = some (badP 17 a)) :
    ∀ (r : List (List UInt8)) (acc : List DecL) (a : Int) (i m : Nat), ps.drop i = r → acc.length ≤ i → i ≤ ps.length → r.length < m → 0 ≤ a → a + sumL r ≤ 10000 →
    F.dog_Parse.L9_dog_reader_first n k1 kr m a ps (ps.length : Int) (i : Int) c0 c1 c2 c3 c4 c5 d0 d1 e0 e1 acc e3 e4 e5 0 e7 f0 f1 0 0 q0 q1 acc.length = match readVals r acc a with
      | .ok vs => k1 c0 c1 c2 c3 c4 c5 d0 d1 e0 e1 vs e3 e4 e5 0 e7 f0 f1 0 0 q0 q1 vs.length
      | .error b => some (badP 17 b) := by
  intro r
  have hpl := sumL_len ps
  induction r with
  | nil =>
    intro acc a i m h1 h2 hi hm ha has
    obtain ⟨m, rfl⟩ : ∃ q, m = q + 1 := ⟨m - 1, by omega⟩
    rw [F.dog_Parse.L9_dog_reader_first]
    unfold F.dog_Parse.L9_dog_reader_first.step
    dsimp only
    rw [bif_neg (by have := drop_nil' h1; omega)]
    rfl
  | cons p r ih =>
    intro acc a i m h1 h2 hi hm ha has
    obtain ⟨m, rfl⟩ : ∃ q, m = q + 1 := ⟨m - 1, by simp at hm; omega⟩
    obtain ⟨l1, g1, t1⟩ := drop_cons h1
    simp only [List.length_cons] at hm
    simp only [sumL, List.map_cons, List.sum_cons] at has
    have hp := sumL_mem (List.mem_of_getElem? g1)
    have hih := ih (acc ++ [((parseR p).1.1, (parseR p).1.2.1, (parseR p).1.2.2.1)]) (a + p.length + 1) (i + 1) m t1 (by simp; omega) (by omega) (by omega) (by omega) (by simp only [sumL]; omega)
    have hw : IntKind.wrap .i64 (a + IntKind.wrap .i64 ((p.length : Int) + 1)) = a + p.length + 1 := by
      rw [wrap_succ (by omega), wrap_in (by omega)]; omega
    have hw0 : IntKind.wrap .i64 (0 + a) = a := by rw [Int.zero_add, wrap_in (by omega)]
    have hg : (decide ((acc.length + 1) * 24 ≤ 2 ^ 46) && decide (0 < 24 ∧ 24 ≤ 2 ^ 20)) = true := by rw [decide_eq_true (by omega)]; rfl
    have h64 : ((acc.length : Int) == 64) = decide (acc.length = 64) := by
      by_cases h : acc.length = 64
      · rw [h]; rfl
      · rw [decide_eq_false h, beq_eq_false_iff_ne]; omega
    rw [F.dog_Parse.L9_dog_reader_first]
    unfold F.dog_Parse.L9_dog_reader_first.step
    dsimp only
    rw [bif_pos (by omega), idx_nat, g1, some_bind', decparse_eq n hn p (by omega), some_bind', parseR_bad, hw, hw0, wrap_succ (by omega), hg, Nat.beq_refl, cond_true, cond_true, h64, readVals]
    by_cases h0 : (parseR p).2.1.1 = 0
    · rw [decide_eq_true h0, Bool.not_true, cond_false]
      by_cases h6 : acc.length = 64
      · rw [decide_eq_true h6, cond_true, if_neg (by simp [h6])]
        exact hbad _ _ _
      · rw [decide_eq_false h6, cond_false, if_pos ⟨h0, h6⟩]
        exact hih
    · rw [decide_eq_false h0, Bool.not_false, cond_true, if_neg (by simp [h0])]
      exact hbad _ _ _
theorem prefix_eq (n : Nat) (c x : UInt8) (s : List UInt8) : F.strings_CutPrefix n (x :: s) [c] = some (if x = c then (s, true, ()) else (x :: s, false, ())) := by
  unfold F.strings_CutPrefix F.stringslite_CutPrefix F.stringslite_HasPrefix
  have h1 : sub (x :: s) 0 (([c] : List UInt8).length : Int) = some [x] := by
    rw [show (0 : Int) = ((0 : Nat) : Int) from rfl, show (([c] : List UInt8).length : Int) = ((1 : Nat) : Int) from rfl, sub_nat (x :: s) 0 1 (by omega) (by simp)]; rfl
  have h2 : sub (x :: s) (([c] : List UInt8).length : Int) ((x :: s).length : Int) = some s := by
    rw [show (([c] : List UInt8).length : Int) = ((1 : Nat) : Int) from rfl, sub_nat (x :: s) 1 _ (by simp) (by omega), List.take_length]; rfl
  rw [bif_pos (by simp; omega), h1, h2]
  by_cases h : x = c
  · subst h
    simp
  · rw [if_neg h]
    have : ([x] == [c]) = false := by simpa using h
    simp [this]
theorem prefix_nil (n : Nat) (c : UInt8) : F.strings_CutPrefix n [] [c] = some ([], false, ()) := rfl
theorem rate_bad (s : List UInt8) : ((rateR s).2.1.1 == 0 && (rateR s).2.1.2.1 == 0) = decide ((rateR s).2.1.1 = 0) := by
  by_cases h : (rateR s).2.1.1 = 0
  · rw [decide_eq_true h, h, (rate_ok h).1]; rfl
  · rw [decide_eq_false h, beq_eq_false_iff_ne.2 h]; rfl
theorem time_bad (s : List UInt8) : ((parseNum s 1 1099511627776).2.1.1 == 0 && (parseNum s 1 1099511627776).2.1.2.1 == 0) = decide ((parseNum s 1 1099511627776).2.1.1 = 0) := by
  by_cases h : (parseNum s 1 1099511627776).2.1.1 = 0
  · rw [decide_eq_true h, h, (parse_back h).1]; rfl
  · rw [decide_eq_false h, beq_eq_false_iff_ne.2 h]; rfl
theorem tagsR_len : ∀ (r : List (List UInt8)) (acc : List TagL) (a : Int) (l : List TagL), tagsR r acc a = .ok l → l.length = acc.length + r.length
  | [], acc, a, l, h => by cases h; simp
  | p :: r, acc, a, l, h => by
    rw [tagsR] at h
    split at h
    · have := tagsR_len r _ _ _ h
      simp at this ⊢; omega
    · cases h
theorem more_eq (n : Nat) (hn : 200000 ≤ n) (k0 kr : KR) (p : List UInt8) (hs : p.length ≤ 9000)
    (c0 : List UInt8) (c1 : Int) (c2 : List DecL) (c3 : Int) (c4 : List TagL) (c5 d0 d1 : Int) (e0 : List UInt8) (e1 : Int) (e2 : List DecL) (e3 : Int) (e4 : List TagL) (e5 a last f0 f1 : Int) (q0 q1 q2 : Nat) (ha : 0 ≤ a ∧ a ≤ 100000)
    (hk0 : k0 c0 c1 c2 c3 c4 c5 d0 d1 e0 e1 e2 e3 e4 e5 a last f0 f1 0 0 q0 q1 q2 = some (badP 11 a))
    (hbad : ∀ l e, e ≠ 0 → kr c0 c1 c2 c3 c4 c5 d0 d1 e0 e1 e2 e3 e4 e5 a l f0 f1 e a q0 q1 q2 = some (badP e a)) (m : Nat) (hm : 5 ≤ m) :
    F.dog_Parse.L2_dog_reader_more n k0 kr m p ([64], (), [35], (), [84], (), ()) (0 : Int) c0 c1 c2 c3 c4 c5 d0 d1 e0 e1 e2 e3 e4 e5 a last f0 f1 0 0 q0 q1 q2 = match moreR (e0, e1, e2, e3, e4, e5, ()) last p with
      | .error e => some (badP e a)
      | .ok (w, l) => kr c0 c1 c2 c3 c4 c5 d0 d1 w.1 w.2.1 w.2.2.1 w.2.2.2.1 w.2.2.2.2.1 w.2.2.2.2.2.1 a l f0 f1 0 0 q0 q1 q2 := by
  obtain ⟨m, rfl⟩ : ∃ q, m = q + 4 := ⟨m - 4, by omega⟩
  have hw0 : IntKind.wrap .i64 (a + 0) = a := by rw [Int.add_zero, wrap_in (by omega)]
  have w1 : IntKind.wrap .i64 ((0 : Int) + 1) = 1 := rfl
  have w2 : IntKind.wrap .i64 ((1 : Int) + 1) = 2 := rfl
  have w3 : IntKind.wrap .i64 ((2 : Int) + 1) = 3 := rfl
  have b1 : ((1 : Int) == 0) = false := rfl
  have b2 : ((2 : Int) == 0) = false := rfl
  have b3 : ((2 : Int) == 1) = false := rfl
  cases p with
  | nil =>
    rw [moreR]
    rw [F.dog_Parse.L2_dog_reader_more]
    unfold F.dog_Parse.L2_dog_reader_more.step
    dsimp only
    rw [bif_pos (by omega), beq_self_eq_true, cond_true, prefix_nil, some_bind', Bool.not_false, cond_true, w1, F.dog_Parse.L2_dog_reader_more]
    unfold F.dog_Parse.L2_dog_reader_more.step
    dsimp only
    rw [bif_pos (by omega), b1, beq_self_eq_true, cond_true, cond_false, prefix_nil, some_bind', Bool.not_false, cond_true, w2, F.dog_Parse.L2_dog_reader_more]
    unfold F.dog_Parse.L2_dog_reader_more.step
    dsimp only
    rw [bif_pos (by omega), b2, b3, beq_self_eq_true, cond_true, cond_false, cond_false, prefix_nil, some_bind', Bool.not_false, cond_true, w3, F.dog_Parse.L2_dog_reader_more]
    unfold F.dog_Parse.L2_dog_reader_more.step
    dsimp only
    rw [bif_neg (by omega)]
    exact hk0
  | cons x s =>
    simp only [List.length_cons] at hs
    rw [moreR]
    rw [F.dog_Parse.L2_dog_reader_more]
    unfold F.dog_Parse.L2_dog_reader_more.step
    dsimp only
    rw [bif_pos (by omega), beq_self_eq_true, cond_true, prefix_eq, some_bind', w1, hw0]
    by_cases h64 : x = 64
    · rw [if_pos h64, if_pos h64]
      dsimp only
      rw [Bool.not_true, cond_false, bdec]
      by_cases hl : 0 < last
      · rw [if_pos hl, if_pos hl]; exact hk0
      · rw [if_neg hl, if_neg hl, rate_num n (by omega) s (by omega) (by omega), some_bind', rate_bad]
        by_cases h0 : (rateR s).2.1.1 = 0
        · rw [decide_eq_true h0, Bool.not_true, cond_false]
          by_cases h2 : e1 = 2
          · rw [h2, beq_self_eq_true, cond_true]
            by_cases h1 : (rateR s).1 = 1000000
            · rw [h1, beq_self_eq_true, Bool.not_true, cond_false, if_neg (by simp [h0])]
            · rw [beq_eq_false_iff_ne.2 h1, Bool.not_false, cond_true, if_pos (by simp [h1])]
              rw [h2] at hbad
              exact hbad _ _ (by decide)
          · rw [beq_eq_false_iff_ne.2 h2, cond_false, if_neg (by simp [h0, h2])]
        · rw [decide_eq_false h0, Bool.not_false, cond_true, if_pos (by simp [h0])]
          exact hbad _ _ (by decide)
    rw [if_neg h64, if_neg h64]
    dsimp only
    rw [Bool.not_false, cond_true]
    rw [F.dog_Parse.L2_dog_reader_more]
    unfold F.dog_Parse.L2_dog_reader_more.step
    dsimp only
    rw [bif_pos (by omega), b1, beq_self_eq_true, cond_false, cond_true, prefix_eq, some_bind', w2, hw0]
    by_cases h35 : x = 35
    · rw [if_pos h35, if_pos h35]
      dsimp only
      rw [Bool.not_true, cond_false, bdec]
      by_cases hl : 1 < last
      · rw [if_pos hl, if_pos hl]; exact hk0
      · have hsl := splitL_sum 44 s
        have hsn := sumL_len (splitL 44 s)
        rw [if_neg hl, if_neg hl, tagParse_eq n hn s (by omega), some_bind']
        cases hT : tagsR (splitL 44 s) [] 0 with
        | error e =>
          dsimp only
          rw [show ((19 : Int) == 0) = false from rfl, Bool.false_and, Bool.not_false, cond_true]
          exact hbad _ _ (by decide)
        | ok l =>
          have hll := tagsR_len _ _ _ _ hT
          simp only [List.length_nil, Nat.zero_add] at hll
          dsimp only
          rw [beq_self_eq_true, Bool.and_self, Bool.not_true, cond_false, bdec]
          by_cases h32 : 32 < l.length
          · rw [if_pos (by omega), if_pos h32]
            exact hbad _ _ (by decide)
          · rw [if_neg (by omega), if_neg h32, tagNormal_eq n hn l (by omega), some_bind']
    rw [if_neg h35, if_neg h35]
    dsimp only
    rw [Bool.not_false, cond_true]
    rw [F.dog_Parse.L2_dog_reader_more]
    unfold F.dog_Parse.L2_dog_reader_more.step
    dsimp only
    rw [bif_pos (by omega), b2, b3, beq_self_eq_true, cond_false, cond_false, cond_true, prefix_eq, some_bind', w3, hw0]
    by_cases h84 : x = 84
    · rw [if_pos h84, if_pos h84]
      dsimp only
      rw [Bool.not_true, cond_false, bdec]
      by_cases hl : 2 < last
      · rw [if_pos hl, if_pos hl]; exact hk0
      · rw [if_neg hl, if_neg hl, time_eq n s (by omega) (by omega), some_bind', time_bad]
        by_cases h0 : (parseNum s 1 1099511627776).2.1.1 = 0
        · rw [decide_eq_true h0, Bool.not_true, cond_false, if_neg (by simp [h0])]
        · rw [decide_eq_false h0, Bool.not_false, cond_true, if_pos h0]
          exact hbad _ _ (by decide)
    rw [if_neg h84, if_neg h84]
    dsimp only
    rw [Bool.not_false, cond_true]
    rw [F.dog_Parse.L2_dog_reader_more]
    unfold F.dog_Parse.L2_dog_reader_more.step
    dsimp only
    rw [bif_neg (by omega)]
    exact hk0
structure K8OK (s : List UInt8) (ps : List (List UInt8)) (k0 : K8) : Prop where
  bad : ∀ c0 c1 c2 c3 c4 c5 d0 d1 e0 e1 e2 e3 e4 e5 e6 e7 e a q0 q1 q2, e ≠ 0 → k0 s ps c0 c1 c2 c3 c4 c5 d0 d1 e0 e1 e2 e3 e4 e5 e6 e7 e a q0 q1 q2 = some (badP e a)
  ok : 2 ≤ ps.length → ∀ c0 c1 c2 c3 c4 c5 d0 d1 e0 e1 e2 e3 e4 e5 e6 e7 q0 q1 q2, k0 s ps c0 c1 c2 c3 c4 c5 d0 d1 e0 e1 e2 e3 e4 e5 e6 e7 0 0 q0 q1 q2 = some ((e0, e1, e2, e3, e4, e5, ()), (0, 0, ()), ())
  one : ps.length < 2 → ∀ c0 c1 c2 c3 c4 c5 d0 d1 e0 e1 e2 e3 e4 e5 e6 e7 q0 q1 q2, k0 s ps c0 c1 c2 c3 c4 c5 d0 d1 e0 e1 e2 e3 e4 e5 e6 e7 0 0 q0 q1 q2 = some (badP 11 (s.length : Int))
theorem at_step {a : Int} (p : List UInt8) (h : 0 ≤ a ∧ a + p.length + 1 ≤ 100000) : IntKind.wrap .i64 (a + IntKind.wrap .i64 ((p.length : Int) + 1)) = a + p.length + 1 := by
  rw [wrap_succ (by omega), wrap_in (by omega)]; omega
theorem drest_loop (n : Nat) (hn : 200000 ≤ n) (k0 : K8) (s : List UInt8) (ps : List (List UInt8)) (hs : sumL ps ≤ 9000) (hk : K8OK s ps k0) (h2 : 2 ≤ ps.length)
    (c0 : List UInt8) (c1 : Int) (c2 : List DecL) (c3 : Int) (c4 : List TagL) (c5 d0 d1 : Int) (q0 q1 q2 : Nat) :
    ∀ (r : List (List UInt8)) (a : Int) (w : MetD) (last : Int) (i m : Nat), ps.drop i = r → 2 ≤ i → i ≤ ps.length → r.length < m → 0 ≤ a → a + sumL r ≤ 10000 →
    F.dog_Parse.L8 n k0 m s ps ps (ps.length : Int) (i : Int) c0 c1 c2 c3 c4 c5 d0 d1 w.1 w.2.1 w.2.2.1 w.2.2.2.1 w.2.2.2.2.1 w.2.2.2.2.2.1 a last 0 0 q0 q1 q2 = some (outP (restR r a w last)) := by
  intro r
  have hpl := sumL_len ps
  induction r with
  | nil =>
    intro a w last i m h1 hi2 hi hm ha has
    obtain ⟨m, rfl⟩ : ∃ q, m = q + 1 := ⟨m - 1, by omega⟩
    rw [F.dog_Parse.L8]
    unfold F.dog_Parse.L8.step
    dsimp only
    rw [bif_neg (by have := drop_nil' h1; omega), restR]
    exact hk.ok h2 _ _ _ _ _ _ _ _ _ _ _ _ _ _ _ _ _ _ _
  | cons p r ih =>
    intro a w last i m h1 hi2 hi hm ha has
    obtain ⟨m, rfl⟩ : ∃ q, m = q + 1 := ⟨m - 1, by simp at hm; omega⟩
    obtain ⟨l1, g1, t1⟩ := drop_cons h1
    simp only [List.length_cons] at hm
    simp only [sumL, List.map_cons, List.sum_cons] at has
    have hp := sumL_mem (List.mem_of_getElem? g1)
    have hw0 : IntKind.wrap .i64 (a + 0) = a := by rw [Int.add_zero, wrap_in (by omega)]
    rw [F.dog_Parse.L8]
    unfold F.dog_Parse.L8.step
    dsimp only
    rw [bif_pos (by omega), idx_nat, g1, some_bind', bif_neg (by omega : ¬ (i : Int) < 2)]
    refine (more_eq n hn _ _ p (by omega) c0 c1 c2 c3 c4 c5 d0 d1 w.1 w.2.1 w.2.2.1 w.2.2.2.1 w.2.2.2.2.1 w.2.2.2.2.2.1 a last 0 0 q0 q1 q2 (by omega) ?_ ?_ n (by omega)).trans ?_
    · rw [hw0, Bool.false_and, Bool.not_false, cond_true]
      exact hk.bad _ _ _ _ _ _ _ _ _ _ _ _ _ _ _ _ _ _ _ _ _ (by decide)
    · intro l e he
      rw [beq_eq_false_iff_ne.2 he, Bool.false_and, Bool.not_false, cond_true]
      exact hk.bad _ _ _ _ _ _ _ _ _ _ _ _ _ _ _ _ _ _ _ _ _ he
    · have hww : (w.1, w.2.1, w.2.2.1, w.2.2.2.1, w.2.2.2.2.1, w.2.2.2.2.2.1, ()) = w := rfl
      rw [hww, restR]
      cases moreR w last p with
      | error e => rfl
      | ok x =>
        obtain ⟨w', l'⟩ := x
        dsimp only
        rw [at_step p (by omega), wrap_succ (by omega)]
        exact ih (a + p.length + 1) w' l' (i + 1) m t1 (by omega) (by omega) (by omega) (by omega) (by simp only [sumL]; omega)
theorem nameB (s : List UInt8) : (((textF 1 s 1 200).1 == 0) && ((textF 1 s 1 200).2.1 == 0)) = nameOK s := textF_both 1 s 1 200
theorem lines_eq (n : Nat) (hn : 200000 ≤ n) (k0 : K8) (s : List UInt8) (ps : List (List UInt8)) (hne : ps ≠ []) (hs : sumL ps ≤ 9000) (hsl : s.length ≤ 9000) (hk : K8OK s ps k0) (c0 : List UInt8) (c1 : Int) (c2 : List DecL) (c3 : Int) (c4 : List TagL) (c5 d0 d1 : Int) (q0 q1 : Nat) :
    F.dog_Parse.L8 n k0 n s ps ps (ps.length : Int) (0 : Int) c0 c1 c2 c3 c4 c5 d0 d1 [] 0 [] 1000000 [] 0 0 0 0 0 q0 q1 0 = some (outP (linesR s ps)) := by
  have hpl := sumL_len ps
  cases ps with
  | nil => exact absurd rfl hne
  | cons p r =>
    obtain ⟨m, hm⟩ : ∃ q, n = q + 2 := ⟨n - 2, by omega⟩
    have hp := sumL_mem (show p ∈ p :: r by simp)
    have hseg := seg_le 58 p
    have hrn := restN_le 58 p
    have hcut : F.strings_Cut n p [58] = some (seg 58 p, restN 58 p, decide (58 ∈ p), ()) := cut_eq n 58 (by omega)
    have hw0 : ∀ x : Int, 0 ≤ x ∧ x ≤ 100000 → IntKind.wrap .i64 (0 + x) = x := fun x hx => by rw [Int.zero_add, wrap_in (by omega)]
    have key : ∀ m, 20001 ≤ m + 1 → F.dog_Parse.L8 n k0 (m + 1) s (p :: r) (p :: r) ((p :: r).length : Int) (0 : Int) c0 c1 c2 c3 c4 c5 d0 d1 [] 0 [] 1000000 [] 0 0 0 0 0 q0 q1 0 = match firstR p with
        | .error e => some (badP e.1 e.2)
        | .ok x => F.dog_Parse.L8 n k0 m s (p :: r) (p :: r) ((p :: r).length : Int) ((1 : Nat) : Int) c0 c1 c2 c3 c4 c5 d0 d1 x.1 0 x.2 1000000 [] 0 ((p.length : Int) + 1) 0 0 0 q0 q1 x.2.length := by
      intro m hm
      rw [F.dog_Parse.L8]
      unfold F.dog_Parse.L8.step
      dsimp only
      rw [bif_pos (by simp only [List.length_cons]; omega), show idx (p :: r) 0 = some p from rfl, some_bind', bif_pos (by omega : (0 : Int) < 2), beq_self_eq_true, cond_true, hcut, some_bind']
      dsimp only
      rw [text_cls n 1 _ 1 200 (by omega) (by omega), some_bind', nameB]
      unfold firstR
      cases hnm : nameOK (seg 58 p)
      · rw [Bool.not_false, cond_true, if_pos rfl, hw0 0 (by omega), Bool.false_and, Bool.not_false, cond_true]
        exact hk.bad _ _ _ _ _ _ _ _ _ _ _ _ _ _ _ _ _ _ _ _ _ (by decide)
      · rw [Bool.not_true, cond_false, if_neg (by simp)]
        by_cases hin : (58 : UInt8) ∈ p
        · rw [decide_eq_true hin, Bool.not_true, cond_false, if_neg (by simp [hin]), split_eq n 58 (by omega), some_bind']
          have hsum := splitL_sum 58 (restN 58 p)
          have hsn := sumL_len (splitL 58 (restN 58 p))
          have hrl : (seg 58 p).length + 1 + (restN 58 p).length ≤ p.length := by
            unfold restN
            rw [if_pos hin, List.length_drop]
            have := seg_lt hin
            omega
          have hA : IntKind.wrap .i64 (((seg 58 p).length : Int) + 1) = ((seg 58 p).length : Int) + 1 := wrap_in (by omega)
          have hP : IntKind.wrap .i64 ((p.length : Int) + 1) = (p.length : Int) + 1 := wrap_in (by omega)
          rw [hA, hP]
          refine (first_loop n hn _ _ (splitL 58 (restN 58 p)) (by omega) c0 c1 c2 c3 c4 c5 d0 d1 (seg 58 p) 0 1000000 [] 0 0 0 0 q0 q1 ?_ (splitL 58 (restN 58 p)) [] _ 0 n rfl (by simp) (by omega) (by omega) (by omega) (by omega)).trans ?_
          · intro acc a l
            rw [show ((17 : Int) == 0) = false from rfl, Bool.false_and, Bool.not_false, cond_true]
            exact hk.bad _ _ _ _ _ _ _ _ _ _ _ _ _ _ _ _ _ _ _ _ _ (by decide)
          · cases readVals (splitL 58 (restN 58 p)) [] (((seg 58 p).length : Int) + 1) with
            | error b => rfl
            | ok vs =>
              dsimp only
              rw [Bool.and_self, Bool.not_true, cond_false, hw0 ((p.length : Int) + 1) (by omega)]
              rfl
        · rw [decide_eq_false hin, Bool.not_false, cond_true, if_pos hin, hw0 _ (by omega), Bool.false_and, Bool.not_false, cond_true]
          exact hk.bad _ _ _ _ _ _ _ _ _ _ _ _ _ _ _ _ _ _ _ _ _ (by decide)
    have key2 : ∀ m, 20001 ≤ m + 1 → ∀ nm (vs : List DecL) (a : Int) (l : Nat), a = (p.length : Int) + 1 → F.dog_Parse.L8 n k0 (m + 1) s (p :: r) (p :: r) ((p :: r).length : Int) ((1 : Nat) : Int) c0 c1 c2 c3 c4 c5 d0 d1 nm 0 vs 1000000 [] 0 a 0 0 0 q0 q1 l = some (outP (secondR s p nm vs r)) := by
      intro m hm nm vs a l hA
      rw [F.dog_Parse.L8]
      unfold F.dog_Parse.L8.step
      dsimp only
      cases r with
      | nil =>
        rw [bif_neg (by simp), secondR]
        exact hk.one (by simp) _ _ _ _ _ _ _ _ _ _ _ _ _ _ _ _ _ _ _
      | cons q r =>
        have hq := sumL_mem (show q ∈ p :: q :: r by simp)
        rw [bif_pos (by simp only [List.length_cons]; omega), show idx (p :: q :: r) ((1 : Nat) : Int) = some q from rfl, some_bind', bif_pos (by omega), show (((1 : Nat) : Int) == 0) = false from rfl, cond_false, show (((1 : Nat) : Int) == 1) = true from rfl, cond_true, kind_eq n (by omega), some_bind']
        have hwa : IntKind.wrap .i64 (a + 0) = a := by rw [Int.add_zero, wrap_in (by omega)]
        rw [secondR]
        by_cases h0 : kindR q = 0
        · rw [if_pos h0, if_pos h0]
          dsimp only
          rw [show ((16 : Int) == 0) = false from rfl, Bool.not_false, cond_true, Bool.false_and, Bool.not_false, cond_true, hwa, hA]
          exact hk.bad _ _ _ _ _ _ _ _ _ _ _ _ _ _ _ _ _ _ _ _ _ (by decide)
        · rw [if_neg h0, if_neg h0]
          dsimp only
          rw [beq_self_eq_true, Bool.not_true, cond_false, Bool.and_self, Bool.not_true, cond_false]
          simp only [sumL, List.map_cons, List.sum_cons, List.length_cons] at hs hpl
          rw [at_step q (by omega), show IntKind.wrap .i64 (((1 : Nat) : Int) + 1) = ((2 : Nat) : Int) from rfl, hA]
          have := drest_loop n hn k0 s (p :: q :: r) (by simp only [sumL, List.map_cons, List.sum_cons]; omega) hk (by simp) c0 c1 c2 c3 c4 c5 d0 d1 q0 q1 l r ((p.length : Int) + 1 + (q.length + 1)) (nm, kindR q, vs, 1000000, [], 0, ()) 0 2 m rfl (by omega) (by simp) (by omega) (by omega) (by simp only [sumL]; omega)
          rw [show (p.length : Int) + 1 + (q.length + 1) = (p.length : Int) + 1 + q.length + 1 by omega] at this ⊢
          exact this
    have k1 := key (m + 1) (by omega)
    have k2 := key2 m (by omega)
    have hmm : n = m + 1 + 1 := hm
    rw [linesR]
    have goal : ∀ j, j = m + 1 + 1 → F.dog_Parse.L8 n k0 j s (p :: r) (p :: r) ((p :: r).length : Int) (0 : Int) c0 c1 c2 c3 c4 c5 d0 d1 [] 0 [] 1000000 [] 0 0 0 0 0 q0 q1 0 = some (outP (match firstR p with
      | .error e => .error e
      | .ok x => secondR s p x.1 x.2 r)) := by
      intro j hj
      rw [hj, k1]
      cases firstR p with
      | error e => rfl
      | ok x => exact k2 x.1 x.2 _ _ rfl
    exact goal n hmm
theorem parse_eq (n : Nat) (hn : 200000 ≤ n) (s : List UInt8) (hs : s.length ≤ 1000000) : F.dog_Parse n s = some (parseD s) := by
  unfold F.dog_Parse parseD
  rw [bdec]
  by_cases h : 8192 < s.length
  · rw [if_pos (by omega), if_pos h]; rfl
  · rw [if_neg (by omega), if_neg h, split_eq n 124 hs, some_bind']
    have hsum := splitL_sum 124 s
    refine lines_eq n hn _ s (splitL 124 s) (splitL_ne 124 s) (by omega) (by omega) ⟨?_, ?_, ?_⟩ [] 0 [] 0 [] 0 0 0 0 0
    · intro c0 c1 c2 c3 c4 c5 d0 d1 e0 e1 e2 e3 e4 e5 e6 e7 e a q0 q1 q2 he
      rw [beq_eq_false_iff_ne.2 he, Bool.false_and, cond_false, Bool.not_false, cond_true]
      rfl
    · intro h2 c0 c1 c2 c3 c4 c5 d0 d1 e0 e1 e2 e3 e4 e5 e6 e7 q0 q1 q2
      rw [beq_self_eq_true, Bool.and_self, cond_true, bif_neg (by omega), Bool.not_true, cond_false]
    · intro h2 c0 c1 c2 c3 c4 c5 d0 d1 e0 e1 e2 e3 e4 e5 e6 e7 q0 q1 q2
      rw [beq_self_eq_true, Bool.and_self, cond_true, bif_pos (by omega), Bool.false_and, Bool.not_false, cond_true]
      rfl
end Go.AM
set_option linter.unusedVariables false
set_option linter.unusedSimpArgs false
namespace Go.AM
end Go.AM
set_option linter.unusedVariables false
set_option linter.unusedSimpArgs false
namespace Go.AM
end Go.AM
set_option linter.unusedVariables false
set_option linter.unusedSimpArgs false
namespace Go.AM
theorem tagsR_good : ∀ (r : List (List UInt8)) (acc : List TagL) (a : Int) (l : List TagL), tagsR r acc a = .ok l → (∀ t ∈ acc, tagGood t = true) → ∀ t ∈ l, tagGood t = true
  | [], acc, a, l, h, hg => by cases h; exact hg
  | p :: r, acc, a, l, h, hg => by
    rw [tagsR] at h
    split at h
    · rename_i hc
      refine tagsR_good r _ _ _ h (fun t ht => ?_)
      rcases List.mem_append.1 ht with ht | ht
      · exact hg t ht
      · rw [List.mem_singleton.1 ht]; exact hc.1
    · cases h
theorem tagS_ok {t : TagL} (h : TagS t) : TagLOK t := ⟨by have := h.1; omega, by have := h.2; omega⟩
end Go.AM
set_option linter.unusedVariables false
set_option linter.unusedSimpArgs false
namespace Go.AM
end Go.AM
set_option linter.unusedVariables false
set_option linter.unusedSimpArgs false
namespace Go.AM
structure InvM (m : MetD) : Prop where
  nm : nameOK m.1 = true
  kd : kindB m.2.1 = true
  vs : (∀ d ∈ m.2.2.1, DecLOK d ∧ decC d = 0) ∧ 1 ≤ m.2.2.1.length ∧ m.2.2.1.length ≤ 64
  rt : rateB m.2.1 m.2.2.2.1 = true
  tg : (∀ t ∈ m.2.2.2.2.1, tagGood t = true) ∧ m.2.2.2.2.1.length ≤ 32 ∧ StrictT m.2.2.2.2.1
  tm : timeB m.2.2.2.2.2.1 = true
theorem InvM.right {m : MetD} (h : InvM m) : RightM m := by
  have hn := nameOK_le h.nm
  refine ⟨⟨by omega, ⟨by have := h.vs.2.2; omega, fun d hd => (h.vs.1 d hd).1⟩, by have := h.tg.2.1; omega, fun t ht => tagS_ok (tagGood_le (h.tg.1 t ht))⟩, ?_⟩
  have hv : valsB m.2.2.1 = true := by
    unfold valsB
    simp only [Bool.and_eq_true, decide_eq_true_eq]
    exact ⟨h.vs.2.1, h.vs.2.2, List.all_eq_true.2 (fun d hd => by simp [(h.vs.1 d hd).2])⟩
  have ht : tagsB m.2.2.2.2.1 = true := by
    unfold tagsB
    simp only [Bool.and_eq_true, decide_eq_true_eq]
    exact ⟨h.tg.2.1, List.all_eq_true.2 h.tg.1⟩
  unfold chkM
  rw [h.nm, h.kd, hv, h.rt, ht, h.tm]
  rfl
theorem RightM.inv {m : MetD} (h : RightM m) (hs : StrictT m.2.2.2.2.1) : InvM m := by
  obtain ⟨c1, c2, c3, c4, c5, c6⟩ := chk_zero h.chk
  have ht := right_tags h
  exact ⟨c1, c2, right_vals h, c4, ⟨fun t htm => (ht.1 t htm).2, ht.2, hs⟩, c6⟩
theorem parse_decl {p : List UInt8} (h : (parseR p).2.1.1 = 0) : DecLOK ((parseR p).1.1, (parseR p).1.2.1, (parseR p).1.2.2.1) ∧ decC ((parseR p).1.1, (parseR p).1.2.1, (parseR p).1.2.2.1) = 0 := by
  obtain ⟨neg, c, e, h1, h2, h3, h4⟩ := parse_ok h
  rw [h1]
  refine ⟨⟨trivial, ⟨by simp, ?_⟩, h3⟩, h4⟩
  have := two64_eq
  simp only
  omega
theorem readVals_ok : ∀ (r : List (List UInt8)) (acc : List DecL) (a : Int) (vs : List DecL), readVals r acc a = .ok vs → (∀ d ∈ acc, DecLOK d ∧ decC d = 0) → acc.length ≤ 64 → (∀ d ∈ vs, DecLOK d ∧ decC d = 0) ∧ vs.length ≤ 64 ∧ vs.length = acc.length + r.length
  | [], acc, a, vs, h, hd, hl => by cases h; exact ⟨hd, hl, by simp⟩
  | p :: r, acc, a, vs, h, hd, hl => by
    rw [readVals] at h
    split at h
    · rename_i hc
      have hr := readVals_ok r _ _ _ h (fun d hd' => by
        rcases List.mem_append.1 hd' with hd' | hd'
        · exact hd d hd'
        · rw [List.mem_singleton.1 hd']; exact parse_decl hc.1) (by simp; omega)
      refine ⟨hr.1, hr.2.1, ?_⟩
      have := hr.2.2
      simp at this ⊢
      omega
    · cases h
theorem readVals_err : ∀ (r : List (List UInt8)) (acc : List DecL) (a b : Int), readVals r acc a = .error b → a ≤ b ∧ b < a + sumL r
  | [], acc, a, b, h => by cases h
  | p :: r, acc, a, b, h => by
    rw [readVals] at h
    simp only [sumL, List.map_cons, List.sum_cons]
    split at h
    · have := readVals_err r _ _ _ h
      simp only [sumL] at this
      omega
    · cases h; omega
theorem kindR_ok {s : List UInt8} (h : kindR s ≠ 0) : kindB (kindR s) = true := by
  revert h
  unfold kindR
  repeat' split
  all_goals first | (intro _; rfl) | (intro h; exact absurd rfl h)
theorem moreR_ok {m : MetD} (h : InvM m) {last : Int} {p : List UInt8} {m' : MetD} {l : Int} (hr : moreR m last p = .ok (m', l)) : InvM m' := by
  cases p with
  | nil => cases hr
  | cons x s =>
    rw [moreR] at hr
    split at hr
    · split at hr
      · cases hr
      · split at hr
        · cases hr
        · rename_i hc
          cases hr
          have h0 : (rateR s).2.1.1 = 0 := Classical.byContradiction fun hh => hc (Or.inl hh)
          obtain ⟨_, r1, r2, _⟩ := rate_ok h0
          refine ⟨h.nm, h.kd, h.vs, ?_, h.tg, h.tm⟩
          unfold rateB
          simp only [Bool.and_eq_true, decide_eq_true_eq]
          refine ⟨r1, r2, ?_⟩
          by_cases h2 : m.2.1 = 2
          · have : (rateR s).1 = 1000000 := Classical.byContradiction fun hh => hc (Or.inr ⟨h2, hh⟩)
            simp [this]
          · simp [h2]
    · split at hr
      · split at hr
        · cases hr
        · split at hr
          · cases hr
          · rename_i l' hT
            split at hr
            · cases hr
            · rename_i h32
              cases hr
              have hg := tagsR_good _ _ _ _ hT (fun t ht => by cases ht)
              refine ⟨h.nm, h.kd, h.vs, h.rt, ⟨fun t ht => hg t ((normT_mem _ _).1 ht), ?_, normT_strict _⟩, h.tm⟩
              have := normT_len l'
              show (normT l').length ≤ 32
              omega
      · split at hr
        · split at hr
          · cases hr
          · split at hr
            · cases hr
            · rename_i hc
              cases hr
              have h0 : (parseNum s 1 1099511627776).2.1.1 = 0 := Classical.byContradiction hc
              obtain ⟨_, r1, r2, r3, r4, _⟩ := parse_back h0
              refine ⟨h.nm, h.kd, h.vs, h.rt, h.tg, ?_⟩
              unfold timeB
              simp only [Bool.and_eq_true, decide_eq_true_eq]
              rw [r1]
              omega
        · cases hr
theorem moreR_err {m : MetD} {last : Int} {p : List UInt8} {e : Int} (hr : moreR m last p = .error e) : e ≠ 0 := by
  cases p with
  | nil => cases hr; decide
  | cons x s =>
    rw [moreR] at hr
    split at hr
    · split at hr
      · cases hr; decide
      · split at hr <;> cases hr; decide
    · split at hr
      · split at hr
        · cases hr; decide
        · split at hr
          · cases hr; decide
          · split at hr <;> cases hr; decide
      · split at hr
        · split at hr
          · cases hr; decide
          · split at hr <;> cases hr; decide
        · cases hr; decide
theorem restR_ok : ∀ (r : List (List UInt8)) (a : Int) (m : MetD) (last : Int), InvM m → (∀ m', restR r a m last = .ok m' → InvM m') ∧ (∀ e b, restR r a m last = .error (e, b) → e ≠ 0 ∧ a ≤ b ∧ b < a + sumL r)
  | [], a, m, last, h => ⟨fun m' hr => by cases hr; exact h, fun e b hr => by cases hr⟩
  | p :: r, a, m, last, h => by
    rw [restR]
    simp only [sumL, List.map_cons, List.sum_cons]
    cases hm : moreR m last p with
    | error e => exact ⟨fun m' hr => (by cases hr), fun e b hr => by cases hr; exact ⟨moreR_err hm, by omega, by omega⟩⟩
    | ok x =>
      obtain ⟨m1, l1⟩ := x
      obtain ⟨h1, h2⟩ := restR_ok r (a + p.length + 1) m1 l1 (moreR_ok h hm)
      refine ⟨h1, fun e b hr => ?_⟩
      have := h2 e b hr
      simp only [sumL] at this
      omega
theorem firstR_ok {s : List UInt8} {nm : List UInt8} {vs : List DecL} (h : firstR s = .ok (nm, vs)) : nameOK nm = true ∧ (∀ d ∈ vs, DecLOK d ∧ decC d = 0) ∧ 1 ≤ vs.length ∧ vs.length ≤ 64 := by
  unfold firstR at h
  split at h
  · cases h
  · rename_i hnm
    split at h
    · cases h
    · split at h
      · rename_i vs' hv
        cases h
        obtain ⟨h1, h2, h3⟩ := readVals_ok _ _ _ _ hv (fun d hd => by cases hd) (by simp)
        have := List.length_pos_iff.2 (splitL_ne 58 (restN 58 s))
        simp only [List.length_nil, Nat.zero_add] at h3
        exact ⟨by simpa using hnm, h1, by omega, h2⟩
      · cases h
theorem firstR_err {s : List UInt8} {e a : Int} (h : firstR s = .error (e, a)) : e ≠ 0 ∧ 0 ≤ a ∧ a ≤ s.length := by
  unfold firstR at h
  split at h
  · cases h; exact ⟨by decide, by omega, by omega⟩
  · split at h
    · cases h; exact ⟨by decide, by omega, by omega⟩
    · rename_i hin
      split at h
      · cases h
      · rename_i b hv
        cases h
        have h1 := readVals_err _ _ _ _ hv
        have h2 := splitL_sum 58 (restN 58 s)
        have hin' : (58 : UInt8) ∈ s := Classical.byContradiction hin
        have h3 : (restN 58 s).length = s.length - ((seg 58 s).length + 1) := by unfold restN; rw [if_pos hin', List.length_drop]
        have h4 := seg_lt hin'
        exact ⟨by decide, by omega, by omega⟩
theorem linesR_ok (s : List UInt8) (ps : List (List UInt8)) (hsum : sumL ps = s.length + 1) : (∀ m, linesR s ps = .ok m → InvM m) ∧ (∀ e a, linesR s ps = .error (e, a) → e ≠ 0 ∧ 0 ≤ a ∧ a ≤ s.length) := by
  cases ps with
  | nil => exact ⟨fun m h => (by cases h), fun e a h => by cases h; exact ⟨by decide, by omega, by omega⟩⟩
  | cons p r =>
    simp only [sumL, List.map_cons, List.sum_cons] at hsum
    rw [linesR]
    cases hf : firstR p with
    | error x =>
      obtain ⟨e, a⟩ := x
      refine ⟨fun m h => (by cases h), fun e a h => ?_⟩
      cases h
      have := firstR_err hf
      exact ⟨this.1, this.2.1, by omega⟩
    | ok x =>
      obtain ⟨nm, vs⟩ := x
      obtain ⟨h1, h2, h3, h4⟩ := firstR_ok hf
      dsimp only
      cases r with
      | nil =>
        rw [secondR]
        exact ⟨fun m h => (by cases h), fun e a h => by cases h; exact ⟨by decide, by omega, by omega⟩⟩
      | cons q r =>
        simp only [List.map_cons, List.sum_cons] at hsum
        rw [secondR]
        by_cases h0 : kindR q = 0
        · rw [if_pos h0]
          exact ⟨fun m h => (by cases h), fun e a h => by cases h; exact ⟨by decide, by omega, by omega⟩⟩
        · rw [if_neg h0]
          have inv : InvM (nm, kindR q, vs, 1000000, [], 0, ()) := ⟨h1, kindR_ok h0, ⟨h2, h3, h4⟩, by
            unfold rateB; simp, ⟨fun t ht => (by cases ht), by simp, List.Pairwise.nil⟩, (show timeB 0 = true by decide)⟩
          obtain ⟨g1, g2⟩ := restR_ok r ((p.length : Int) + 1 + (q.length + 1)) _ 0 inv
          refine ⟨g1, fun e a h => ?_⟩
          have := g2 e a h
          simp only [sumL] at this
          omega
theorem parseD_cases (s : List UInt8) : ((parseD s).2.1 = (0, 0, ()) ∧ InvM (parseD s).1) ∨ (∃ e a, e ≠ 0 ∧ 0 ≤ a ∧ a ≤ (s.length : Int) ∧ parseD s = badP e a) := by
  unfold parseD
  split
  · exact Or.inr ⟨12, 0, by decide, by omega, by omega, rfl⟩
  · obtain ⟨h1, h2⟩ := linesR_ok s (splitL 124 s) (splitL_sum 124 s)
    cases hl : linesR s (splitL 124 s) with
    | ok m => exact Or.inl ⟨rfl, h1 m hl⟩
    | error x =>
      obtain ⟨e, a⟩ := x
      obtain ⟨g1, g2, g3⟩ := h2 e a hl
      exact Or.inr ⟨e, a, g1, g2, g3, rfl⟩
end Go.AM
set_option linter.unusedVariables false
set_option linter.unusedSimpArgs false
namespace Go.AM
theorem splitL_app {c : UInt8} {a : List UInt8} (h : c ∉ a) (t : List UInt8) : splitL c (a ++ c :: t) = a :: splitL c t := by
  rw [splitL_seg, if_pos (by simp)]
  have e := seg_app h t
  have e2 : restN c (a ++ c :: t) = t := by
    unfold restN
    rw [if_pos (by simp), e]
    simp
  rw [e, e2]
end Go.AM
set_option linter.unusedVariables false
set_option linter.unusedSimpArgs false
namespace Go.AM
def sdM (s : List UInt8) : MetR := (sdParse s).getD (badM 11 0)
theorem sdM_eq (s : List UInt8) : sdParse s = some (sdM s) := by
  unfold sdM
  rcases sd_cases s with ⟨c, a, h, _⟩ | ⟨_, _, _, _, _, _, _, _, _, _, _, _, _, h⟩ <;> rw [h] <;> rfl
def fmtB (f : Int) : Bool := decide (1 ≤ f) && decide (f ≤ 3)
def parseT (s : List UInt8) (f : Int) : MetR :=
  if fmtB f = false then badM 29 0 else if 8192 < s.length then badM 12 0 else if f = 1 then sdM s else if f = 2 then parseD s else grParse s
theorem fmt_three {f : Int} (h : fmtB f = true) : f = 1 ∨ f = 2 ∨ f = 3 := by
  unfold fmtB at h
  simp only [Bool.and_eq_true, decide_eq_true_eq] at h
  omega
theorem textParse_eq (n : Nat) (hn : 200000 ≤ n) (s : List UInt8) (hs : s.length ≤ 1000000000) (f : Int) : F.text_Parse n s f = some (parseT s f) := by
  unfold F.text_Parse parseT
  have hd : decide ((s.length : Int) > 8192) = decide (8192 < s.length) := decide_eq_decide.2 (by omega)
  rw [hd]
  cases hf : fmtB f
  · have h1 : f ≠ 1 := fun e => by rw [e] at hf; cases hf
    have h2 : f ≠ 2 := fun e => by rw [e] at hf; cases hf
    have h3 : f ≠ 3 := fun e => by rw [e] at hf; cases hf
    rw [beq_eq_false_iff_ne.2 h1, beq_eq_false_iff_ne.2 h2, beq_eq_false_iff_ne.2 h3, if_pos rfl]
    rfl
  · rw [if_neg (by simp)]
    by_cases hl : 8192 < s.length
    · rw [decide_eq_true hl, if_pos hl]
      rcases fmt_three hf with rfl | rfl | rfl <;> rfl
    · rw [decide_eq_false hl, if_neg hl]
      rcases fmt_three hf with rfl | rfl | rfl
      · rw [beq_self_eq_true, cond_true, cond_false, sdParse_eq n hn s (by omega), sdM_eq, if_pos rfl]
        rfl
      · rw [show ((2 : Int) == 1) = false from rfl, cond_false, beq_self_eq_true, cond_true, cond_false, parse_eq n hn s (by omega), if_neg (by decide), if_pos rfl]
        rfl
      · rw [show ((3 : Int) == 1) = false from rfl, show ((3 : Int) == 2) = false from rfl, cond_false, cond_false, beq_self_eq_true, cond_true, cond_false, grParse_eq n hn s (by omega), if_neg (by decide), if_neg (by decide)]
        rfl
theorem parseT_cases (s : List UInt8) (f : Int) : ((parseT s f).2.1 = (0, 0, ()) ∧ (parseT s f).1.2.2.1.length ≤ 64 ∧ (parseT s f).1.2.2.2.2.1.length ≤ 32) ∨ (∃ c a, c ≠ 0 ∧ 0 ≤ a ∧ a ≤ (s.length : Int) ∧ parseT s f = badM c a) := by
  unfold parseT
  split
  · exact Or.inr ⟨29, 0, by decide, by omega, by omega, rfl⟩
  · split
    · exact Or.inr ⟨12, 0, by decide, by omega, by omega, rfl⟩
    · split
      · rcases sd_cases s with ⟨c, a, h, h1, h2, h3⟩ | ⟨_, _, _, _, _, _, _, _, _, _, _, _, _, h⟩
        · rw [sdM_eq] at h
          exact Or.inr ⟨c, a, h1, h2, h3, Option.some.inj h⟩
        · rw [sdM_eq] at h
          rw [Option.some.inj h]
          exact Or.inl ⟨rfl, (show (1 : Nat) ≤ 64 by omega), (show (0 : Nat) ≤ 32 by omega)⟩
      · split
        · rcases parseD_cases s with ⟨h, hI⟩ | ⟨e, a, h1, h2, h3, h⟩
          · exact Or.inl ⟨h, hI.vs.2.2, hI.tg.2.1⟩
          · exact Or.inr ⟨e, a, h1, h2, h3, h⟩
        · rcases gr_cases s with ⟨c, a, h, h1, h2, h3⟩ | ⟨_, _, _, _, _, _, _, _, _, _, _, h⟩
          · exact Or.inr ⟨c, a, h1, h2, h3, h⟩
          · rw [h]
            exact Or.inl ⟨rfl, (show (1 : Nat) ≤ 64 by omega), (show (0 : Nat) ≤ 32 by omega)⟩
end Go.AM
set_option linter.unusedVariables false
set_option linter.unusedSimpArgs false
namespace Go.AM
abbrev MetL := List UInt8 × Int × List DecL × Int × List TagL × Int
def toL (m : MetD) : MetL := (m.1, m.2.1, m.2.2.1, m.2.2.2.1, m.2.2.2.2.1, m.2.2.2.2.2.1)
theorem growM {X : Type} {v : List MetL} (h : v.length ≤ 100000) (y : Option X) : (bif decide ((v.length + 1) * 88 ≤ 2 ^ 46) && decide (0 < 88 ∧ 88 ≤ 2 ^ 20) then y else none) = y := by
  rw [decide_eq_true (by omega)]; rfl
def opM (m : MetL) : MetD := (m.1, m.2.1, m.2.2.1, m.2.2.2.1, m.2.2.2.2.1, m.2.2.2.2.2, ())
def BatOK (l : List MetL) : Prop := ∀ m ∈ l, MetOK (opM m)
def RightB (l : List MetL) : Prop := l.length ≤ 1000 ∧ ∀ m ∈ l, RightM (opM m) ∧ StrictT m.2.2.2.2.1
theorem RightB.ok {l : List MetL} (h : RightB l) : BatOK l := fun m hm => (h.2 m hm).1.ok
end Go.AM
set_option linter.unusedVariables false
set_option linter.unusedSimpArgs false
namespace Go.AM
abbrev DecT := List MetL × (Int × Int × Unit) × Unit
def decF (f : Int) : List (List UInt8) → List MetL → Int → Except (Int × Int) (List MetL)
  | [], out, _ => .ok out
  | [t], out, at_ => if t = [] then .ok out else if out.length = 1000 then .error (12, at_) else .error (30, at_)
  | p :: q :: r, out, at_ => if out.length = 1000 then .error (12, at_) else if (parseT p f).2.1.1 ≠ 0 then .error ((parseT p f).2.1.1, at_ + (parseT p f).2.1.2.1)
      else decF f (q :: r) (out ++ [toL (parseT p f).1]) (at_ + p.length + 1)
def outT : Except (Int × Int) (List MetL) → DecT
  | .ok l => (l, (0, 0, ()), ())
  | .error e => ([], (e.1, e.2, ()), ())
def decodeT (b : List UInt8) (f : Int) : DecT := if fmtB f = false then ([], (29, 0, ()), ()) else outT (decF f (splitL 10 b) [] 0)
theorem parseT_at (s : List UInt8) (f : Int) : (((parseT s f).2.1.1 == 0) && ((parseT s f).2.1.2.1 == 0)) = decide ((parseT s f).2.1.1 = 0) := by
  rcases parseT_cases s f with ⟨h, _⟩ | ⟨c, a, h1, _, _, h⟩
  · rw [h]; rfl
  · rw [h]
    have e : (badM c a).2.1.1 = c := rfl
    rw [e, decide_eq_false h1, beq_eq_false_iff_ne.2 h1]; rfl
theorem parseT_a (s : List UInt8) (f : Int) : 0 ≤ (parseT s f).2.1.2.1 ∧ (parseT s f).2.1.2.1 ≤ s.length := by
  rcases parseT_cases s f with ⟨h, _⟩ | ⟨c, a, h1, h2, h3, h⟩
  · rw [h]; exact ⟨by simp, by simp⟩
  · rw [h]; exact ⟨h2, h3⟩
theorem suffix_hit (n : Nat) {a : List UInt8} (ha : a.length ≤ 1000000000) : F.strings_CutSuffix n (a ++ [10]) [10] = some (a, true, ()) := by
  unfold F.strings_CutSuffix F.stringslite_CutSuffix F.stringslite_HasSuffix
  have hw : IntKind.wrap .i64 (((a ++ [(10 : UInt8)]).length : Int) - (([(10 : UInt8)] : List UInt8).length : Int)) = (a.length : Int) := by
    rw [wrap_in (by simp; omega)]; simp
  rw [bif_pos (by simp; omega), hw, sub_nat _ a.length _ (by simp) (by omega), List.take_length, List.drop_left, some_bind', some_bind', beq_self_eq_true, Bool.not_true, cond_false,
    show (0 : Int) = ((0 : Nat) : Int) from rfl, sub_nat _ 0 a.length (by omega) (by simp), List.take_left]
  rfl
theorem suffix_miss (n : Nat) {a : List UInt8} (ha : a.length ≤ 1000000000) (hne : a ≠ []) (h : (10 : UInt8) ∉ a) : F.strings_CutSuffix n a [10] = some (a, false, ()) := by
  unfold F.strings_CutSuffix F.stringslite_CutSuffix F.stringslite_HasSuffix
  have hp := List.length_pos_iff.2 hne
  have hw : IntKind.wrap .i64 ((a.length : Int) - (([(10 : UInt8)] : List UInt8).length : Int)) = ((a.length - 1 : Nat) : Int) := by
    rw [wrap_in (by simp; omega)]; simp; omega
  rw [bif_pos (by simp; omega), hw, sub_nat _ (a.length - 1) _ (by omega) (by omega), List.take_length, some_bind']
  have hd : (a.drop (a.length - 1) == [10]) = false := by
    rw [beq_eq_false_iff_ne]
    intro e
    exact h (List.mem_of_mem_drop (by rw [e]; simp))
  rw [hd]
  rfl
abbrev KD := Int → List MetL → Int → Int → List MetL → Int → List UInt8 → Nat → Nat → Option DecT
theorem dec_loop (n : Nat) (hn : 200000 ≤ n) (f : Int) (k0 kr : KD) (h0 : ∀ out a r k, k0 f [] 0 0 out a r 0 k = some (out, (0, 0, ()), ())) (hr : ∀ c a out a' r k, kr f [] c a out a' r 0 k = some ([], (c, a, ()), ())) :
    ∀ (m : Nat) (b : List UInt8) (out : List MetL) (a : Int), b.length < m → 0 ≤ a → a + b.length ≤ 100000000 → out.length ≤ 1000 →
    F.text_Decode.L0_strings_Lines_1 n k0 kr m f [] 0 0 out a b 0 out.length = some (outT (decF f (splitL 10 b) out a)) := by
  intro m
  induction m with
  | zero => intro b out a h; omega
  | succ m ih =>
    intro b out a hm ha hb ho
    rw [F.text_Decode.L0_strings_Lines_1]
    unfold F.text_Decode.L0_strings_Lines_1.step
    dsimp only
    by_cases hne : b = []
    · subst hne
      rw [bif_neg (by simp), h0]
      rfl
    have hp := List.length_pos_iff.2 hne
    have hi : F.strings_IndexByte n b 10 = some (Lib.indexByte b 10) := rfl
    have hk : ((out.length : Int) == 1000) = decide (out.length = 1000) := by
      by_cases h : out.length = 1000
      · rw [h]; rfl
      · rw [decide_eq_false h, beq_eq_false_iff_ne]; omega
    have hw0 : IntKind.wrap .i64 (a + 0) = a := by rw [Int.add_zero, wrap_in (by omega)]
    rw [bif_pos (by omega), hi, some_bind', seg_idx, splitL_seg]
    by_cases hin : (10 : UInt8) ∈ b
    · have hlt := seg_lt hin
      have hw1 : IntKind.wrap .i64 (((seg 10 b).length : Int) + 1) = (((seg 10 b).length + 1 : Nat) : Int) := wrap_succ (by omega)
      have hsp := seg_split hin
      have h10 : b[(seg 10 b).length]? = some 10 := by
        have := congrArg (fun l => l[(seg 10 b).length]?) hsp
        simpa using this
      have hx2 : sub b 0 (((seg 10 b).length + 1 : Nat) : Int) = some (seg 10 b ++ [10]) := by
        rw [show (0 : Int) = ((0 : Nat) : Int) from rfl, sub_nat b 0 _ (by omega) (by omega), List.drop_zero, List.take_add_one, seg_take, h10]
        rfl
      have hrn : restN 10 b = b.drop ((seg 10 b).length + 1) := by unfold restN; rw [if_pos hin]
      have hrl : (restN 10 b).length + ((seg 10 b).length + 1) = b.length := by rw [hrn, List.length_drop]; omega
      rw [if_pos hin, if_pos hin, bif_pos (by omega), hw1, hx2, some_bind', sub_nat b _ b.length (by omega) (by omega), List.take_length, ← hrn, some_bind', suffix_hit n (by omega), some_bind', hk]
      have hsne := splitL_ne 10 (restN 10 b)
      obtain ⟨q, r, hqr⟩ : ∃ q r, splitL 10 (restN 10 b) = q :: r := by
        cases hq : splitL 10 (restN 10 b) with
        | nil => exact absurd hq hsne
        | cons q r => exact ⟨q, r, rfl⟩
      rw [hqr, decF]
      have hwl : IntKind.wrap .i64 (a + (((seg 10 b) ++ [10]).length : Int)) = a + (seg 10 b).length + 1 := by
        rw [wrap_in (by simp; omega)]; simp; omega
      by_cases h1000 : out.length = 1000
      · rw [decide_eq_true h1000, cond_true, if_pos h1000]
        rw [Bool.false_and, Bool.not_false, cond_true, hw0, hr]
        rfl
      · rw [decide_eq_false h1000, cond_false, if_neg h1000]
        have hpa := parseT_a (seg 10 b) f
        dsimp only
        rw [Bool.not_true, cond_false, textParse_eq n hn _ (by omega), some_bind', parseT_at]
        by_cases hc : (parseT (seg 10 b) f).2.1.1 = 0
        · rw [decide_eq_true hc, Bool.not_true, cond_false, growM (by omega), Nat.beq_refl, cond_true, hwl, if_neg (fun h => h hc)]
          have := ih (restN 10 b) (out ++ [toL (parseT (seg 10 b) f).1]) (a + (seg 10 b).length + 1) (by omega) (by omega) (by omega) (by simp; omega)
          rw [hqr] at this
          exact this
        · rw [decide_eq_false hc, Bool.not_false, cond_true, if_pos hc, wrap_in (x := a + (parseT (seg 10 b) f).2.1.2.1) (by omega)]
          exact hr _ _ _ _ _ _
    · rw [if_neg hin, if_neg hin, bif_neg (by omega), suffix_miss n (by omega) hne hin, some_bind', hk, decF, if_neg hne]
      by_cases h1000 : out.length = 1000
      · rw [decide_eq_true h1000, cond_true, if_pos h1000]
        rw [Bool.false_and, Bool.not_false, cond_true, hw0, hr]
        rfl
      · rw [decide_eq_false h1000, cond_false, if_neg h1000]
        dsimp only
        rw [Bool.not_false, cond_true, Bool.false_and, Bool.not_false, cond_true, hw0, hr]
        rfl
theorem decode_big (n : Nat) (hn : 200000 ≤ n) (b : List UInt8) (hb : b.length ≤ 100000000) (hbn : b.length < n) (f : Int) : F.text_Decode n b f = some (decodeT b f) := by
  unfold F.text_Decode decodeT
  cases hf : fmtB f
  · have h1 : f ≠ 1 := fun e => by rw [e] at hf; cases hf
    have h2 : f ≠ 2 := fun e => by rw [e] at hf; cases hf
    have h3 : f ≠ 3 := fun e => by rw [e] at hf; cases hf
    rw [beq_eq_false_iff_ne.2 h1, beq_eq_false_iff_ne.2 h2, beq_eq_false_iff_ne.2 h3, if_pos rfl]
    rfl
  · rw [if_neg (by simp)]
    have L := dec_loop n hn f (fun e8_b0_0 e8_b1_0 e8_b2_0 e8_b2_1 e8_b5_0 e8_b6_0 e8_b7_0 e8_k0 e8_k1 => some ((e8_b5_0, ((0 : Int), (0 : Int), ()), ()))) (fun e9_b0_0 e9_b1_0 e9_b2_0 e9_b2_1 e9_b5_0 e9_b6_0 e9_b7_0 e9_k0 e9_k1 => some ((e9_b1_0, (e9_b2_0, e9_b2_1, ()), ()))) (fun _ _ _ _ => rfl) (fun _ _ _ _ _ _ => rfl) n b [] 0 (by omega) (by omega) (by omega) (by simp)
    rcases fmt_three hf with rfl | rfl | rfl
    · exact L
    · exact L
    · exact L
end Go.AM
set_option linter.unusedVariables false
set_option linter.unusedSimpArgs false
namespace Go.AM
def reps (s : List UInt8) : Nat → List UInt8
  | 0 => []
  | j + 1 => s ++ reps s j
theorem reps_len (s : List UInt8) : ∀ j, (reps s j).length = j * s.length
  | 0 => by simp [reps]
  | j + 1 => by simp only [reps, List.length_append, reps_len s j, Nat.succ_mul]; omega
theorem splitL_reps {p : List UInt8} (h : (10 : UInt8) ∉ p) : ∀ j, splitL 10 (reps (p ++ [10]) j) = List.replicate j p ++ [[]]
  | 0 => rfl
  | j + 1 => by
    have e : reps (p ++ [10]) (j + 1) = p ++ 10 :: reps (p ++ [10]) j := by simp [reps]
    rw [e, splitL_app h, splitL_reps h j]
    rfl
theorem decF_one {p : List UInt8} {r : List (List UInt8)} (h : r ≠ []) (f : Int) (out : List MetL) (a : Int) : decF f (p :: r) out a =
    if out.length = 1000 then .error (12, a) else if (parseT p f).2.1.1 ≠ 0 then .error ((parseT p f).2.1.1, a + (parseT p f).2.1.2.1) else decF f r (out ++ [toL (parseT p f).1]) (a + p.length + 1) := by
  cases r with
  | nil => exact absurd rfl h
  | cons q r => rfl
theorem decF_reps {p : List UInt8} {f : Int} (hp : (parseT p f).2.1.1 = 0) : ∀ (j : Nat) (out : List MetL) (a : Int), out.length ≤ 1000 →
    (out.length + j ≤ 1000 → ∃ l, decF f (List.replicate j p ++ [[]]) out a = .ok l ∧ l.length = out.length + j) ∧ (1000 < out.length + j → decF f (List.replicate j p ++ [[]]) out a = .error (12, a + ((1000 - out.length : Nat) : Int) * (p.length + 1)))
  | 0, out, a, ho => ⟨fun h => ⟨out, by simp [decF], by simp⟩, fun h => by omega⟩
  | j + 1, out, a, ho => by
    have e : List.replicate (j + 1) p ++ [[]] = p :: (List.replicate j p ++ [[]]) := rfl
    rw [e, decF_one (by simp)]
    by_cases h1 : out.length = 1000
    · rw [if_pos h1]
      exact ⟨fun h => by omega, fun _ => by rw [show (1000 - out.length : Nat) = 0 from by omega]; simp⟩
    · rw [if_neg h1, if_neg (fun h => h hp)]
      have ih := decF_reps hp j (out ++ [toL (parseT p f).1]) (a + p.length + 1) (by simp; omega)
      simp only [List.length_append, List.length_cons, List.length_nil] at ih
      refine ⟨fun h => ?_, fun h => ?_⟩
      · obtain ⟨l, e1, e2⟩ := ih.1 (by omega)
        exact ⟨l, e1, by omega⟩
      · rw [ih.2 (by omega), show (1000 - out.length : Nat) = (1000 - (out.length + (0 + 1))) + 1 from by omega]
        congr 2
        rw [Int.natCast_add, Int.add_mul]
        omega
theorem parse_zeros (k : Nat) : parseR (List.replicate k 48 ++ [49]) = ((false, 1, 0, ()), (0, 0, ()), ()) := by
  have hd : Digs (List.replicate k 48 ++ [49]) := digs_append.2 ⟨digs_rep k, rfl⟩
  have h1 := parse_whole false hd (by simp)
  have h2 : valR false (List.replicate k 48 ++ [49]) 0 = valR false [49] 0 := valR_same (d' := [49]) hd (by unfold Digs; kernel_rfl) (val_zeros_left k [49]) false 0
  rw [h2] at h1
  exact h1.trans (by kernel_rfl)
theorem free_zeros {c : UInt8} (hc : c ≠ 48 ∧ c ≠ 49) (k : Nat) : c ∉ List.replicate k 48 ++ [49] := by
  simp only [List.mem_append, List.mem_replicate, List.mem_singleton, not_or, not_and]
  exact ⟨fun _ => hc.1, hc.2⟩
theorem long_one (k : Nat) : (sdM ([97] ++ 58 :: ((List.replicate k 48 ++ [49]) ++ 124 :: [99]))).2.1.1 = 0 := by
  have h := sd_short (name := [97]) (value := List.replicate k 48 ++ [49]) (word := [99]) (d := (false, 1, 0)) (by kernel_rfl) (free_zeros (by decide) k) (parse_zeros k) (by decide) (fun h => absurd h.1 (by decide))
  unfold sdM
  rw [h]
  rfl
theorem long_two (k : Nat) (hl : ([97] ++ 58 :: ((List.replicate k 48 ++ [49]) ++ 124 :: [99]) : List UInt8).length ≤ 8192) : (parseD ([97] ++ 58 :: ((List.replicate k 48 ++ [49]) ++ 124 :: [99]))).2.1.1 = 0 := by
  unfold parseD
  rw [if_neg (by omega)]
  have e1 : ([97] ++ 58 :: ((List.replicate k 48 ++ [49]) ++ 124 :: [99]) : List UInt8) = ([97] ++ 58 :: (List.replicate k 48 ++ [49])) ++ 124 :: [99] := by simp
  have h1 : (124 : UInt8) ∉ ([97] ++ 58 :: (List.replicate k 48 ++ [49]) : List UInt8) := by
    have := free_zeros (c := 124) (by decide) k
    simp only [List.mem_append, List.mem_cons, not_or] at this ⊢
    exact ⟨by decide, by decide, this⟩
  have e2 : splitL 124 ([97] ++ 58 :: ((List.replicate k 48 ++ [49]) ++ 124 :: [99])) = [[97] ++ 58 :: (List.replicate k 48 ++ [49]), [99]] := by
    rw [e1, splitL_app h1]; rfl
  have e3 : firstR ([97] ++ 58 :: (List.replicate k 48 ++ [49])) = .ok ([97], [(false, 1, 0)]) := by
    have s1 : seg 58 ([97] ++ 58 :: (List.replicate k 48 ++ [49])) = [97] := seg_app (by decide) _
    have s2 : restN 58 ([97] ++ 58 :: (List.replicate k 48 ++ [49])) = List.replicate k 48 ++ [49] := by
      unfold restN
      rw [if_pos (by simp), s1]; rfl
    have s3 : splitL 58 (List.replicate k 48 ++ [49]) = [List.replicate k 48 ++ [49]] := by
      rw [splitL_seg, if_neg (free_zeros (by decide) k)]
    unfold firstR
    rw [s1, s2, s3, if_neg (by rw [show nameOK [97] = true from by kernel_rfl]; decide), if_neg (by simp)]
    unfold readVals
    rw [parse_zeros k, if_pos ⟨rfl, by decide⟩]
    rfl
  rw [e2]
  unfold linesR
  dsimp only
  rw [e3]
  unfold secondR
  dsimp only
  rw [if_neg (by decide)]
  rfl
theorem drop_behind (a : List UInt8) (c : UInt8) (t : List UInt8) : (a ++ c :: t).drop (a.length + 1) = t := by
  rw [← List.drop_drop, List.drop_left]; rfl
theorem long_three (k : Nat) : (grParse ([97] ++ 32 :: ((List.replicate k 48 ++ [49]) ++ 32 :: [53]))).2.1.1 = 0 := by
  have s1 : seg 32 ([97] ++ 32 :: ((List.replicate k 48 ++ [49]) ++ 32 :: [53])) = [97] := seg_app (by decide) _
  have s2 : seg 32 ((List.replicate k 48 ++ [49]) ++ 32 :: [53]) = List.replicate k 48 ++ [49] := seg_app (free_zeros (by decide) k) _
  unfold grParse
  rw [s1, if_neg (by rw [show nameOK [97] = true from by kernel_rfl]; decide), if_neg (fun h => h (by simp))]
  rw [drop_behind]
  unfold valueG
  rw [s2, parse_zeros k, if_neg (fun h => h rfl), if_neg (fun h => h (by simp))]
  rw [drop_behind]
  unfold timeS
  rw [if_neg (fun h => h (by kernel_rfl)), if_neg (by decide)]
def longL (f : Int) (k : Nat) : List UInt8 := if f = 3 then [97] ++ 32 :: ((List.replicate k 48 ++ [49]) ++ 32 :: [53]) else [97] ++ 58 :: ((List.replicate k 48 ++ [49]) ++ 124 :: [99])
theorem longL_len (f : Int) (k : Nat) : (longL f k).length = k + 5 := by unfold longL; split <;> simp
theorem longL_free (f : Int) (k : Nat) : (10 : UInt8) ∉ longL f k := by
  have := free_zeros (c := 10) (by decide) k
  simp only [List.mem_append, not_or] at this
  unfold longL
  split
  · simp only [List.mem_append, List.mem_cons, not_or]
    exact ⟨by decide, by decide, ⟨this.1, by decide, by simp⟩, by decide, by simp⟩
  · simp only [List.mem_append, List.mem_cons, not_or]
    exact ⟨by decide, by decide, ⟨this.1, by decide, by simp⟩, by decide, by simp⟩
theorem longL_parse {f : Int} (hf : fmtB f = true) (k : Nat) : (parseT (longL f k) f).2.1 = if 8192 < k + 5 then (12, 0, ()) else (0, 0, ()) := by
  have hlen := longL_len f k
  by_cases h : 8192 < k + 5
  · unfold parseT
    rw [if_neg (by rw [hf]; decide), if_pos (by omega), if_pos h]
  · rw [if_neg h]
    have h0 : (parseT (longL f k) f).2.1.1 = 0 := by
      unfold parseT
      rw [if_neg (by rw [hf]; decide), if_neg (by omega)]
      rcases fmt_three hf with rfl | rfl | rfl
      · exact long_one k
      · have hl2 : ([97] ++ 58 :: ((List.replicate k 48 ++ [49]) ++ 124 :: [99]) : List UInt8).length ≤ 8192 := by have := hlen; unfold longL at this; rw [if_neg (by decide)] at this; omega
        exact long_two k hl2
      · exact long_three k
    rcases parseT_cases (longL f k) f with ⟨h1, _⟩ | ⟨c, a, h1, _, _, h2⟩
    · exact h1
    · rw [h2] at h0
      exact absurd h0 h1
theorem decode_long {f : Int} (hf : fmtB f = true) (k : Nat) : (decodeT (longL f k ++ [10]) f).2.1 = if 8192 < k + 5 then (12, 0, ()) else (0, 0, ()) := by
  have hp := longL_parse hf k
  unfold decodeT
  rw [if_neg (by rw [hf]; decide), splitL_app (longL_free f k)]
  have hs : splitL 10 ([] : List UInt8) = [[]] := rfl
  rw [hs, decF_one (by simp), if_neg (by decide)]
  by_cases h : 8192 < k + 5
  · rw [if_pos h] at hp ⊢
    rw [hp, if_pos (by decide)]; rfl
  · rw [if_neg h] at hp ⊢
    rw [hp, if_neg (by decide)]; rfl
theorem many_loop {X : Type} (n : Nat) (k0 : _) (many f lo : Int) (s : List UInt8) (hs : s.length ≤ 10) (hm : many ≤ 2000) : ∀ (j i m v : Nat) (l : List UInt8), (i : Int) + j = many → j < m → l.length + 10 * j ≤ 100000 →
    F.law13_TextMany.L8 (X := X) n k0 m many f lo s (v, l.length) (i : Int) (v, l) = k0 many f lo s (v + j, (l ++ reps s j).length) (v + j, l ++ reps s j) := by
  intro j
  induction j with
  | zero =>
    intro i m v l hi hm hl
    obtain ⟨m, rfl⟩ : ∃ q, m = q + 1 := ⟨m - 1, by omega⟩
    rw [F.law13_TextMany.L8]
    unfold F.law13_TextMany.L8.step
    dsimp only
    rw [bif_neg (by omega)]
    simp [reps]
  | succ j ih =>
    intro i m v l hi hm hl
    obtain ⟨m, rfl⟩ : ∃ q, m = q + 1 := ⟨m - 1, by omega⟩
    rw [F.law13_TextMany.L8]
    unfold F.law13_TextMany.L8.step
    dsimp only
    have g : decide ((l.length + s.length) * 1 ≤ 2 ^ 46) = true := by simp only [decide_eq_true_eq]; omega
    rw [bif_pos (by omega), Nat.beq_refl, cond_true, g]
    simp only [Bool.true_and, show decide (0 < 1 ∧ 1 ≤ 2 ^ 20) = true from rfl, cond_true]
    rw [wrap_succ (by omega), ih (i + 1) m (v + 1) (l ++ s) (by omega) (by omega) (by simp only [List.length_append]; omega)]
    simp only [reps, List.append_assoc, show v + 1 + j = v + (j + 1) from by omega]
theorem zeros_loop {X : Type} (n : Nat) (k2 : _) (f lo : Int) (s : List UInt8) (hlo : lo ≤ 10000 ∧ 0 ≤ lo) : ∀ (j m : Nat) (l : List UInt8) (q : Nat), q = l.length → (l.length : Int) + j = lo - 3 → j < m →
    F.law13_TextMany.L21 (X := X) n k2 m f lo s l q = k2 f lo s (l ++ List.replicate j 48) (l ++ List.replicate j 48).length := by
  intro j
  induction j with
  | zero =>
    intro m l q hq hi hm
    subst hq
    obtain ⟨m, rfl⟩ : ∃ q, m = q + 1 := ⟨m - 1, by omega⟩
    rw [F.law13_TextMany.L21]
    unfold F.law13_TextMany.L21.step
    dsimp only
    rw [wrap_in (by omega), bif_neg (by omega)]
    simp
  | succ j ih =>
    intro m l q hq hi hm
    subst hq
    obtain ⟨m, rfl⟩ : ∃ q, m = q + 1 := ⟨m - 1, by omega⟩
    rw [F.law13_TextMany.L21]
    unfold F.law13_TextMany.L21.step
    dsimp only
    have g : decide ((l.length + 1) * 1 ≤ 2 ^ 46) = true := by simp only [decide_eq_true_eq]; omega
    rw [wrap_in (by omega), bif_pos (by omega), g]
    simp only [Bool.true_and, show decide (0 < 1 ∧ 1 ≤ 2 ^ 20) = true from rfl, cond_true, Nat.beq_refl]
    have e48 : UInt8.ofNat ((48 : Int)).toNat = 48 := rfl
    rw [e48, ih m (l ++ [48]) _ rfl (by simp only [List.length_append, List.length_cons, List.length_nil]; omega) (by omega)]
    simp [List.replicate_succ]
theorem c21_many {X : Type} (n : Nat) (hn : 400000 ≤ n) (hA : F.law13_awake n = some true) (kr : Bool → Option X) {f lo : Int} (hf : fmtB f = true) (hlo : 8180 ≤ lo ∧ lo ≤ 8200) (s l0 : List UInt8) (h : s = (if f = 3 then [97, 32, 49, 32, 53, 10] else [97, 58, 49, 124, 99, 10])) (h0 : l0 = (if f = 3 then [97, 32] else [97, 58])) :
    F.law13_TextMany.C21 n kr f lo s l0 2 = kr true := by
  have hl0 : l0.length = 2 := by rw [h0]; split <;> rfl
  unfold F.law13_TextMany.C21
  refine (zeros_loop n _ f lo s (by omega) (lo - 5).toNat n l0 2 hl0.symm (by omega) (by omega)).trans ?_
  have hsub : sub s (2 : Int) (5 : Int) = some (if f = 3 then [49, 32, 53] else [49, 124, 99]) := by rw [h]; split <;> rfl
  have hline : l0 ++ List.replicate (lo - 5).toNat 48 ++ (if f = 3 then [49, 32, 53] else [49, 124, 99]) = longL f (lo - 5).toNat := by
    rw [h0]; unfold longL; split <;> simp
  have ht : (if f = 3 then [49, 32, 53] else [49, 124, 99] : List UInt8).length = 3 := by split <;> rfl
  have hll := longL_len f (lo - 5).toNat
  have e10 : [UInt8.ofNat ((10 : Int)).toNat] = ([10] : List UInt8) := rfl
  rw [hsub, some_bind']
  have g1 : decide (((l0 ++ List.replicate (lo - 5).toNat 48).length + (if f = 3 then [49, 32, 53] else [49, 124, 99] : List UInt8).length) * 1 ≤ 2 ^ 46) = true := by
    rw [ht]; simp only [List.length_append, List.length_replicate, decide_eq_true_eq]; omega
  rw [g1, hline]
  have g2 : decide (((longL f (lo - 5).toNat).length + 1) * 1 ≤ 2 ^ 46) = true := by simp only [decide_eq_true_eq]; omega
  rw [g2]
  simp only [Bool.true_and, show decide (0 < 1 ∧ 1 ≤ 2 ^ 20) = true from rfl, cond_true, Nat.beq_refl]
  have hd := decode_long hf (lo - 5).toNat
  rw [e10, decode_big n (by omega) _ (by simp only [List.length_append, List.length_cons, List.length_nil]; omega) (by simp only [List.length_append, List.length_cons, List.length_nil]; omega) f, some_bind', hd, hA]
  by_cases h8 : 8192 < (lo - 5).toNat + 5
  · rw [if_pos h8, bif_pos (by omega)]; rfl
  · rw [if_neg h8, bif_neg (by omega)]; rfl
theorem c6_many {X : Type} (n : Nat) (hn : 400000 ≤ n) (hA : F.law13_awake n = some true) (kr : Bool → Option X) {many f lo : Int} (hm : 990 ≤ many ∧ many ≤ 1010) (hlo : 8180 ≤ lo ∧ lo ≤ 8200) (p : List UInt8) (h : p = (if f = 1 ∨ f = 2 then [97, 58, 49, 124, 99] else [97, 32, 49, 32, 53])) :
    F.law13_TextMany.C6 n kr many f lo (p ++ [10]) = kr true := by
  have hp5 : p.length = 5 := by rw [h]; split <;> rfl
  have hp10 : (10 : UInt8) ∉ p := by rw [h]; split <;> decide
  unfold F.law13_TextMany.C6
  have hL := many_loop (X := X) n (fun e22_0 e22_1 e22_2 e22_7 e22_8 e22_b0_0 =>
      bif Nat.beq e22_8.1 e22_b0_0.1 then
        (F.text_Decode n e22_b0_0.2 e22_1).bind fun y23 =>
          bif decide (e22_1 < (1 : Int)) then
            bif (y23.2.1.1 == (29 : Int)) && (y23.2.1.2.1 == (0 : Int)) then
              bif (y23.1.length : Int) == (0 : Int) then
                (F.law13_awake n ).bind fun y24 =>
                  kr y24
              else
                kr false
            else
              kr false
          else
          bif decide (e22_1 > (3 : Int)) then
            bif (y23.2.1.1 == (29 : Int)) && (y23.2.1.2.1 == (0 : Int)) then
              bif (y23.1.length : Int) == (0 : Int) then
                (F.law13_awake n ).bind fun y25 =>
                  kr y25
              else
                kr false
            else
              kr false
          else
          bif decide (e22_0 > (1000 : Int)) then
            bif (y23.2.1.1 == (12 : Int)) && (y23.2.1.2.1 == (6000 : Int)) then
              bif (y23.1.length : Int) == (0 : Int) then
                (F.law13_awake n ).bind fun y26 =>
                  kr y26
              else
                kr false
            else
              kr false
          else
          bif !((y23.2.1.1 == (0 : Int)) && (y23.2.1.2.1 == (0 : Int))) then
            kr false
          else
          bif !((y23.1.length : Int) == e22_0) then
            kr false
          else
          bif !(e22_1 == (3 : Int)) then
            F.law13_TextMany.C21 n
              (fun e27_6 =>
                kr e27_6) e22_1 e22_2 e22_7 ([UInt8.ofNat ((97 : Int)).toNat, UInt8.ofNat ((58 : Int)).toNat]) 2
          else
            F.law13_TextMany.C21 n
              (fun e28_6 =>
                kr e28_6) e22_1 e22_2 e22_7 ([UInt8.ofNat ((97 : Int)).toNat, UInt8.ofNat ((32 : Int)).toNat]) 2
      else
        none) many f lo (p ++ [10]) (by simp [hp5]) (by omega) many.toNat 0 n 1 [] (by omega) (by omega) (by simp; omega)
  refine Eq.trans hL ?_
  simp only [Nat.beq_refl, cond_true, List.nil_append]
  have hlen := reps_len (p ++ [10]) many.toNat
  simp only [List.length_append, List.length_cons, List.length_nil, hp5] at hlen
  rw [decode_big n (by omega) _ (by omega) (by omega) f, some_bind']
  by_cases hf : fmtB f = true
  · have hf3 := fmt_three hf
    rw [bif_neg (by omega), bif_neg (by omega)]
    have hpp : (parseT p f).2.1.1 = 0 := by
      rw [h]
      rcases hf3 with rfl | rfl | rfl
      · rw [if_pos (Or.inl rfl)]; kernel_rfl
      · rw [if_pos (Or.inr rfl)]; kernel_rfl
      · rw [if_neg (by decide)]; kernel_rfl
    have hd := decF_reps hpp many.toNat [] 0 (by simp)
    have hdt : decodeT (reps (p ++ [10]) many.toNat) f = outT (decF f (List.replicate many.toNat p ++ [[]]) [] 0) := by
      unfold decodeT
      rw [if_neg (by rw [hf]; decide), splitL_reps hp10]
    rw [hdt]
    simp only [List.length_nil, Nat.zero_add] at hd
    have hd1 := hd.1
    have hd2 := hd.2
    clear hd
    by_cases hb : 1000 < many.toNat
    · rw [hd2 hb, bif_pos (by clear hd1 hd2; omega), hp5, hA]; rfl
    · obtain ⟨l, e1, e2⟩ := hd1 (by clear hd1 hd2; omega)
      clear hd1 hd2
      rw [e1, bif_neg (by omega)]
      have e3 : ((outT (.ok l)).1.length : Int) = many := by show (l.length : Int) = many; omega
      rw [e3]
      rw [show (!(((outT (.ok l)).2.1.1 == (0 : Int)) && ((outT (.ok l)).2.1.2.1 == (0 : Int)))) = false from rfl, cond_false, beq_self_eq_true, Bool.not_true, cond_false]
      by_cases h3 : f = 3
      · rw [beq_iff_eq.2 h3, Bool.not_true, cond_false]
        refine c21_many n hn hA kr hf hlo _ _ ?_ ?_
        · rw [h, if_neg (by omega), if_pos h3]; rfl
        · rw [if_pos h3]; rfl
      · rw [beq_eq_false_iff_ne.2 h3, Bool.not_false, cond_true]
        refine c21_many n hn hA kr hf hlo _ _ ?_ ?_
        · rw [h, if_pos (by omega), if_neg h3]; rfl
        · rw [if_neg h3]; rfl
  · have hdt : decodeT (reps (p ++ [10]) many.toNat) f = ([], (29, 0, ()), ()) := by
      unfold decodeT
      rw [if_pos (by simpa using hf)]
    have hff : f < 1 ∨ f > 3 := by
      unfold fmtB at hf
      simp only [Bool.and_eq_true, decide_eq_true_eq] at hf
      omega
    rw [hdt, hA]
    by_cases h1 : f < 1
    · rw [bif_pos h1]; rfl
    · rw [bif_neg h1, bif_pos (by omega)]; rfl
theorem text_many (n : Nat) (hn : 400000 ≤ n) (hA : F.law13_awake n = some true) (many f lo : Int) : F.law13_TextMany n many f lo = some true := by
  unfold F.law13_TextMany
  rw [hA]
  by_cases h1 : many < 990
  · rw [bif_pos h1]; rfl
  rw [bif_neg h1]
  by_cases h2 : many > 1010
  · rw [bif_pos h2]; rfl
  rw [bif_neg h2]
  by_cases h3 : lo < 8180
  · rw [bif_pos h3]; rfl
  rw [bif_neg h3]
  by_cases h4 : lo > 8200
  · rw [bif_pos h4]; rfl
  rw [bif_neg h4]
  by_cases f1 : f = 1
  · rw [beq_iff_eq.2 f1, cond_true]
    exact c6_many n hn hA _ (by omega) (by omega) [97, 58, 49, 124, 99] (by rw [if_pos (Or.inl f1)])
  rw [beq_eq_false_iff_ne.2 f1, cond_false]
  by_cases f2 : f = 2
  · rw [beq_iff_eq.2 f2, cond_true]
    exact c6_many n hn hA _ (by omega) (by omega) [97, 58, 49, 124, 99] (by rw [if_pos (Or.inr f2)])
  rw [beq_eq_false_iff_ne.2 f2, cond_false]
  exact c6_many n hn hA _ (by omega) (by omega) [97, 32, 49, 32, 53] (by rw [if_neg (by omega)])
theorem awake13N : F.law13_awake 400000 = some true := by kernel_rfl
end Go.AM
namespace Go.Proofs.YtonhplejlfnkoaaGreatDoor.textMany
open Go.ChangeShapes Go.WideShapes Go.ChangeAt Go.RowKit Go.AM
theorem j1 : laidOutB Tryz.prog = true := by kernel_rfl
theorem own : ownKnob Tryz.prog.godebug = none := by kernel_rfl
theorem goes : LawGoes Tryz.prog SI 4 [(.int .i64), (.int .i64), (.int .i64)] := fun x hx w vals hI hr =>
  ok4 _ (x.1, x.2.1, x.2.2.1, ()) true (text_many 400000 (by omega) awake13N x.1 x.2.1 x.2.2.1) w (AllD w) vals (WOf.of hI) hr (fun b o h => h)
noncomputable def laidWorld (os : Os) : World := laidOf Tryz.prog os [layTab 4 Rows.laid_math_bits_deBruijn32tab, layTab 5 Rows.laid_math_bits_deBruijn64tab, layTab 1 Rows.laid_internal_strconv_uint64pow10, layTab 3 Rows.laid_unicode_utf8_acceptRanges, layErr 7 295 297 Rows.laid_strconv_ErrRange, layErr 6 295 297 Rows.laid_strconv_ErrSyntax, layTab 2 Rows.laid_unicode_utf8_first]
theorem laid_met (os : Os) (args : Array Value) : laidMet Tryz.prog Rows.textManyRow.laid ((laidWorld os).forCall (fun _ _ => 0) ⟨#[], args, []⟩).memory :=
  (LaidIn.of_run [4, 5, 1, 3, 7, 6, 2, (World.holding Tryz.prog os ⟨#[], #[], []⟩).heap.size, (World.holding Tryz.prog os ⟨#[], #[], []⟩).heap.size + 1] 8 (by kernel_rfl) (by kernel_rfl) (by kernel_rfl) (by kernel_rfl)).met
theorem witness_row (os : Os) {H : Type} (enc : TypeId × Value → H) :
    (OpenSpec.ofChange Rows.textManySpec).preRow enc Tryz.prog Tryz.f4 Rows.textManyRow.domain false Rows.textManyRow.laid ((laidWorld os).forCall (fun _ _ => 0) ⟨#[], #[.int .i64 0, .int .i64 0, .int .i64 0], []⟩).memory #[.int .i64 0, .int .i64 0, .int .i64 0] := by
  have hw : (DataW.whole enc Tryz.prog ((laidWorld os).forCall (fun _ _ => 0) ⟨#[], #[.int .i64 0, .int .i64 0, .int .i64 0], []⟩).memory Tryz.f4.params.toList Rows.textManySpec.vars false (#[.int .i64 0, .int .i64 0, .int .i64 0] : Array Value).toList 8).map (fun x => (x.1, x.2.1)) =
      some ([.lit (.int .i64 0), .lit (.int .i64 0), .lit (.int .i64 0)], []) := by kernel_rfl
  obtain ⟨⟨x1, x2, x3⟩, hx, hx1⟩ := Option.map_eq_some_iff.1 hw
  simp only [Prod.mk.injEq] at hx1
  obtain ⟨rfl, rfl⟩ := hx1
  exact OpenSpec.preRow_of_cond 8 hx (by kernel_rfl) (fun k hk => by cases hk) (by kernel_rfl) (laid_met os _)
set_option maxRecDepth 100000 in
theorem lifted (os : Os) (started : os.Started) (H : Type) (enc : TypeId × Value → H) (F : Stop.Interp) :
    ReturnsInHanded {} Tryz.checked os 4 .any ((OpenSpec.ofChange Rows.textManySpec).preRow enc Tryz.prog Tryz.f4 Rows.textManyRow.domain false Rows.textManyRow.laid) (((OpenSpec.ofChange Rows.textManySpec).at F).post enc Tryz.prog Tryz.f4 false true false false) := by
  refine returnsInHanded_of_row (C := Tryz.checked) (s := OpenSpec.ofChange Rows.textManySpec) own started (by kernel_rfl) Tryz.func4
    (witness_row_atRef (enc := enc) (C := Tryz.checked) false (laidWorld os) #[.int .i64 0, .int .i64 0, .int .i64 0] rfl (by kernel_rfl) (by kernel_rfl) (by kernel_rfl) (witness_row os enc)) ?_
  intro W base args ds gs before hval hW _ _ hw hL hO _
  exact law_calls (s := Rows.textManySpec) (n := 8) j1 Tryz.func4 (by kernel_rfl) (by decide) (by kernel_rfl) rfl Tryz.underlying4 rfl (fun ds h => by match ds, h with | [_, _, _], _ => rfl) goes hval hW hw ⟨hL, hO⟩
theorem j2 : mapsRowed Tryz.prog = true := by kernel_rfl
theorem j3 : (Rows.textManyRow.inPlace == Tryz.prog.inPlace 4) = true := by kernel_rfl
theorem j4 : (Rows.textManyRow.unfollowed == Tryz.prog.unfollowed 4) = true := by kernel_rfl
theorem j5 : (Rows.textManyRow.recurses == Tryz.prog.recurses 4) = true := by kernel_rfl
theorem j6 : (Rows.textManyRow.named == Tryz.prog.varsNamed 4) = true := by kernel_rfl
theorem joined : joinedFacts Tryz.prog 4 Tryz.f4 (OpenSpec.ofChange Rows.textManySpec).bare Rows.textManyRow = true := by
  simp only [joinedFacts, Bool.and_eq_true]
  repeat' apply And.intro
  · kernel_rfl
  · exact j1
  · exact j2
  · kernel_rfl
  · kernel_rfl
  · kernel_rfl
  · kernel_rfl
  · kernel_rfl
  · kernel_rfl
  · exact j3
  · exact j4
  · exact j5
  · exact j6
  all_goals kernel_rfl
theorem said : Rows.TextManySaid :=
  OpenClaim.holds_of_cond 4 Tryz.f4 rfl rfl rfl rfl rfl rfl rfl ⟨rfl, rfl, rfl, rfl, rfl⟩ rfl rfl rfl rfl rfl (by kernel_rfl) Tryz.func4 joined
    (of_decide_eq_true (by kernel_rfl)) (by unfold Func.isWrapper; first | (rw [if_pos (by decide +kernel)]; kernel_rfl) | (rw [if_neg (by decide +kernel)]; exact ⟨rfl, rfl⟩))
    (fun os started H enc _ F => by rw [OpenClaim.pre_eq_preRow]; exact lifted os started H enc F)
theorem plain (f : FuncId) (fn : Func) (hf : Tryz.pinned.checked.prog.funcNamed "forebay/forebaylaw13.TextMany" = some f) (hfn : Tryz.pinned.checked.prog.funcs[f]? = some fn) :
    true = Tryz.pinned.checked.prog.looks [] ∧ ∀ (j : Nat) t, fn.params[j]? = some t → Tryz.pinned.checked.prog.wantsStandIn t = false := by
  obtain rfl : f = 4 := Option.some.inj ((show Tryz.prog.funcNamed "forebay/forebaylaw13.TextMany" = some 4 by kernel_rfl).symm.trans hf) |>.symm
  obtain rfl : fn = Tryz.f4 := (Option.some.inj (Tryz.func4.symm.trans hfn)).symm
  refine ⟨by kernel_rfl, fun j t ht => ?_⟩
  have hm : t ∈ ([3, 3, 3] : List TypeId) := by
    rw [Tryz.params4] at ht
    have := Array.mem_of_getElem? ht
    simpa using this
  have all : ∀ x ∈ ([3, 3, 3] : List TypeId), Tryz.prog.wantsStandIn x = false := fun x hx => by
    have h : ([3, 3, 3] : List TypeId).all (fun x => Tryz.prog.wantsStandIn x == false) = true := by kernel_rfl
    simpa using List.all_eq_true.1 h x hx
  exact all t hm
theorem proved : Rows.TextManyCardSaid :=
  Claim7.holds_tied_plain_at .later [] _ _ _ _ said (fun _ h => by cases h) (by kernel_rfl) (fun _ h => by cases h) textMany_row_tie rfl ⟨rfl, rfl⟩ (by kernel_rfl) rfl plain (by kernel_rfl)
end Go.Proofs.YtonhplejlfnkoaaGreatDoor.textMany
