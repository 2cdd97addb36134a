/- DogWords: each kind has its word, and each word its kind, for every number and every text. -/
import Derived.Test.YtgkhaoohkeblfaaGreatDoorQ5
import Derived.KernelRfl
import Derived.Test.YtgkhaoohkeblfaaGreatDoorCards
import Derived.Test.YtgkhaoohkeblfaaGreatDoorTie
import Derived.OpenShut
set_option linter.unusedVariables false
set_option linter.unusedSimpArgs false
namespace Go.AM
abbrev Res (α : Type) := Except (Int × Int) α
def kindR (s : List UInt8) : Int := if s = [99] then 1 else if s = [103] then 2 else if s = [109, 115] then 3 else if s = [104] then 4 else if s = [100] then 5 else 0
theorem kind_eq (n : Nat) (hn : 100 ≤ n) (s : List UInt8) : F.dog_Kind n s = some (if kindR s = 0 then (0, 16, ()) else (kindR s, 0, ())) := by
  obtain ⟨m, hm⟩ : ∃ q, n = q + 7 := ⟨n - 7, by omega⟩
  unfold F.dog_Kind
  rw [show F.dog_words n = some ([], [99], [103], [109, 115], [104], [100], ()) from rfl, some_bind']
  have L : ∀ (k0 : Unit → Option (Int × Int × Unit)) (kr : Int → Int → Option (Int × Int × Unit)), F.dog_Kind.L2 n k0 kr (m + 7) s ([], [99], [103], [109, 115], [104], [100], ()) (0 : Int) = if s = [99] then kr 1 0 else if s = [103] then kr 2 0 else if s = [109, 115] then kr 3 0 else if s = [104] then kr 4 0 else if s = [100] then kr 5 0 else k0 () := by
    intro k0 kr
    have e1 : ([99] == s) = decide (s = [99]) := by by_cases h : s = [99] <;> simp [h]; exact fun h' => h h'.symm
    have e2 : ([103] == s) = decide (s = [103]) := by by_cases h : s = [103] <;> simp [h]; exact fun h' => h h'.symm
    have e3 : ([109, 115] == s) = decide (s = [109, 115]) := by by_cases h : s = [109, 115] <;> simp [h]; exact fun h' => h h'.symm
    have e4 : ([104] == s) = decide (s = [104]) := by by_cases h : s = [104] <;> simp [h]; exact fun h' => h h'.symm
    have e5 : ([100] == s) = decide (s = [100]) := by by_cases h : s = [100] <;> simp [h]; exact fun h' => h h'.symm
    show (bif [99] == s then kr 1 0 else bif [103] == s then kr 2 0 else bif [109, 115] == s then kr 3 0 else bif [104] == s then kr 4 0 else bif [100] == s then kr 5 0 else k0 ()) = _
    rw [e1, e2, e3, e4, e5]
    simp only [bdec]
  rw [hm] at L ⊢
  refine (L _ _).trans ?_
  unfold kindR
  repeat' split
  all_goals first | rfl | (simp_all)
def readVals : List (List UInt8) → List DecL → Int → Except Int (List DecL)
  | [], acc, _ => .ok acc
  | v :: r, acc, at_ => if (parseR v).2.1.1 = 0 ∧ acc.length ≠ 64 then readVals r (acc ++ [((parseR v).1.1, (parseR v).1.2.1, (parseR v).1.2.2.1)]) (at_ + v.length + 1) else .error at_
def restN (c : UInt8) (s : List UInt8) : List UInt8 := if c ∈ s then s.drop ((seg c s).length + 1) else []
def firstR (s : List UInt8) : Res (List UInt8 × List DecL) :=
  if nameOK (seg 58 s) = false then .error (15, 0)
  else if 58 ∉ s then .error (11, (s.length : Int))
  else match readVals (splitL 58 (restN 58 s)) [] ((seg 58 s).length + 1) with
    | .ok vs => .ok (seg 58 s, vs)
    | .error at_ => .error (17, at_)
def tagsR : List (List UInt8) → List TagL → Int → Except Int (List TagL)
  | [], acc, _ => .ok acc
  | p :: r, acc, at_ => if tagGood (seg 58 p, restN 58 p) = true ∧ ¬ (58 ∈ p ∧ restN 58 p = []) then tagsR r (acc ++ [(seg 58 p, restN 58 p)]) (at_ + p.length + 1) else .error at_
def moreR (m : MetD) (last : Int) : List UInt8 → Except Int (MetD × Int)
  | [] => .error 11
  | x :: s =>
    if x = 64 then (if 0 < last then .error 11 else if (rateR s).2.1.1 ≠ 0 ∨ (m.2.1 = 2 ∧ (rateR s).1 ≠ 1000000) then .error 18 else .ok ((m.1, m.2.1, m.2.2.1, (rateR s).1, m.2.2.2.2.1, m.2.2.2.2.2.1, ()), 1))
    else if x = 35 then (if 1 < last then .error 11 else match tagsR (splitL 44 s) [] 0 with
      | .error _ => .error 19
      | .ok l => if 32 < l.length then .error 19 else .ok ((m.1, m.2.1, m.2.2.1, m.2.2.2.1, normT l, m.2.2.2.2.2.1, ()), 2))
    else if x = 84 then (if 2 < last then .error 11 else if (parseNum s 1 1099511627776).2.1.1 ≠ 0 then .error 20 else .ok ((m.1, m.2.1, m.2.2.1, m.2.2.2.1, m.2.2.2.2.1, (parseNum s 1 1099511627776).1, ()), 3))
    else .error 11
def restR : List (List UInt8) → Int → MetD → Int → Res MetD
  | [], _, m, _ => .ok m
  | p :: r, at_, m, last => match moreR m last p with
    | .error e => .error (e, at_)
    | .ok (m', last') => restR r (at_ + p.length + 1) m' last'
def secondR (s p : List UInt8) (nm : List UInt8) (vs : List DecL) : List (List UInt8) → Res MetD
  | [] => .error (11, (s.length : Int))
  | q :: r => if kindR q = 0 then .error (16, (p.length : Int) + 1) else restR r ((p.length : Int) + 1 + (q.length + 1)) (nm, kindR q, vs, 1000000, [], 0, ()) 0
def linesR (s : List UInt8) : List (List UInt8) → Res MetD
  | [] => .error (11, 0)
  | p :: r => match firstR p with
    | .error e => .error e
    | .ok x => secondR s p x.1 x.2 r
abbrev ParseD := MetD × (Int × Int × Unit) × Unit
def outP : Res MetD → ParseD
  | .ok m => (m, (0, 0, ()), ())
  | .error e => (zeroM, (e.1, e.2, ()), ())
def parseD (s : List UInt8) : ParseD := if 8192 < s.length then (zeroM, (12, 0, ()), ()) else outP (linesR s (splitL 124 s))
theorem restN_le (c : UInt8) (s : List UInt8) : (restN c s).length ≤ s.length := by
  unfold restN; split <;> simp
def sumL (l : List (List UInt8)) : Nat := (l.map fun p => p.length + 1).sum
theorem splitL_sum (c : UInt8) (s : List UInt8) : sumL (splitL c s) = s.length + 1 := by
  induction s with
  | nil => rfl
  | cons x s ih =>
    rw [splitL]
    split
    · simp only [sumL, List.map_cons, List.sum_cons, List.length_nil, List.length_cons] at ih ⊢
      omega
    · have hne := splitL_ne c s
      revert ih hne
      cases splitL c s with
      | nil => intro _ h; exact absurd rfl h
      | cons p l =>
        intro ih _
        simp only [sumL, List.map_cons, List.sum_cons, List.length_cons] at ih ⊢
        omega
theorem sumL_len (l : List (List UInt8)) : l.length ≤ sumL l := by
  induction l with
  | nil => simp [sumL]
  | cons p l ih => simp only [sumL, List.map_cons, List.sum_cons, List.length_cons] at ih ⊢; omega
theorem sumL_mem {l : List (List UInt8)} {p : List UInt8} (h : p ∈ l) : p.length + 1 ≤ sumL l := by
  induction l with
  | nil => cases h
  | cons q l ih =>
    simp only [sumL, List.map_cons, List.sum_cons] at ih ⊢
    rcases List.mem_cons.1 h with rfl | h
    · omega
    · have := ih h; omega
theorem split_eq (n : Nat) (c : UInt8) {s : List UInt8} (hs : s.length ≤ 1000000) : O.split1 n s [c] = some (splitL c s) := by
  unfold O.split1
  dsimp only
  rw [decide_eq_true (by omega)]; rfl
theorem parseR_bad (s : List UInt8) : ((parseR s).2.1.1 == 0 && (parseR s).2.1.2.1 == 0) = decide ((parseR s).2.1.1 = 0) := by
  by_cases h : (parseR s).2.1.1 = 0
  · rw [decide_eq_true h, h, parseR_at h]; rfl
  · rw [decide_eq_false h, beq_eq_false_iff_ne.2 h]; rfl
theorem tagsR_loop (n : Nat) (hn : 200000 ≤ n) (X : Type) (k0 kr : List TagL → Int → Int → Nat → Option X) (ps : List (List UInt8)) (hs : sumL ps ≤ 10000) (b0 b1 : Int) : ∀ (r : List (List UInt8)) (acc : List TagL) (a : Int) (i m : Nat), ps.drop i = r → acc.length ≤ i → i ≤ ps.length → r.length < m → 0 ≤ a → a + sumL r ≤ 10000 →
    F.tag_Parse.L4 n k0 kr m acc a ps (ps.length : Int) (i : Int) b0 b1 acc.length = match tagsR r acc a with
      | .ok l => k0 l b0 b1 l.length
      | .error e => kr [] 19 e 0 := by
  intro r
  have hpl := sumL_len ps
  induction r with
  | nil =>
    intro acc a i m h1 h2 hi hm ha has
    obtain ⟨m, rfl⟩ : ∃ q, m = q + 1 := ⟨m - 1, by omega⟩
    rw [F.tag_Parse.L4]
    unfold F.tag_Parse.L4.step
    dsimp only
    rw [bif_neg (by have := drop_nil' h1; omega)]
    rfl
  | cons p r ih =>
    intro acc a i m h1 h2 hi hm ha has
    obtain ⟨m, rfl⟩ : ∃ q, m = q + 1 := ⟨m - 1, by simp at hm; omega⟩
    obtain ⟨l1, g1, t1⟩ := drop_cons h1
    simp only [List.length_cons] at hm
    simp only [sumL, List.map_cons, List.sum_cons] at has
    have hp := sumL_mem (List.mem_of_getElem? g1)
    have hsl := seg_le 58 p
    have hrl := restN_le 58 p
    have hih := ih (acc ++ [(seg 58 p, restN 58 p)]) (a + p.length + 1) (i + 1) m t1 (by simp; omega) (by omega) (by omega) (by omega) (by simp only [sumL]; omega)
    have hcut : F.strings_Cut n p [58] = some (seg 58 p, restN 58 p, decide (58 ∈ p), ()) := cut_eq n 58 (by omega)
    have hw : IntKind.wrap .i64 (a + IntKind.wrap .i64 ((p.length : Int) + 1)) = a + p.length + 1 := by
      rw [wrap_succ (by omega), wrap_in (by omega)]; omega
    have hg : (decide ((acc.length + 1) * 32 ≤ 2 ^ 46) && decide (0 < 32 ∧ 32 ≤ 2 ^ 20)) = true := by rw [decide_eq_true (by omega)]; rfl
    rw [F.tag_Parse.L4]
    unfold F.tag_Parse.L4.step
    dsimp only
    rw [bif_pos (by omega), idx_nat, g1, some_bind', hcut, some_bind']
    dsimp only
    have hc := tag_chk n hn (t := (seg 58 p, restN 58 p)) ⟨by show (seg 58 p).length ≤ 10000; omega, by show (restN 58 p).length ≤ 10000; omega⟩
    dsimp only at hc
    rw [hc, some_bind', hw, wrap_succ (by omega), hg, Nat.beq_refl, cond_true, cond_true, tagsR]
    cases tagGood (seg 58 p, restN 58 p)
    · rw [if_neg (by simp)]; rfl
    · rw [cond_true, beq_self_eq_true, Bool.not_true, cond_false, bdec]
      by_cases hin : (58 : UInt8) ∈ p
      · rw [if_pos hin]
        by_cases h0 : restN 58 p = []
        · rw [h0, beq_self_eq_true, cond_true, if_neg (by simp [hin])]
        · rw [beq_eq_false_iff_ne.2 h0, cond_false, if_pos ⟨rfl, by simp [h0]⟩]
          exact hih
      · rw [if_neg hin, if_pos ⟨rfl, by simp [hin]⟩]
        exact hih
theorem tagParse_eq (n : Nat) (hn : 200000 ≤ n) (s : List UInt8) (hs : s.length ≤ 9000) : F.tag_Parse n s = some (match tagsR (splitL 44 s) [] 0 with | .ok l => (l, (0, 0, ()), ()) | .error e => ([], (19, e, ()), ())) := by
  unfold F.tag_Parse
  have h1 := splitL_sum 44 s
  have h2 := sumL_len (splitL 44 s)
  rw [split_eq n 44 (by omega), some_bind']
  refine (tagsR_loop n hn _ _ _ (splitL 44 s) (by omega) 0 0 (splitL 44 s) [] 0 0 n rfl (by simp) (by omega) (by omega) (by omega) (by omega)).trans ?_
  cases tagsR (splitL 44 s) [] 0 <;> rfl
end Go.AM
set_option linter.unusedVariables false
set_option linter.unusedSimpArgs false
namespace Go.AM
abbrev KR := List UInt8 → Int → List DecL → Int → List TagL → Int → Int → Int → List UInt8 → Int → List DecL → Int → List TagL → Int → Int → Int → Int → Int → Int → Int → Nat → Nat → Nat → Option ParseD
abbrev K8 := List UInt8 → List (List UInt8) → List UInt8 → Int → List DecL → Int → List TagL → Int → Int → Int → List UInt8 → Int → List DecL → Int → List TagL → Int → Int → Int → Int → Int → Nat → Nat → Nat → Option ParseD
def badP (e a : Int) : ParseD := (zeroM, (e, a, ()), ())
theorem first_loop (n : Nat) (hn : 200000 ≤ n) (k1 kr : KR) (ps : List (List UInt8)) (hs : sumL ps ≤ 9000)
    (c0 : List UInt8) (c1 : Int) (c2 : List DecL) (c3 : Int) (c4 : List TagL) (c5 d0 d1 : Int) (e0 : List UInt8) (e1 : Int) (e3 : Int) (e4 : List TagL) (e5 e7 f0 f1 : Int) (q0 q1 : Nat)
    (hbad : ∀ acc a l, kr c0 c1 c2 c3 c4 c5 d0 d1 e0 e1 acc e3 e4 e5 0 e7 f0 f1 17 a q0 q1 l = some (badP 17 a)) :
    ∀ (r : List (List UInt8)) (acc : List DecL) (a : Int) (i m : Nat), ps.drop i = r → acc.length ≤ i → i ≤ ps.length → r.length < m → 0 ≤ a → a + sumL r ≤ 10000 →
    F.dog_Parse.L9_dog_reader_first n k1 kr m a ps (ps.length : Int) (i : Int) c0 c1 c2 c3 c4 c5 d0 d1 e0 e1 acc e3 e4 e5 0 e7 f0 f1 0 0 q0 q1 acc.length = match readVals r acc a with
      | .ok vs => k1 c0 c1 c2 c3 c4 c5 d0 d1 e0 e1 vs e3 e4 e5 0 e7 f0 f1 0 0 q0 q1 vs.length
      | .error b => some (badP 17 b) := by
  intro r
  have hpl := sumL_len ps
  induction r with
  | nil =>
    intro acc a i m h1 h2 hi hm ha has
    obtain ⟨m, rfl⟩ : ∃ q, m = q + 1 := ⟨m - 1, by omega⟩
    rw [F.dog_Parse.L9_dog_reader_first]
    unfold F.dog_Parse.L9_dog_reader_first.step
    dsimp only
    rw [bif_neg (by have := drop_nil' h1; omega)]
    rfl
  | cons p r ih =>
    intro acc a i m h1 h2 hi hm ha has
    obtain ⟨m, rfl⟩ : ∃ q, m = q + 1 := ⟨m - 1, by simp at hm; omega⟩
    obtain ⟨l1, g1, t1⟩ := drop_cons h1
    simp only [List.length_cons] at hm
    simp only [sumL, List.map_cons, List.sum_cons] at has
    have hp := sumL_mem (List.mem_of_getElem? g1)
    have hih := ih (acc ++ [((parseR p).1.1, (parseR p).1.2.1, (parseR p).1.2.2.1)]) (a + p.length + 1) (i + 1) m t1 (by simp; omega) (by omega) (by omega) (by omega) (by simp only [sumL]; omega)
    have hw : IntKind.wrap .i64 (a + IntKind.wrap .i64 ((p.length : Int) + 1)) = a + p.length + 1 := by
      rw [wrap_succ (by omega), wrap_in (by omega)]; omega
    have hw0 : IntKind.wrap .i64 (0 + a) = a := by rw [Int.zero_add, wrap_in (by omega)]
    have hg : (decide ((acc.length + 1) * 24 ≤ 2 ^ 46) && decide (0 < 24 ∧ 24 ≤ 2 ^ 20)) = true := by rw [decide_eq_true (by omega)]; rfl
    have h64 : ((acc.length : Int) == 64) = decide (acc.length = 64) := by
      by_cases h : acc.length = 64
      · rw [h]; rfl
      · rw [decide_eq_false h, beq_eq_false_iff_ne]; omega
    rw [F.dog_Parse.L9_dog_reader_first]
    unfold F.dog_Parse.L9_dog_reader_first.step
    dsimp only
    rw [bif_pos (by omega), idx_nat, g1, some_bind', decparse_eq n hn p (by omega), some_bind', parseR_bad, hw, hw0, wrap_succ (by omega), hg, Nat.beq_refl, cond_true, cond_true, h64, readVals]
    by_cases h0 : (parseR p).2.1.1 = 0
    · rw [decide_eq_true h0, Bool.not_true, cond_false]
      by_cases h6 : acc.length = 64
      · rw [decide_eq_true h6, cond_true, if_neg (by simp [h6])]
        exact hbad _ _ _
      · rw [decide_eq_false h6, cond_false, if_pos ⟨h0, h6⟩]
        exact hih
    · rw [decide_eq_false h0, Bool.not_false, cond_true, if_neg (by simp [h0])]
      exact hbad _ _ _
theorem prefix_eq (n : Nat) (c x : UInt8) (s : List UInt8) : F.strings_CutPrefix n (x :: s) [c] = some (if x = c then (s, true, ()) else (x :: s, false, ())) := by
  unfold F.strings_CutPrefix F.stringslite_CutPrefix F.stringslite_HasPrefix
  have h1 : sub (x :: s) 0 (([c] : List UInt8).length : Int) = some [x] := by
    rw [show (0 : Int) = ((0 : Nat) : Int) from rfl, show (([c] : List UInt8).length : Int) = ((1 : Nat) : Int) from rfl, sub_nat (x :: s) 0 1 (by omega) (by simp)]; rfl
  have h2 : sub (x :: s) (([c] : List UInt8).length : Int) ((x :: s).length : Int) = some s := by
    rw [show (([c] : List UInt8).length : Int) = ((1 : Nat) : Int) from rfl, sub_nat (x :: s) 1 _ (by simp) (by omega), List.take_length]; rfl
  rw [bif_pos (by simp; omega), h1, h2]
  by_cases h : x = c
  · subst h
    simp
  · rw [if_neg h]
    have : ([x] == [c]) = false := by simpa using h
    simp [this]
theorem prefix_nil (n : Nat) (c : UInt8) : F.strings_CutPrefix n [] [c] = some ([], false, ()) := rfl
theorem rate_bad (s : List UInt8) : ((rateR s).2.1.1 == 0 && (rateR s).2.1.2.1 == 0) = decide ((rateR s).2.1.1 = 0) := by
  by_cases h : (rateR s).2.1.1 = 0
  · rw [decide_eq_true h, h, (rate_ok h).1]; rfl
  · rw [decide_eq_false h, beq_eq_false_iff_ne.2 h]; rfl
theorem time_bad (s : List UInt8) : ((parseNum s 1 1099511627776).2.1.1 == 0 && (parseNum s 1 1099511627776).2.1.2.1 == 0) = decide ((parseNum s 1 1099511627776).2.1.1 = 0) := by
  by_cases h : (parseNum s 1 1099511627776).2.1.1 = 0
  · rw [decide_eq_true h, h, (parse_back h).1]; rfl
  · rw [decide_eq_false h, beq_eq_false_iff_ne.2 h]; rfl
theorem tagsR_len : ∀ (r : List (List UInt8)) (acc : List TagL) (a : Int) (l : List TagL), tagsR r acc a = .ok l → l.length = acc.length + r.length
  | [], acc, a, l, h => by cases h; simp
  | p :: r, acc, a, l, h => by
    rw [tagsR] at h
    split at h
    · have := tagsR_len r _ _ _ h
      simp at this ⊢; omega
    · cases h
theorem more_eq (n : Nat) (hn : 200000 ≤ n) (k0 kr : KR) (p : List UInt8) (hs : p.length ≤ 9000)
    (c0 : List UInt8) (c1 : Int) (c2 : List DecL) (c3 : Int) (c4 : List TagL) (c5 d0 d1 : Int) (e0 : List UInt8) (e1 : Int) (e2 : List DecL) (e3 : Int) (e4 : List TagL) (e5 a last f0 f1 : Int) (q0 q1 q2 : Nat) (ha : 0 ≤ a ∧ a ≤ 100000)
    (hk0 : k0 c0 c1 c2 c3 c4 c5 d0 d1 e0 e1 e2 e3 e4 e5 a last f0 f1 0 0 q0 q1 q2 = some (badP 11 a))
    (hbad : ∀ l e, e ≠ 0 → kr c0 c1 c2 c3 c4 c5 d0 d1 e0 e1 e2 e3 e4 e5 a l f0 f1 e a q0 q1 q2 = some (badP e a)) (m : Nat) (hm : 5 ≤ m) :
    F.dog_Parse.L2_dog_reader_more n k0 kr m p ([64], (), [35], (), [84], (), ()) (0 : Int) c0 c1 c2 c3 c4 c5 d0 d1 e0 e1 e2 e3 e4 e5 a last f0 f1 0 0 q0 q1 q2 = match moreR (e0, e1, e2, e3, e4, e5, ()) last p with
      | .error e => some (badP e a)
      | .ok (w, l) => kr c0 c1 c2 c3 c4 c5 d0 d1 w.1 w.2.1 w.2.2.1 w.2.2.2.1 w.2.2.2.2.1 w.2.2.2.2.2.1 a l f0 f1 0 0 q0 q1 q2 := by
  obtain ⟨m, rfl⟩ : ∃ q, m = q + 4 := ⟨m - 4, by omega⟩
  have hw0 : IntKind.wrap .i64 (a + 0) = a := by rw [Int.add_zero, wrap_in (by omega)]
  have w1 : IntKind.wrap .i64 ((0 : Int) + 1) = 1 := rfl
  have w2 : IntKind.wrap .i64 ((1 : Int) + 1) = 2 := rfl
  have w3 : IntKind.wrap .i64 ((2 : Int) + 1) = 3 := rfl
  have b1 : ((1 : Int) == 0) = false := rfl
  have b2 : ((2 : Int) == 0) = false := rfl
  have b3 : ((2 : Int) == 1) = false := rfl
  cases p with
  | nil =>
    rw [moreR]
    rw [F.dog_Parse.L2_dog_reader_more]
    unfold F.dog_Parse.L2_dog_reader_more.step
    dsimp only
    rw [bif_pos (by omega), beq_self_eq_true, cond_true, prefix_nil, some_bind', Bool.not_false, cond_true, w1, F.dog_Parse.L2_dog_reader_more]
    unfold F.dog_Parse.L2_dog_reader_more.step
    dsimp only
    rw [bif_pos (by omega), b1, beq_self_eq_true, cond_true, cond_false, prefix_nil, some_bind', Bool.not_false, cond_true, w2, F.dog_Parse.L2_dog_reader_more]
    unfold F.dog_Parse.L2_dog_reader_more.step
    dsimp only
    rw [bif_pos (by omega), b2, b3, beq_self_eq_true, cond_true, cond_false, cond_false, prefix_nil, some_bind', Bool.not_false, cond_true, w3, F.dog_Parse.L2_dog_reader_more]
    unfold F.dog_Parse.L2_dog_reader_more.step
    dsimp only
    rw [bif_neg (by omega)]
    exact hk0
  | cons x s =>
    simp only [List.length_cons] at hs
    rw [moreR]
    rw [F.dog_Parse.L2_dog_reader_more]
    unfold F.dog_Parse.L2_dog_reader_more.step
    dsimp only
    rw [bif_pos (by omega), beq_self_eq_true, cond_true, prefix_eq, some_bind', w1, hw0]
    by_cases h64 : x = 64
    · rw [if_pos h64, if_pos h64]
      dsimp only
      rw [Bool.not_true, cond_false, bdec]
      by_cases hl : 0 < last
      · rw [if_pos hl, if_pos hl]; exact hk0
      · rw [if_neg hl, if_neg hl, rate_num n (by omega) s (by omega) (by omega), some_bind', rate_bad]
        by_cases h0 : (rateR s).2.1.1 = 0
        · rw [decide_eq_true h0, Bool.not_true, cond_false]
          by_cases h2 : e1 = 2
          · rw [h2, beq_self_eq_true, cond_true]
            by_cases h1 : (rateR s).1 = 1000000
            · rw [h1, beq_self_eq_true, Bool.not_true, cond_false, if_neg (by simp [h0])]
            · rw [beq_eq_false_iff_ne.2 h1, Bool.not_false, cond_true, if_pos (by simp [h1])]
              rw [h2] at hbad
              exact hbad _ _ (by decide)
          · rw [beq_eq_false_iff_ne.2 h2, cond_false, if_neg (by simp [h0, h2])]
        · rw [decide_eq_false h0, Bool.not_false, cond_true, if_pos (by simp [h0])]
          exact hbad _ _ (by decide)
    rw [if_neg h64, if_neg h64]
    dsimp only
    rw [Bool.not_false, cond_true]
    rw [F.dog_Parse.L2_dog_reader_more]
    unfold F.dog_Parse.L2_dog_reader_more.step
    dsimp only
    rw [bif_pos (by omega), b1, beq_self_eq_true, cond_false, cond_true, prefix_eq, some_bind', w2, hw0]
    by_cases h35 : x = 35
    · rw [if_pos h35, if_pos h35]
      dsimp only
      rw [Bool.not_true, cond_false, bdec]
      by_cases hl : 1 < last
      · rw [if_pos hl, if_pos hl]; exact hk0
      · have hsl := splitL_sum 44 s
        have hsn := sumL_len (splitL 44 s)
        rw [if_neg hl, if_neg hl, tagParse_eq n hn s (by omega), some_bind']
        cases hT : tagsR (splitL 44 s) [] 0 with
        | error e =>
          dsimp only
          rw [show ((19 : Int) == 0) = false from rfl, Bool.false_and, Bool.not_false, cond_true]
          exact hbad _ _ (by decide)
        | ok l =>
          have hll := tagsR_len _ _ _ _ hT
          simp only [List.length_nil, Nat.zero_add] at hll
          dsimp only
          rw [beq_self_eq_true, Bool.and_self, Bool.not_true, cond_false, bdec]
          by_cases h32 : 32 < l.length
          · rw [if_pos (by omega), if_pos h32]
            exact hbad _ _ (by decide)
          · rw [if_neg (by omega), if_neg h32, tagNormal_eq n hn l (by omega), some_bind']
    rw [if_neg h35, if_neg h35]
    dsimp only
    rw [Bool.not_false, cond_true]
    rw [F.dog_Parse.L2_dog_reader_more]
    unfold F.dog_Parse.L2_dog_reader_more.step
    dsimp only
    rw [bif_pos (by omega), b2, b3, beq_self_eq_true, cond_false, cond_false, cond_true, prefix_eq, some_bind', w3, hw0]
    by_cases h84 : x = 84
    · rw [if_pos h84, if_pos h84]
      dsimp only
      rw [Bool.not_true, cond_false, bdec]
      by_cases hl : 2 < last
      · rw [if_pos hl, if_pos hl]; exact hk0
      · rw [if_neg hl, if_neg hl, time_eq n s (by omega) (by omega), some_bind', time_bad]
        by_cases h0 : (parseNum s 1 1099511627776).2.1.1 = 0
        · rw [decide_eq_true h0, Bool.not_true, cond_false, if_neg (by simp [h0])]
        · rw [decide_eq_false h0, Bool.not_false, cond_true, if_pos h0]
          exact hbad _ _ (by decide)
    rw [if_neg h84, if_neg h84]
    dsimp only
    rw [Bool.not_false, cond_true]
    rw [F.dog_Parse.L2_dog_reader_more]
    unfold F.dog_Parse.L2_dog_reader_more.step
    dsimp only
    rw [bif_neg (by omega)]
    exact hk0
structure K8OK (s : List UInt8) (ps : List (List UInt8)) (k0 : K8) : Prop where
  bad : ∀ c0 c1 c2 c3 c4 c5 d0 d1 e0 e1 e2 e3 e4 e5 e6 e7 e a q0 q1 q2, e ≠ 0 → k0 s ps c0 c1 c2 c3 c4 c5 d0 d1 e0 e1 e2 e3 e4 e5 e6 e7 e a q0 q1 q2 = some (badP e a)
  ok : 2 ≤ ps.length → ∀ c0 c1 c2 c3 c4 c5 d0 d1 e0 e1 e2 e3 e4 e5 e6 e7 q0 q1 q2, k0 s ps c0 c1 c2 c3 c4 c5 d0 d1 e0 e1 e2 e3 e4 e5 e6 e7 0 0 q0 q1 q2 = some ((e0, e1, e2, e3, e4, e5, ()), (0, 0, ()), ())
  one : ps.length < 2 → ∀ c0 c1 c2 c3 c4 c5 d0 d1 e0 e1 e2 e3 e4 e5 e6 e7 q0 q1 q2, k0 s ps c0 c1 c2 c3 c4 c5 d0 d1 e0 e1 e2 e3 e4 e5 e6 e7 0 0 q0 q1 q2 = some (badP 11 (s.length : Int))
theorem at_step {a : Int} (p : List UInt8) (h : 0 ≤ a ∧ a + p.length + 1 ≤ 100000) : IntKind.wrap .i64 (a + IntKind.wrap .i64 ((p.length : Int) + 1)) = a + p.length + 1 := by
  rw [wrap_succ (by omega), wrap_in (by omega)]; omega
theorem drest_loop (n : Nat) (hn : 200000 ≤ n) (k0 : K8) (s : List UInt8) (ps : List (List UInt8)) (hs : sumL ps ≤ 9000) (hk : K8OK s ps k0) (h2 : 2 ≤ ps.length)
    (c0 : List UInt8) (c1 : Int) (c2 : List DecL) (c3 : Int) (c4 : List TagL) (c5 d0 d1 : Int) (q0 q1 q2 : Nat) :
    ∀ (r : List (List UInt8)) (a : Int) (w : MetD) (last : Int) (i m : Nat), ps.drop i = r → 2 ≤ i → i ≤ ps.length → r.length < m → 0 ≤ a → a + sumL r ≤ 10000 →
    F.dog_Parse.L8 n k0 m s ps ps (ps.length : Int) (i : Int) c0 c1 c2 c3 c4 c5 d0 d1 w.1 w.2.1 w.2.2.1 w.2.2.2.1 w.2.2.2.2.1 w.2.2.2.2.2.1 a last 0 0 q0 q1 q2 = some (outP (restR r a w last)) := by
  intro r
  have hpl := sumL_len ps
  induction r with
  | nil =>
    intro a w last i m h1 hi2 hi hm ha has
    obtain ⟨m, rfl⟩ : ∃ q, m = q + 1 := ⟨m - 1, by omega⟩
    rw [F.dog_Parse.L8]
    unfold F.dog_Parse.L8.step
    dsimp only
    rw [bif_neg (by have := drop_nil' h1; omega), restR]
    exact hk.ok h2 _ _ _ _ _ _ _ _ _ _ _ _ _ _ _ _ _ _ _
  | cons p r ih =>
    intro a w last i m h1 hi2 hi hm ha has
    obtain ⟨m, rfl⟩ : ∃ q, m = q + 1 := ⟨m - 1, by simp at hm; omega⟩
    obtain ⟨l1, g1, t1⟩ := drop_cons h1
    simp only [List.length_cons] at hm
    simp only [sumL, List.map_cons, List.sum_cons] at has
    have hp := sumL_mem (List.mem_of_getElem? g1)
    have hw0 : IntKind.wrap .i64 (a + 0) = a := by rw [Int.add_zero, wrap_in (by omega)]
    rw [F.dog_Parse.L8]
    unfold F.dog_Parse.L8.step
    dsimp only
    rw [bif_pos (by omega), idx_nat, g1, some_bind', bif_neg (by omega : ¬ (i : Int) < 2)]
    refine (more_eq n hn _ _ p (by omega) c0 c1 c2 c3 c4 c5 d0 d1 w.1 w.2.1 w.2.2.1 w.2.2.2.1 w.2.2.2.2.1 w.2.2.2.2.2.1 a last 0 0 q0 q1 q2 (by omega) ?_ ?_ n (by omega)).trans ?_
    · rw [hw0, Bool.false_and, Bool.not_false, cond_true]
      exact hk.bad _ _ _ _ _ _ _ _ _ _ _ _ _ _ _ _ _ _ _ _ _ (by decide)
    · intro l e he
      rw [beq_eq_false_iff_ne.2 he, Bool.false_and, Bool.not_false, cond_true]
      exact hk.bad _ _ _ _ _ _ _ _ _ _ _ _ _ _ _ _ _ _ _ _ _ he
    · have hww : (w.1, w.2.1, w.2.2.1, w.2.2.2.1, w.2.2.2.2.1, w.2.2.2.2.2.1, ()) = w := rfl
      rw [hww, restR]
      cases moreR w last p with
      | error e => rfl
      | ok x =>
        obtain ⟨w', l'⟩ := x
        dsimp only
        rw [at_step p (by omega), wrap_succ (by omega)]
        exact ih (a + p.length + 1) w' l' (i + 1) m t1 (by omega) (by omega) (by omega) (by omega) (by simp only [sumL]; omega)
theorem nameB (s : List UInt8) : (((textF 1 s 1 200).1 == 0) && ((textF 1 s 1 200).2.1 == 0)) = nameOK s := textF_both 1 s 1 200
theorem lines_eq (n : Nat) (hn : 200000 ≤ n) (k0 : K8) (s : List UInt8) (ps : List (List UInt8)) (hne : ps ≠ []) (hs : sumL ps ≤ 9000) (hsl : s.length ≤ 9000) (hk : K8OK s ps k0) (c0 : List UInt8) (c1 : Int) (c2 : List DecL) (c3 : Int) (c4 : List TagL) (c5 d0 d1 : Int) (q0 q1 : Nat) :
    F.dog_Parse.L8 n k0 n s ps ps (ps.length : Int) (0 : Int) c0 c1 c2 c3 c4 c5 d0 d1 [] 0 [] 1000000 [] 0 0 0 0 0 q0 q1 0 = some (outP (linesR s ps)) := by
  have hpl := sumL_len ps
  cases ps with
  | nil => exact absurd rfl hne
  | cons p r =>
    obtain ⟨m, hm⟩ : ∃ q, n = q + 2 := ⟨n - 2, by omega⟩
    have hp := sumL_mem (show p ∈ p :: r by simp)
    have hseg := seg_le 58 p
    have hrn := restN_le 58 p
    have hcut : F.strings_Cut n p [58] = some (seg 58 p, restN 58 p, decide (58 ∈ p), ()) := cut_eq n 58 (by omega)
    have hw0 : ∀ x : Int, 0 ≤ x ∧ x ≤ 100000 → IntKind.wrap .i64 (0 + x) = x := fun x hx => by rw [Int.zero_add, wrap_in (by omega)]
    have key : ∀ m, 20001 ≤ m + 1 → F.dog_Parse.L8 n k0 (m + 1) s (p :: r) (p :: r) ((p :: r).length : Int) (0 : Int) c0 c1 c2 c3 c4 c5 d0 d1 [] 0 [] 1000000 [] 0 0 0 0 0 q0 q1 0 = match firstR p with
        | .error e => some (badP e.1 e.2)
        | .ok x => F.dog_Parse.L8 n k0 m s (p :: r) (p :: r) ((p :: r).length : Int) ((1 : Nat) : Int) c0 c1 c2 c3 c4 c5 d0 d1 x.1 0 x.2 1000000 [] 0 ((p.length : Int) + 1) 0 0 0 q0 q1 x.2.length := by
      intro m hm
      rw [F.dog_Parse.L8]
      unfold F.dog_Parse.L8.step
      dsimp only
      rw [bif_pos (by simp only [List.length_cons]; omega), show idx (p :: r) 0 = some p from rfl, some_bind', bif_pos (by omega : (0 : Int) < 2), beq_self_eq_true, cond_true, hcut, some_bind']
      dsimp only
      rw [text_cls n 1 _ 1 200 (by omega) (by omega), some_bind', nameB]
      unfold firstR
      cases hnm : nameOK (seg 58 p)
      · rw [Bool.not_false, cond_true, if_pos rfl, hw0 0 (by omega), Bool.false_and, Bool.not_false, cond_true]
        exact hk.bad _ _ _ _ _ _ _ _ _ _ _ _ _ _ _ _ _ _ _ _ _ (by decide)
      · rw [Bool.not_true, cond_false, if_neg (by simp)]
        by_cases hin : (58 : UInt8) ∈ p
        · rw [decide_eq_true hin, Bool.not_true, cond_false, if_neg (by simp [hin]), split_eq n 58 (by omega), some_bind']
          have hsum := splitL_sum 58 (restN 58 p)
          have hsn := sumL_len (splitL 58 (restN 58 p))
          have hrl : (seg 58 p).length + 1 + (restN 58 p).length ≤ p.length := by
            unfold restN
            rw [if_pos hin, List.length_drop]
            have := seg_lt hin
            omega
          have hA : IntKind.wrap .i64 (((seg 58 p).length : Int) + 1) = ((seg 58 p).length : Int) + 1 := wrap_in (by omega)
          have hP : IntKind.wrap .i64 ((p.length : Int) + 1) = (p.length : Int) + 1 := wrap_in (by omega)
          rw [hA, hP]
          refine (first_loop n hn _ _ (splitL 58 (restN 58 p)) (by omega) c0 c1 c2 c3 c4 c5 d0 d1 (seg 58 p) 0 1000000 [] 0 0 0 0 q0 q1 ?_ (splitL 58 (restN 58 p)) [] _ 0 n rfl (by simp) (by omega) (by omega) (by omega) (by omega)).trans ?_
          · intro acc a l
            rw [show ((17 : Int) == 0) = false from rfl, Bool.false_and, Bool.not_false, cond_true]
            exact hk.bad _ _ _ _ _ _ _ _ _ _ _ _ _ _ _ _ _ _ _ _ _ (by decide)
          · cases readVals (splitL 58 (restN 58 p)) [] (((seg 58 p).length : Int) + 1) with
            | error b => rfl
            | ok vs =>
              dsimp only
              rw [Bool.and_self, Bool.not_true, cond_false, hw0 ((p.length : Int) + 1) (by omega)]
              rfl
        · rw [decide_eq_false hin, Bool.not_false, cond_true, if_pos hin, hw0 _ (by omega), Bool.false_and, Bool.not_false, cond_true]
          exact hk.bad _ _ _ _ _ _ _ _ _ _ _ _ _ _ _ _ _ _ _ _ _ (by decide)
    have key2 : ∀ m, 20001 ≤ m + 1 → ∀ nm (vs : List DecL) (a : Int) (l : Nat), a = (p.length : Int) + 1 → F.dog_Parse.L8 n k0 (m + 1) s (p :: r) (p :: r) ((p :: r).length : Int) ((1 : Nat) : Int) c0 c1 c2 c3 c4 c5 d0 d1 nm 0 vs 1000000 [] 0 a 0 0 0 q0 q1 l = some (outP (secondR s p nm vs r)) := by
      intro m hm nm vs a l hA
      rw [F.dog_Parse.L8]
      unfold F.dog_Parse.L8.step
      dsimp only
      cases r with
      | nil =>
        rw [bif_neg (by simp), secondR]
        exact hk.one (by simp) _ _ _ _ _ _ _ _ _ _ _ _ _ _ _ _ _ _ _
      | cons q r =>
        have hq := sumL_mem (show q ∈ p :: q :: r by simp)
        rw [bif_pos (by simp only [List.length_cons]; omega), show idx (p :: q :: r) ((1 : Nat) : Int) = some q from rfl, some_bind', bif_pos (by omega), show (((1 : Nat) : Int) == 0) = false from rfl, cond_false, show (((1 : Nat) : Int) == 1) = true from rfl, cond_true, kind_eq n (by omega), some_bind']
        have hwa : IntKind.wrap .i64 (a + 0) = a := by rw [Int.add_zero, wrap_in (by omega)]
        rw [secondR]
        by_cases h0 : kindR q = 0
        · rw [if_pos h0, if_pos h0]
          dsimp only
          rw [show ((16 : Int) == 0) = false from rfl, Bool.not_false, cond_true, Bool.false_and, Bool.not_false, cond_true, hwa, hA]
          exact hk.bad _ _ _ _ _ _ _ _ _ _ _ _ _ _ _ _ _ _ _ _ _ (by decide)
        · rw [if_neg h0, if_neg h0]
          dsimp only
          rw [beq_self_eq_true, Bool.not_true, cond_false, Bool.and_self, Bool.not_true, cond_false]
          simp only [sumL, List.map_cons, List.sum_cons, List.length_cons] at hs hpl
          rw [at_step q (by omega), show IntKind.wrap .i64 (((1 : Nat) : Int) + 1) = ((2 : Nat) : Int) from rfl, hA]
          have := drest_loop n hn k0 s (p :: q :: r) (by simp only [sumL, List.map_cons, List.sum_cons]; omega) hk (by simp) c0 c1 c2 c3 c4 c5 d0 d1 q0 q1 l r ((p.length : Int) + 1 + (q.length + 1)) (nm, kindR q, vs, 1000000, [], 0, ()) 0 2 m rfl (by omega) (by simp) (by omega) (by omega) (by simp only [sumL]; omega)
          rw [show (p.length : Int) + 1 + (q.length + 1) = (p.length : Int) + 1 + q.length + 1 by omega] at this ⊢
          exact this
    have k1 := key (m + 1) (by omega)
    have k2 := key2 m (by omega)
    have hmm : n = m + 1 + 1 := hm
    rw [linesR]
    have goal : ∀ j, j = m + 1 + 1 → F.dog_Parse.L8 n k0 j s (p :: r) (p :: r) ((p :: r).length : Int) (0 : Int) c0 c1 c2 c3 c4 c5 d0 d1 [] 0 [] 1000000 [] 0 0 0 0 0 q0 q1 0 = some (outP (match firstR p with
      | .error e => .error e
      | .ok x => secondR s p x.1 x.2 r)) := by
      intro j hj
      rw [hj, k1]
      cases firstR p with
      | error e => rfl
      | ok x => exact k2 x.1 x.2 _ _ rfl
    exact goal n hmm
theorem parse_eq (n : Nat) (hn : 200000 ≤ n) (s : List UInt8) (hs : s.length ≤ 1000000) : F.dog_Parse n s = some (parseD s) := by
  unfold F.dog_Parse parseD
  rw [bdec]
  by_cases h : 8192 < s.length
  · rw [if_pos (by omega), if_pos h]; rfl
  · rw [if_neg (by omega), if_neg h, split_eq n 124 hs, some_bind']
    have hsum := splitL_sum 124 s
    refine lines_eq n hn _ s (splitL 124 s) (splitL_ne 124 s) (by omega) (by omega) ⟨?_, ?_, ?_⟩ [] 0 [] 0 [] 0 0 0 0 0
    · intro c0 c1 c2 c3 c4 c5 d0 d1 e0 e1 e2 e3 e4 e5 e6 e7 e a q0 q1 q2 he
      rw [beq_eq_false_iff_ne.2 he, Bool.false_and, cond_false, Bool.not_false, cond_true]
      rfl
    · intro h2 c0 c1 c2 c3 c4 c5 d0 d1 e0 e1 e2 e3 e4 e5 e6 e7 q0 q1 q2
      rw [beq_self_eq_true, Bool.and_self, cond_true, bif_neg (by omega), Bool.not_true, cond_false]
    · intro h2 c0 c1 c2 c3 c4 c5 d0 d1 e0 e1 e2 e3 e4 e5 e6 e7 q0 q1 q2
      rw [beq_self_eq_true, Bool.and_self, cond_true, bif_pos (by omega), Bool.false_and, Bool.not_false, cond_true]
      rfl
end Go.AM
set_option linter.unusedVariables false
set_option linter.unusedSimpArgs false
namespace Go.AM
theorem right_id {m : MetD} (h : RightM m) (hs : StrictT m.2.2.2.2.1) : normM m = (m, 0, ()) := by
  have hv := (right_vals h).1
  have e1 : m.2.2.1.map normV = m.2.2.1 := by
    have : m.2.2.1.map normV = m.2.2.1.map id := List.map_congr_left (fun d hd => (normV_id (hv d hd).1 (hv d hd).2).2)
    rw [this, List.map_id]
  have e2 : valsM m = m := by unfold valsM; rw [e1]
  unfold normM
  rw [e2, if_pos h.chk]
  unfold formM
  rw [e1, normT_id hs]
theorem line_right (n : Nat) (hn : 200000 ≤ n) {m : MetD} (h : RightM m) (hs : StrictT m.2.2.2.2.1) : F.dog_Line n m = some (lineD m, 0, ()) := by
  rw [line_eq n hn m h.ok]
  unfold lineM
  rw [right_id h hs, if_pos rfl]
theorem refkind_eq (n : Nat) (hn : 100 ≤ n) (s : List UInt8) : F.ref11_Kind n s = some (kindR s) := by
  obtain ⟨m, hm⟩ : ∃ q, n = q + 6 := ⟨n - 6, by omega⟩
  unfold F.ref11_Kind
  rw [show F.ref11_Words n = some [[99], [103], [109, 115], [104], [100]] from rfl, some_bind']
  have L : ∀ (k0 : Unit → Option Int) (kr : Int → Option Int), F.ref11_Kind.L3 n k0 kr (m + 6) s [[99], [103], [109, 115], [104], [100]] (0 : Int) = if s = [99] then kr 1 else if s = [103] then kr 2 else if s = [109, 115] then kr 3 else if s = [104] then kr 4 else if s = [100] then kr 5 else k0 () := by
    intro k0 kr
    have e1 : ([99] == s) = decide (s = [99]) := by by_cases h : s = [99] <;> simp [h]; exact fun h' => h h'.symm
    have e2 : ([103] == s) = decide (s = [103]) := by by_cases h : s = [103] <;> simp [h]; exact fun h' => h h'.symm
    have e3 : ([109, 115] == s) = decide (s = [109, 115]) := by by_cases h : s = [109, 115] <;> simp [h]; exact fun h' => h h'.symm
    have e4 : ([104] == s) = decide (s = [104]) := by by_cases h : s = [104] <;> simp [h]; exact fun h' => h h'.symm
    have e5 : ([100] == s) = decide (s = [100]) := by by_cases h : s = [100] <;> simp [h]; exact fun h' => h h'.symm
    show (bif [99] == s then kr 1 else bif [103] == s then kr 2 else bif [109, 115] == s then kr 3 else bif [104] == s then kr 4 else bif [100] == s then kr 5 else k0 ()) = _
    rw [e1, e2, e3, e4, e5]
    simp only [bdec]
  rw [hm] at L ⊢
  refine (L _ _).trans ?_
  unfold kindR
  repeat' split
  all_goals rfl
def exM : MetD := ([97], 3, [(false, 1, 0), (false, 25, -1)], 500000, [([97], [120]), ([98], [])], 7, ())
theorem ex_right : RightM exM ∧ StrictT exM.2.2.2.2.1 ∧ lineD exM = [97, 58, 49, 58, 50, 46, 53, 124, 109, 115, 124, 64, 48, 46, 53, 124, 35, 97, 58, 120, 44, 98, 124, 84, 55] := by
  have d1 : Lib.decDigits 1 = [49] := dd_small (by omega)
  have d7 : Lib.decDigits 7 = [55] := dd_small (by omega)
  have d25 : Lib.decDigits 25 = [50, 53] := dd_inv (l := [50, 53]) rfl ⟨by simp, by simp⟩
  have d15 : Lib.decDigits 1500000 = [49, 53, 48, 48, 48, 48, 48] := dd_inv (l := [49, 53, 48, 48, 48, 48, 48]) rfl ⟨by simp, by simp⟩
  have c1 : decC (false, 1, 0) = 0 := by
    show checkR false 1 0 = 0
    unfold checkR; rw [d1]; rfl
  have c25 : decC (false, 25, -1) = 0 := by
    show checkR false 25 (-1) = 0
    unfold checkR; rw [d25]; rfl
  have t1 : textL (false, 1, 0) = [49] := by
    show textD false 1 0 = _
    unfold textD; rw [d1]; rfl
  have t25 : textL (false, 25, -1) = [50, 46, 53] := by
    show textD false 25 (-1) = _
    unfold textD wideW; rw [d25]; rfl
  have rt : (rateText 500000).1 = [48, 46, 53] := by
    unfold rateText pad6
    rw [if_neg (by decide), if_neg (by decide), show 1000000 + (500000 : Int).toNat = 1500000 from rfl, d15]; rfl
  refine ⟨⟨⟨by decide, ⟨by decide, fun d hd => ?_⟩, by decide, fun t ht => ?_⟩, ?_⟩, ?_, ?_⟩
  · have : d = (false, 1, 0) ∨ d = (false, 25, -1) := by simpa [exM] using hd
    rcases this with rfl | rfl
    · exact ⟨trivial, by decide, by decide⟩
    · exact ⟨trivial, by decide, by decide⟩
  · have : t = ([97], [120]) ∨ t = ([98], []) := by simpa [exM] using ht
    rcases this with rfl | rfl
    · exact ⟨by decide, by decide⟩
    · exact ⟨by decide, by decide⟩
  · have hv : valsB exM.2.2.1 = true := by
      show valsB [(false, 1, 0), (false, 25, -1)] = true
      unfold valsB
      simp [c1, c25]
    unfold chkM
    rw [hv]
    rfl
  · refine List.pairwise_cons.2 ⟨fun x hx => ?_, List.pairwise_singleton _ _⟩
    have : x = ([98], []) := by simpa using hx
    subst this
    rfl
  · show [97] ++ valsT [(false, 1, 0), (false, 25, -1)] ++ ([124] ++ wordT 3) ++ rateP 500000 ++ tagsP [([97], [120]), ([98], [])] ++ timeP 7 = _
    have v : valsT [(false, 1, 0), (false, 25, -1)] = [58, 49, 58, 50, 46, 53] := by
      unfold valsT
      simp [t1, t25]
    have r : rateP 500000 = [124, 64, 48, 46, 53] := by unfold rateP; rw [rt]; rfl
    have t : timeP 7 = [124, 84, 55] := by
      unfold timeP
      rw [show (7 : Int).toNat = 7 from rfl, d7]; rfl
    rw [v, r, t]
    rfl
theorem awake11 (n : Nat) (hn : 200000 ≤ n) : F.law11_awake n = some true := by
  unfold F.law11_awake
  obtain ⟨h1, h2, h3⟩ := ex_right
  have q1 : parseD [97, 58, 49, 58, 50, 46, 53, 48, 124, 109, 115, 124, 64, 48, 46, 53, 124, 35, 98, 44, 97, 58, 120, 124, 84, 55] = (exM, (0, 0, ()), ()) := by kernel_rfl
  have q2 : parseD [97, 58, 49, 124, 103, 124, 64, 48, 46, 53] = (zeroM, (18, 6, ()), ()) := by kernel_rfl
  have q3 : parseD [97, 58, 49, 124, 99, 124, 84, 55, 124, 64, 49] = (zeroM, (11, 9, ()), ()) := by kernel_rfl
  rw [parse_eq n hn _ (by simp), parse_eq n hn _ (by simp), parse_eq n hn _ (by simp), q1, q2, q3]
  have hl : F.dog_Line n (exM.1, exM.2.1, exM.2.2.1, exM.2.2.2.1, exM.2.2.2.2.1, exM.2.2.2.2.2.1, ()) = some (lineD exM, 0, ()) := line_right n hn h1 h2
  have he : F.ref07_Equal n (exM.1, exM.2.1, exM.2.2.1, exM.2.2.2.1, exM.2.2.2.2.1, exM.2.2.2.2.2.1, ()) ([97], (3 : Int), [(false, 1, 0), (false, 25, -1)], (500000 : Int), [([97], [120]), ([98], [])], (7 : Int), ()) = some true := refequal_refl n hn exM (by decide) (by decide)
  simp only [some_bind', hl, he, h3]
  rfl
theorem dog_words (n : Nat) (hn : 200000 ≤ n) (k : Int) (s : List UInt8) : F.law11_DogWords n k s = some true := by
  unfold F.law11_DogWords
  rw [awake11 n hn, word_eq, kind_eq n (by omega), refkind_eq n (by omega)]
  simp only [some_bind']
  by_cases h : 100 < s.length
  · rw [bif_pos (by omega)]
  rw [bif_neg (by omega)]
  have K : (bif kindR s == (0 : Int) then (bif (if kindR s = 0 then ((0 : Int), (16 : Int), ()) else (kindR s, 0, ())).1 == (0 : Int) then (bif (if kindR s = 0 then ((0 : Int), (16 : Int), ()) else (kindR s, 0, ())).2.1 == (16 : Int) then some true else some false) else some false) else (bif (if kindR s = 0 then ((0 : Int), (16 : Int), ()) else (kindR s, 0, ())).1 == kindR s then (bif (if kindR s = 0 then ((0 : Int), (16 : Int), ()) else (kindR s, 0, ())).2.1 == (0 : Int) then some true else some false) else some false)) = some true := by
    by_cases h0 : kindR s = 0
    · rw [if_pos h0, h0]; rfl
    · rw [if_neg h0, beq_eq_false_iff_ne.2 h0, cond_false]
      simp
  by_cases h1 : k < 1
  · have hk : kindB k = false := by unfold kindB; rw [decide_eq_false (by omega)]; rfl
    rw [bif_pos h1, hk]
    simp only [Bool.false_eq_true, if_false]
    exact K
  · rw [bif_neg h1]
    by_cases h2 : k > 5
    · have hk : kindB k = false := by unfold kindB; rw [decide_eq_false (by omega : ¬ k ≤ 5), Bool.and_false]
      rw [bif_pos h2, hk]
      simp only [Bool.false_eq_true, if_false]
      exact K
    · rw [bif_neg h2]
      have hk : k = 1 ∨ k = 2 ∨ k = 3 ∨ k = 4 ∨ k = 5 := by omega
      rcases hk with rfl | rfl | rfl | rfl | rfl <;> exact K
end Go.AM
namespace Go.Proofs.YtgkhaoohkeblfaaGreatDoor.dogWords
open Go.ChangeShapes Go.WideShapes Go.ChangeAt Go.RowKit Go.AM
theorem own : ownKnob Tryz.prog.godebug = none := by kernel_rfl
theorem goes : LawGoes Tryz.prog SI 3 [(.int .i64), .str] := fun x hx w vals hI hr =>
  ok3 _ (x.1, x.2.1, ()) true (dog_words 200000 (by omega) x.1 x.2.1) w (AllD w) vals (WOf.of hI) hr (fun b o h => h)
noncomputable def laidWorld (os : Os) : World := laidOf Tryz.prog os [layTab 4 Rows.laid_math_bits_deBruijn32tab, layTab 5 Rows.laid_math_bits_deBruijn64tab, layTab 0 Rows.laid_internal_strconv_uint64pow10, layTab 3 Rows.laid_unicode_utf8_acceptRanges, layErr 7 232 234 Rows.laid_strconv_ErrRange, layErr 6 232 234 Rows.laid_strconv_ErrSyntax, layTab 2 Rows.laid_unicode_utf8_first]
theorem laid_met (os : Os) (args : Array Value) : laidMet Tryz.prog Rows.dogWordsRow.laid ((laidWorld os).forCall (fun _ _ => 0) ⟨#[], args, []⟩).memory :=
  (LaidIn.of_run [4, 5, 0, 3, 7, 6, 2, (World.holding Tryz.prog os ⟨#[], #[], []⟩).heap.size, (World.holding Tryz.prog os ⟨#[], #[], []⟩).heap.size + 1] 8 (by kernel_rfl) (by kernel_rfl) (by kernel_rfl) (by kernel_rfl)).met
theorem witness_row (os : Os) {H : Type} (enc : TypeId × Value → H) :
    (OpenSpec.ofChange Rows.dogWordsSpec).preRow enc Tryz.prog Tryz.f3 Rows.dogWordsRow.domain false Rows.dogWordsRow.laid ((laidWorld os).forCall (fun _ _ => 0) ⟨#[], #[.int .i64 0, .string .empty], []⟩).memory #[.int .i64 0, .string .empty] := by
  have hw : (DataW.whole enc Tryz.prog ((laidWorld os).forCall (fun _ _ => 0) ⟨#[], #[.int .i64 0, .string .empty], []⟩).memory Tryz.f3.params.toList Rows.dogWordsSpec.vars false (#[.int .i64 0, .string .empty] : Array Value).toList 8).map (fun x => (x.1, x.2.1)) =
      some ([.lit (.int .i64 0), .lit (.string [])], []) := by kernel_rfl
  obtain ⟨⟨x1, x2, x3⟩, hx, hx1⟩ := Option.map_eq_some_iff.1 hw
  simp only [Prod.mk.injEq] at hx1
  obtain ⟨rfl, rfl⟩ := hx1
  exact OpenSpec.preRow_of_cond 8 hx (by kernel_rfl) (fun k hk => by cases hk) (by kernel_rfl) (laid_met os _)
set_option maxRecDepth 100000 in
theorem lifted (os : Os) (started : os.Started) (H : Type) (enc : TypeId × Value → H) (F : Stop.Interp) :
    ReturnsInHanded {} Tryz.checked os 3 .any ((OpenSpec.ofChange Rows.dogWordsSpec).preRow enc Tryz.prog Tryz.f3 Rows.dogWordsRow.domain false Rows.dogWordsRow.laid) (((OpenSpec.ofChange Rows.dogWordsSpec).at F).post enc Tryz.prog Tryz.f3 false true false false) := by
  refine returnsInHanded_of_row (C := Tryz.checked) (s := OpenSpec.ofChange Rows.dogWordsSpec) own started (by kernel_rfl) Tryz.func3
    (witness_row_atRef (enc := enc) (C := Tryz.checked) false (laidWorld os) #[.int .i64 0, .string .empty] rfl (by kernel_rfl) (by kernel_rfl) (by kernel_rfl) (witness_row os enc)) ?_
  intro W base args ds gs before hval hW _ _ hw hL hO _
  exact law_calls (s := Rows.dogWordsSpec) (n := 8) (by kernel_rfl) Tryz.func3 (by kernel_rfl) (by decide) (by kernel_rfl) rfl Tryz.underlying4 rfl (fun ds h => by match ds, h with | [_, _], _ => rfl) goes hval hW hw ⟨hL, hO⟩
theorem said : Rows.DogWordsSaid :=
  OpenClaim.holds_of_cond 3 Tryz.f3 rfl rfl rfl rfl rfl rfl rfl ⟨rfl, rfl, rfl, rfl, rfl⟩ rfl rfl rfl rfl rfl (by kernel_rfl) Tryz.func3 (by kernel_rfl)
    (of_decide_eq_true (by kernel_rfl)) (by unfold Func.isWrapper; first | (rw [if_pos (by decide +kernel)]; kernel_rfl) | (rw [if_neg (by decide +kernel)]; exact ⟨rfl, rfl⟩))
    (fun os started H enc _ F => by rw [OpenClaim.pre_eq_preRow]; exact lifted os started H enc F)
theorem plain (f : FuncId) (fn : Func) (hf : Tryz.pinned.checked.prog.funcNamed "forebay/forebaylaw11.DogWords" = some f) (hfn : Tryz.pinned.checked.prog.funcs[f]? = some fn) :
    true = Tryz.pinned.checked.prog.looks [] ∧ ∀ (j : Nat) t, fn.params[j]? = some t → Tryz.pinned.checked.prog.wantsStandIn t = false := by
  obtain rfl : f = 3 := Option.some.inj ((show Tryz.prog.funcNamed "forebay/forebaylaw11.DogWords" = some 3 by kernel_rfl).symm.trans hf) |>.symm
  obtain rfl : fn = Tryz.f3 := (Option.some.inj (Tryz.func3.symm.trans hfn)).symm
  refine ⟨by kernel_rfl, fun j t ht => ?_⟩
  have hm : t ∈ ([3, 9] : List TypeId) := by
    rw [Tryz.params3] at ht
    have := Array.mem_of_getElem? ht
    simpa using this
  have all : ∀ x ∈ ([3, 9] : List TypeId), Tryz.prog.wantsStandIn x = false := fun x hx => by
    have h : ([3, 9] : List TypeId).all (fun x => Tryz.prog.wantsStandIn x == false) = true := by kernel_rfl
    simpa using List.all_eq_true.1 h x hx
  exact all t hm
theorem proved : Rows.DogWordsCardSaid :=
  Claim7.holds_tied_plain_at .later [] _ _ _ _ said (fun _ h => by cases h) (by kernel_rfl) (fun _ h => by cases h) dogWords_row_tie rfl ⟨rfl, rfl⟩ (by kernel_rfl) rfl plain (by kernel_rfl)
end Go.Proofs.YtgkhaoohkeblfaaGreatDoor.dogWords
