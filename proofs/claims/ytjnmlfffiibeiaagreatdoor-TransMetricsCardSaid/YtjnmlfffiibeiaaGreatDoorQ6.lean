/- Part 6 of a proof by the abstract machine. -/
import Derived.Test.YtjnmlfffiibeiaaGreatDoorQ5
import Derived.KernelRfl
import Derived.Test.YtjnmlfffiibeiaaGreatDoorCards
import Derived.Test.YtjnmlfffiibeiaaGreatDoorTie
import Derived.OpenShut
set_option linter.unusedVariables false
set_option linter.unusedSimpArgs false
namespace Go.AM
theorem right_id {m : MetD} (h : RightM m) (hs : StrictT m.2.2.2.2.1) : normM m = (m, 0, ()) := by
  have hv := (right_vals h).1
  have e1 : m.2.2.1.map normV = m.2.2.1 := by
    have : m.2.2.1.map normV = m.2.2.1.map id := List.map_congr_left (fun d hd => (normV_id (hv d hd).1 (hv d hd).2).2)
    rw [this, List.map_id]
  have e2 : valsM m = m := by unfold valsM; rw [e1]
  unfold normM
  rw [e2, if_pos h.chk]
  unfold formM
  rw [e1, normT_id hs]
theorem line_right (n : Nat) (hn : 200000 ≤ n) {m : MetD} (h : RightM m) (hs : StrictT m.2.2.2.2.1) : F.dog_Line n m = some (lineD m, 0, ()) := by
  rw [line_eq n hn m h.ok]
  unfold lineM
  rw [right_id h hs, if_pos rfl]
end Go.AM
set_option linter.unusedVariables false
set_option linter.unusedSimpArgs false
namespace Go.AM
end Go.AM
set_option linter.unusedVariables false
set_option linter.unusedSimpArgs false
namespace Go.AM
theorem tagS_ok {t : TagL} (h : TagS t) : TagLOK t := ⟨by have := h.1; omega, by have := h.2; omega⟩
end Go.AM
set_option linter.unusedVariables false
set_option linter.unusedSimpArgs false
namespace Go.AM
end Go.AM
set_option linter.unusedVariables false
set_option linter.unusedSimpArgs false
namespace Go.AM
structure InvM (m : MetD) : Prop where
  nm : nameOK m.1 = true
  kd : kindB m.2.1 = true
  vs : (∀ d ∈ m.2.2.1, DecLOK d ∧ decC d = 0) ∧ 1 ≤ m.2.2.1.length ∧ m.2.2.1.length ≤ 64
  rt : rateB m.2.1 m.2.2.2.1 = true
  tg : (∀ t ∈ m.2.2.2.2.1, tagGood t = true) ∧ m.2.2.2.2.1.length ≤ 32 ∧ StrictT m.2.2.2.2.1
  tm : timeB m.2.2.2.2.2.1 = true
theorem InvM.right {m : MetD} (h : InvM m) : RightM m := by
  have hn := nameOK_le h.nm
  refine ⟨⟨by omega, ⟨by have := h.vs.2.2; omega, fun d hd => (h.vs.1 d hd).1⟩, by have := h.tg.2.1; omega, fun t ht => tagS_ok (tagGood_le (h.tg.1 t ht))⟩, ?_⟩
  have hv : valsB m.2.2.1 = true := by
    unfold valsB
    simp only [Bool.and_eq_true, decide_eq_true_eq]
    exact ⟨h.vs.2.1, h.vs.2.2, List.all_eq_true.2 (fun d hd => by simp [(h.vs.1 d hd).2])⟩
  have ht : tagsB m.2.2.2.2.1 = true := by
    unfold tagsB
    simp only [Bool.and_eq_true, decide_eq_true_eq]
    exact ⟨h.tg.2.1, List.all_eq_true.2 h.tg.1⟩
  unfold chkM
  rw [h.nm, h.kd, hv, h.rt, ht, h.tm]
  rfl
theorem RightM.inv {m : MetD} (h : RightM m) (hs : StrictT m.2.2.2.2.1) : InvM m := by
  obtain ⟨c1, c2, c3, c4, c5, c6⟩ := chk_zero h.chk
  have ht := right_tags h
  exact ⟨c1, c2, right_vals h, c4, ⟨fun t htm => (ht.1 t htm).2, ht.2, hs⟩, c6⟩
end Go.AM
set_option linter.unusedVariables false
set_option linter.unusedSimpArgs false
namespace Go.AM
theorem oneT_le' {t : TagL} (h : tagGood t = true) : (oneT t).length ≤ 165 := by
  unfold tagGood at h
  simp only [Bool.and_eq_true, beq_iff_eq] at h
  have h1 := textF_zero h.1
  have h2 := textF_zero h.2
  unfold oneT
  split <;> simp <;> omega
theorem tagText_le' {ts : List TagL} (h : ∀ t ∈ ts, tagGood t = true) (hl : ts.length ≤ 32) : (tagText ts).length ≤ 5312 := by
  unfold tagText
  have := join_le [44] 165 (ts.map oneT) (fun x hx => by
    obtain ⟨t, ht, rfl⟩ := List.mem_map.1 hx
    exact oneT_le' (h t ht))
  rw [List.length_map] at this
  have h2 : ts.length * (165 + [(44 : UInt8)].length) ≤ 32 * 166 := Nat.mul_le_mul_right _ hl
  omega
theorem line_len {m : MetD} (h : InvM m) : (lineD m).length ≤ 8192 := by
  have h1 := nameOK_le h.nm
  have h2 := valsT_le h.vs.1
  have h3 := word_short m.2.1
  have h4 := (rateP_le h.rt).1
  have h6 := (timeP_le h.tm).1
  have h5 : (tagsP m.2.2.2.2.1).length ≤ 5314 := by
    have := tagText_le' h.tg.1 h.tg.2.1
    unfold tagsP
    split
    · simp
    · simp only [List.length_append, List.length_cons, List.length_nil]; omega
  have := h.vs.2.2
  unfold lineD
  simp only [List.length_append, List.length_cons, List.length_nil]
  omega
end Go.AM
set_option linter.unusedVariables false
set_option linter.unusedSimpArgs false
namespace Go.AM
def fmtB (f : Int) : Bool := decide (1 ≤ f) && decide (f ≤ 3)
theorem fmt_three {f : Int} (h : fmtB f = true) : f = 1 ∨ f = 2 ∨ f = 3 := by
  unfold fmtB at h
  simp only [Bool.and_eq_true, decide_eq_true_eq] at h
  omega
end Go.AM
set_option linter.unusedVariables false
set_option linter.unusedSimpArgs false
namespace Go.AM
abbrev MetL := List UInt8 × Int × List DecL × Int × List TagL × Int
def toL (m : MetD) : MetL := (m.1, m.2.1, m.2.2.1, m.2.2.2.1, m.2.2.2.2.1, m.2.2.2.2.2.1)
theorem growM {X : Type} {v : List MetL} (h : v.length ≤ 100000) (y : Option X) : (bif decide ((v.length + 1) * 88 ≤ 2 ^ 46) && decide (0 < 88 ∧ 88 ≤ 2 ^ 20) then y else none) = y := by
  rw [decide_eq_true (by omega)]; rfl
def opM (m : MetL) : MetD := (m.1, m.2.1, m.2.2.1, m.2.2.2.1, m.2.2.2.2.1, m.2.2.2.2.2, ())
abbrev BatR := List MetL × Int × Int × Unit
def BatOK (l : List MetL) : Prop := ∀ m ∈ l, MetOK (opM m)
def nbF : List MetL → List MetL → BatR
  | [], out => (out, 0, 0, ())
  | m :: r, out => if (normM (opM m)).2.1 = 0 then nbF r (out ++ [toL (normM (opM m)).1]) else ([], out.length, (normM (opM m)).2.1, ())
def normB (l : List MetL) : BatR := if 1000 < l.length then ([], 1000, 12, ()) else nbF l []
theorem nb_loop (n : Nat) (hn : 200000 ≤ n) (k0 kr k1 : List MetL → Int → Int → List MetL → List MetL → Nat → Nat → Option BatR) (h0 : ∀ a b c out d e f, k0 a b c out d e f = some (out, 0, 0, ())) (hr : ∀ a i e out d k f, kr a i e out d k f = some (a, i, e, ())) (l : List MetL) (hl : l.length ≤ 1000) (hok : BatOK l) (b4 : List MetL) :
    ∀ (r : List MetL) (i m : Nat) (out b0 : List MetL) (b1 b2 : Int) (k : Nat), l.drop i = r → out.length = i → r.length < m →
    F.batch_Normal.L1_batch_all_api_Metric_1 n k0 kr k1 m l (l.length : Int) (i : Int) b0 b1 b2 out b4 k out.length = some (nbF r out) := by
  intro r
  induction r with
  | nil =>
    intro i m out b0 b1 b2 k hi ho hm
    have := drop_nil' hi
    obtain ⟨m, rfl⟩ : ∃ q, m = q + 1 := ⟨m - 1, by omega⟩
    rw [F.batch_Normal.L1_batch_all_api_Metric_1]
    unfold F.batch_Normal.L1_batch_all_api_Metric_1.step
    dsimp only
    rw [bif_neg (by omega), h0]
    rfl
  | cons x r ih =>
    intro i m out b0 b1 b2 k hi ho hm
    obtain ⟨g1, g2, g3⟩ := drop_cons hi
    obtain ⟨m, rfl⟩ : ∃ q, m = q + 1 := ⟨m - 1, by omega⟩
    have hN : F.metric_Normal n (x.1, x.2.1, x.2.2.1, x.2.2.2.1, x.2.2.2.2.1, x.2.2.2.2.2, ()) = some (normM (opM x)) := metNormal_eq n hn (opM x) (hok x (List.mem_of_getElem? g2))
    rw [F.batch_Normal.L1_batch_all_api_Metric_1]
    unfold F.batch_Normal.L1_batch_all_api_Metric_1.step
    dsimp only
    rw [bif_pos (by omega), idx_nat, g2, some_bind', hN, some_bind', nbF]
    by_cases h : (normM (opM x)).2.1 = 0
    · rw [if_pos h, h, beq_self_eq_true, Bool.not_true, cond_false, growM (by omega), Nat.beq_refl, cond_true, cond_false, wrap_succ (by omega)]
      exact ih (i + 1) m _ b0 b1 b2 k g3 (by simp [ho]) (by simp at hm; omega)
    · rw [if_neg h, beq_eq_false_iff_ne.2 h, Bool.not_false, cond_true, hr]
theorem batNormal_eq (n : Nat) (hn : 200000 ≤ n) (l : List MetL) (hok : BatOK l) : F.batch_Normal n l = some (normB l) := by
  unfold F.batch_Normal normB
  by_cases h : 1000 < l.length
  · rw [bif_pos (by omega), if_pos h]
  · rw [bif_neg (by omega), if_neg h]
    exact nb_loop n hn _ _ _ (fun _ _ _ _ _ _ _ => rfl) (fun _ _ _ _ _ _ _ => rfl) l (by omega) hok l l 0 n [] [] 0 0 0 rfl rfl (by omega)
def RightB (l : List MetL) : Prop := l.length ≤ 1000 ∧ ∀ m ∈ l, RightM (opM m) ∧ StrictT m.2.2.2.2.1
theorem nbF_cases : ∀ (l out : List MetL), BatOK l → (∀ m ∈ out, RightM (opM m) ∧ StrictT m.2.2.2.2.1) →
    ((nbF l out).2 = (0, 0, ()) ∧ (nbF l out).1.length = out.length + l.length ∧ (∀ m ∈ (nbF l out).1, RightM (opM m) ∧ StrictT m.2.2.2.2.1) ∧ (nbF l out).1 = out ++ l.map fun m => toL (formM (opM m))) ∨
    (∃ i e : Int, e ≠ 0 ∧ nbF l out = ([], i, e, ()) ∧ 0 ≤ i ∧ i < out.length + l.length)
  | [], out, _, ho => Or.inl ⟨rfl, by simp [nbF], ho, by simp [nbF]⟩
  | x :: l, out, hok, ho => by
    have hx := hok x (by simp)
    rw [nbF]
    rcases normM_cases hx with ⟨h, hR⟩ | ⟨e, he, h⟩
    · rw [h, if_pos rfl]
      rcases nbF_cases l (out ++ [toL (formM (opM x))]) (fun m hm => hok m (by simp [hm])) (fun m hm => by
        rcases List.mem_append.1 hm with hm | hm
        · exact ho m hm
        · rw [List.mem_singleton.1 hm]; exact ⟨hR, normT_strict _⟩) with ⟨a, b, c, d⟩ | ⟨i, e, a, b, c, d⟩
      · exact Or.inl ⟨a, by rw [b]; simp; omega, c, by rw [d]; simp⟩
      · exact Or.inr ⟨i, e, a, b, c, by simp at d ⊢; omega⟩
    · rw [h, if_neg (show ¬ e = 0 from he)]
      exact Or.inr ⟨out.length, e, he, rfl, by omega, by simp; omega⟩
theorem normB_cases {l : List MetL} (h : BatOK l) : ((normB l).2 = (0, 0, ()) ∧ RightB (normB l).1 ∧ (normB l).1 = (l.map fun m => toL (formM (opM m))) ∧ l.length ≤ 1000) ∨ (∃ i e : Int, e ≠ 0 ∧ normB l = ([], i, e, ())) := by
  unfold normB
  split
  · exact Or.inr ⟨1000, 12, by decide, rfl⟩
  · rcases nbF_cases l [] h (fun m hm => by cases hm) with ⟨a, b, c, d⟩ | ⟨i, e, a, b, _⟩
    · exact Or.inl ⟨a, ⟨by rw [b]; simp; omega, c⟩, by rw [d]; rfl, by omega⟩
    · exact Or.inr ⟨i, e, a, b⟩
theorem RightB.ok {l : List MetL} (h : RightB l) : BatOK l := fun m hm => (h.2 m hm).1.ok
abbrev AtR := Int × Int × Unit
def chF : List MetL → Nat → AtR
  | [], _ => (0, 0, ())
  | m :: r, i => if chkM (opM m) = 0 then chF r (i + 1) else ((i : Int), chkM (opM m), ())
def sayF (f : Int) : List MetL → Nat → AtR
  | [], _ => (0, 0, ())
  | m :: r, i => bif saysM (opM m) f then sayF f r (i + 1) else ((i : Int), 26, ())
def checkB (l : List MetL) : AtR := if 1000 < l.length then (1000, 12, ()) else chF l 0
def expB (l : List MetL) (f : Int) : AtR := if f < 1 ∨ f > 4 then (0, 29, ()) else if (checkB l).2.1 = 0 then sayF f l 0 else checkB l
theorem growO {X : Type} {v : List Bool} (h : v.length ≤ 100000) (y : Option X) : (bif decide ((v.length + 1) * 1 ≤ 2 ^ 46) && decide (0 < 1 ∧ 1 ≤ 2 ^ 20) then y else none) = y := by
  rw [decide_eq_true (by omega)]; rfl
theorem chb_loop (n : Nat) (hn : 200000 ≤ n) (k0 kr k1 : List Bool → Int → Int → List Bool → List MetL → Nat → Nat → Option AtR) (h0 : ∀ a b c out d e f, k0 a b c out d e f = some (0, 0, ())) (hr : ∀ a i e out d k f, kr a i e out d k f = some (i, e, ())) (l : List MetL) (hl : l.length ≤ 1000) (hok : BatOK l) (b4 : List MetL) :
    ∀ (r : List MetL) (i m : Nat) (out b0 : List Bool) (b1 b2 : Int) (k : Nat), l.drop i = r → out.length = i → r.length < m →
    F.batch_Check.L1_batch_all_bool_1 n k0 kr k1 m l (l.length : Int) (i : Int) b0 b1 b2 out b4 k out.length = some (chF r i) := by
  intro r
  induction r with
  | nil =>
    intro i m out b0 b1 b2 k hi ho hm
    have := drop_nil' hi
    obtain ⟨m, rfl⟩ : ∃ q, m = q + 1 := ⟨m - 1, by omega⟩
    rw [F.batch_Check.L1_batch_all_bool_1]
    unfold F.batch_Check.L1_batch_all_bool_1.step
    dsimp only
    rw [bif_neg (by omega), h0]
    rfl
  | cons x r ih =>
    intro i m out b0 b1 b2 k hi ho hm
    obtain ⟨g1, g2, g3⟩ := drop_cons hi
    obtain ⟨m, rfl⟩ : ∃ q, m = q + 1 := ⟨m - 1, by omega⟩
    have hN : F.batch_Check_1 n (x.1, x.2.1, x.2.2.1, x.2.2.2.1, x.2.2.2.2.1, x.2.2.2.2.2, ()) = some (true, chkM (opM x), ()) := by
      unfold F.batch_Check_1
      have := metcheck_eq n hn (opM x) (hok x (List.mem_of_getElem? g2))
      unfold opM at this
      rw [this]
      rfl
    rw [F.batch_Check.L1_batch_all_bool_1]
    unfold F.batch_Check.L1_batch_all_bool_1.step
    dsimp only
    rw [bif_pos (by omega), idx_nat, g2, some_bind', hN, some_bind', chF]
    by_cases h : chkM (opM x) = 0
    · rw [if_pos h, h, beq_self_eq_true, Bool.not_true, cond_false, growO (by omega), Nat.beq_refl, cond_true, cond_false, wrap_succ (by omega)]
      exact ih (i + 1) m _ b0 b1 b2 k g3 (by simp [ho]) (by simp at hm; omega)
    · rw [if_neg h, beq_eq_false_iff_ne.2 h, Bool.not_false, cond_true, hr, ho]
theorem batCheck_eq (n : Nat) (hn : 200000 ≤ n) (l : List MetL) (hok : BatOK l) : F.batch_Check n l = some (checkB l) := by
  unfold F.batch_Check checkB
  by_cases h : 1000 < l.length
  · rw [bif_pos (by omega), if_pos h]
  · rw [bif_neg (by omega), if_neg h]
    exact chb_loop n hn _ _ _ (fun _ _ _ _ _ _ _ => rfl) (fun _ _ _ _ _ _ _ => rfl) l (by omega) hok l l 0 n [] [] 0 0 0 rfl rfl (by omega)
theorem refch_loop (n : Nat) (hn : 200000 ≤ n) (l : List MetL) (hl : l.length ≤ 1000) (hok : BatOK l) :
    ∀ (r : List MetL) (i m : Nat), l.drop i = r → r.length < m →
    F.ref08_Check.L4 n (fun (_ : Unit) => some ((0 : Int), (0 : Int), ())) (fun a b => some (a, b, ())) m l (i : Int) = some (chF r i) := by
  intro r
  induction r with
  | nil =>
    intro i m hi hm
    have := drop_nil' hi
    obtain ⟨m, rfl⟩ : ∃ q, m = q + 1 := ⟨m - 1, by omega⟩
    rw [F.ref08_Check.L4]
    unfold F.ref08_Check.L4.step
    dsimp only
    rw [bif_neg (by omega)]
    rfl
  | cons x r ih =>
    intro i m hi hm
    obtain ⟨g1, g2, g3⟩ := drop_cons hi
    obtain ⟨m, rfl⟩ : ∃ q, m = q + 1 := ⟨m - 1, by omega⟩
    have hN : F.ref07_Check n (x.1, x.2.1, x.2.2.1, x.2.2.2.1, x.2.2.2.2.1, x.2.2.2.2.2, ()) = some (chkM (opM x)) := metcheck_ref n hn (opM x) (hok x (List.mem_of_getElem? g2))
    rw [F.ref08_Check.L4]
    unfold F.ref08_Check.L4.step
    dsimp only
    rw [bif_pos (by omega), idx_nat, g2, some_bind', hN, some_bind', chF]
    by_cases h : chkM (opM x) = 0
    · rw [if_pos h, h, beq_self_eq_true, Bool.not_true, cond_false, wrap_succ (by omega)]
      exact ih (i + 1) m g3 (by simp at hm; omega)
    · rw [if_neg h, beq_eq_false_iff_ne.2 h, Bool.not_false, cond_true]
theorem batCheck_ref (n : Nat) (hn : 200000 ≤ n) (l : List MetL) (hok : BatOK l) : F.ref08_Check n l = some (checkB l) := by
  unfold F.ref08_Check checkB
  by_cases h : 1000 < l.length
  · rw [bif_pos (by omega), if_pos h]
  · rw [bif_neg (by omega), if_neg h]
    exact refch_loop n hn l (by omega) hok l 0 n rfl (by omega)
theorem say_loop (g : MetL → Option Bool) (f : Int) (hg : ∀ x, g x = some (saysM (opM x) f)) (k0 : Unit → Option AtR) (kr : Int → Int → Option AtR) (h0 : k0 () = some (0, 0, ())) (hr : ∀ a b, kr a b = some (a, b, ())) (l : List MetL) (hl : l.length ≤ 1000) (L : Nat → Int → Option AtR)
    (hL : ∀ m i, L (m + 1) i = bif decide (i < (l.length : Int)) then (idx l i).bind fun x => (g x).bind fun y => bif !y then kr i 26 else L m (IntKind.wrap .i64 (i + 1)) else k0 ()) :
    ∀ (r : List MetL) (i m : Nat), l.drop i = r → r.length < m → L m (i : Int) = some (sayF f r i) := by
  intro r
  induction r with
  | nil =>
    intro i m hi hm
    have := drop_nil' hi
    obtain ⟨m, rfl⟩ : ∃ q, m = q + 1 := ⟨m - 1, by omega⟩
    rw [hL, bif_neg (by omega), h0]
    rfl
  | cons x r ih =>
    intro i m hi hm
    obtain ⟨g1, g2, g3⟩ := drop_cons hi
    obtain ⟨m, rfl⟩ : ∃ q, m = q + 1 := ⟨m - 1, by omega⟩
    rw [hL, bif_pos (by omega), idx_nat, g2, some_bind', hg, some_bind', sayF]
    cases saysM (opM x) f
    · rw [Bool.not_false, cond_true, cond_false, hr]
    · rw [Bool.not_true, cond_false, cond_true, wrap_succ (by omega)]
      exact ih (i + 1) m g3 (by simp at hm; omega)
theorem expB_eq (n : Nat) (hn : 200000 ≤ n) (l : List MetL) (hok : BatOK l) (f : Int) : F.expr_Batch n l f = some (expB l f) := by
  have hl : ∀ {p : AtR}, checkB l = p → p.2.1 = 0 → l.length ≤ 1000 := fun e h0 => by
    unfold checkB at e
    split at e
    · rw [← e] at h0; cases h0
    · omega
  unfold F.expr_Batch expB
  rw [batCheck_eq n hn l hok]
  have hs := fun x : MetL => said_s n (opM x)
  have hg := fun x : MetL => said_g n (opM x)
  by_cases h : f < 1 ∨ f > 4
  · rw [if_pos h, beq_eq_false_iff_ne.2 (by omega : f ≠ 1), beq_eq_false_iff_ne.2 (by omega : f ≠ 2), beq_eq_false_iff_ne.2 (by omega : f ≠ 3), beq_eq_false_iff_ne.2 (by omega : f ≠ 4)]
    rfl
  rw [if_neg h]
  simp only [some_bind']
  generalize hc : checkB l = p
  by_cases h0 : p.2.1 = 0
  · have hl := hl hc h0
    rw [if_pos h0, h0, beq_self_eq_true, Bool.not_true, cond_false, cond_false]
    rcases (by omega : f = 1 ∨ f = 2 ∨ f = 3 ∨ f = 4) with rfl | rfl | rfl | rfl
    · exact say_loop (fun x => F.expr_said_statsd n (x.1, x.2.1, x.2.2.1, x.2.2.2.1, x.2.2.2.2.1, x.2.2.2.2.2, ())) 1 hs (fun _ => some (0, 0, ())) (fun a b => some (a, b, ())) rfl (fun _ _ => rfl) l hl (fun m i => F.expr_Batch.L8 n _ _ m l (l.length : Int) i) (fun _ _ => rfl) l 0 n rfl (by omega)
    · exact say_loop (fun x => F.expr_said_any n (x.1, x.2.1, x.2.2.1, x.2.2.2.1, x.2.2.2.2.1, x.2.2.2.2.2, ())) 2 (fun _ => rfl) (fun _ => some (0, 0, ())) (fun a b => some (a, b, ())) rfl (fun _ _ => rfl) l hl (fun m i => F.expr_Batch.L8_1 n _ _ m l (l.length : Int) i) (fun _ _ => rfl) l 0 n rfl (by omega)
    · exact say_loop (fun x => F.expr_said_graphite n (x.1, x.2.1, x.2.2.1, x.2.2.2.1, x.2.2.2.2.1, x.2.2.2.2.2, ())) 3 hg (fun _ => some (0, 0, ())) (fun a b => some (a, b, ())) rfl (fun _ _ => rfl) l hl (fun m i => F.expr_Batch.L8_2 n _ _ m l (l.length : Int) i) (fun _ _ => rfl) l 0 n rfl (by omega)
    · exact say_loop (fun x => F.expr_said_any n (x.1, x.2.1, x.2.2.1, x.2.2.2.1, x.2.2.2.2.1, x.2.2.2.2.2, ())) 4 (fun _ => rfl) (fun _ => some (0, 0, ())) (fun a b => some (a, b, ())) rfl (fun _ _ => rfl) l hl (fun m i => F.expr_Batch.L8_1 n _ _ m l (l.length : Int) i) (fun _ _ => rfl) l 0 n rfl (by omega)
  · obtain ⟨a, b, _⟩ := p
    rw [if_neg h0, beq_eq_false_iff_ne.2 h0]
    rcases (by omega : f = 1 ∨ f = 2 ∨ f = 3 ∨ f = 4) with rfl | rfl | rfl | rfl <;> rfl
theorem expB_ref (n : Nat) (hn : 200000 ≤ n) (l : List MetL) (hok : BatOK l) (f : Int) : F.ref09_Batch n l f = some (expB l f) := by
  unfold F.ref09_Batch expB
  by_cases h1 : f < 1
  · rw [bif_pos h1, if_pos (Or.inl h1)]
  rw [bif_neg h1]
  by_cases h2 : f > 4
  · rw [bif_pos h2, if_pos (Or.inr h2)]
  rw [bif_neg h2, if_neg (by omega), batCheck_ref n hn l hok, some_bind']
  by_cases h0 : (checkB l).2.1 = 0
  · have hl : l.length ≤ 1000 := by
      unfold checkB at h0
      split at h0
      · cases h0
      · omega
    rw [if_pos h0, h0, beq_self_eq_true, Bool.not_true, cond_false]
    exact say_loop (fun x => F.ref09_Says n (x.1, x.2.1, x.2.2.1, x.2.2.2.1, x.2.2.2.2.1, x.2.2.2.2.2, ()) f) f (fun x => says_ref n (opM x) f) (fun _ => some (0, 0, ())) (fun a b => some (a, b, ())) rfl (fun _ _ => rfl) l hl (fun m i => F.ref09_Batch.L7 n _ _ m l f i) (fun _ _ => rfl) l 0 n rfl (by omega)
  · rw [if_neg h0, beq_eq_false_iff_ne.2 h0]
    rfl
theorem chF_right : ∀ (l : List MetL) (i : Nat), (∀ m ∈ l, RightM (opM m)) → chF l i = (0, 0, ())
  | [], _, _ => rfl
  | x :: l, i, h => by rw [chF, if_pos (h x (by simp)).chk, chF_right l _ fun m hm => h m (by simp [hm])]
theorem checkB_right {l : List MetL} (h : RightB l) : checkB l = (0, 0, ()) := by
  unfold checkB
  rw [if_neg (by have := h.1; omega), chF_right l 0 fun m hm => (h.2 m hm).1]
theorem sayF_zero : ∀ (l : List MetL) (f : Int) (i : Nat), (sayF f l i).2.1 = 0 → sayF f l i = (0, 0, ()) ∧ ∀ m ∈ l, saysM (opM m) f = true
  | [], f, i, _ => ⟨rfl, fun m hm => by cases hm⟩
  | x :: l, f, i, h => by
    rw [sayF] at h ⊢
    cases hx : saysM (opM x) f
    · rw [hx] at h; cases h
    · rw [hx] at h
      obtain ⟨a, b⟩ := sayF_zero l f (i + 1) h
      exact ⟨a, fun m hm => by
        rcases List.mem_cons.1 hm with rfl | hm
        · exact hx
        · exact b m hm⟩
theorem expB_zero {l : List MetL} {f : Int} (h : RightB l) (h0 : (expB l f).2.1 = 0) : expB l f = (0, 0, ()) ∧ ∀ m ∈ l, expM (opM m) f = 0 := by
  unfold expB at h0 ⊢
  rw [checkB_right h] at h0 ⊢
  split at h0
  · cases h0
  · rename_i hf
    rw [if_pos rfl] at h0
    rw [if_neg hf, if_pos rfl]
    obtain ⟨a, b⟩ := sayF_zero l f 0 h0
    refine ⟨a, fun m hm => ?_⟩
    unfold expM
    rw [if_neg hf, if_pos (h.2 m hm).1.chk, b m hm]
    rfl
end Go.AM
set_option linter.unusedVariables false
set_option linter.unusedSimpArgs false
namespace Go.AM
end Go.AM
set_option linter.unusedVariables false
set_option linter.unusedSimpArgs false
namespace Go.AM
def SmallL (l : List MetL) : Prop := ∀ x ∈ l, x.2.2.1.length ≤ 1000 ∧ x.2.2.2.2.1.length ≤ 1000
theorem requal_loop (n : Nat) (hn : 200000 ≤ n) (X : Type) (k0 : Unit → Option X) (kr : Bool → Option X) (l : List MetL) (hl : l.length ≤ 1000) (hs : SmallL l) : ∀ (j i m : Nat), i + j = l.length → j < m → F.ref08_Equal.L4 n k0 kr m l l (i : Int) = k0 () := by
  intro j
  induction j with
  | zero =>
    intro i m h1 hm
    obtain ⟨m, rfl⟩ : ∃ q, m = q + 1 := ⟨m - 1, by omega⟩
    rw [F.ref08_Equal.L4]
    unfold F.ref08_Equal.L4.step
    dsimp only
    rw [bif_neg (by omega)]
  | succ j ih =>
    intro i m h1 hm
    obtain ⟨m, rfl⟩ : ∃ q, m = q + 1 := ⟨m - 1, by omega⟩
    have hx := hs l[i] (List.getElem_mem (by omega))
    have he : F.ref07_Equal n (l[i].1, l[i].2.1, l[i].2.2.1, l[i].2.2.2.1, l[i].2.2.2.2.1, l[i].2.2.2.2.2, ()) (l[i].1, l[i].2.1, l[i].2.2.1, l[i].2.2.2.1, l[i].2.2.2.2.1, l[i].2.2.2.2.2, ()) = some true :=
      refequal_refl n hn (l[i].1, l[i].2.1, l[i].2.2.1, l[i].2.2.2.1, l[i].2.2.2.2.1, l[i].2.2.2.2.2, ()) (by have := hx.1; show l[i].2.2.1.length ≤ _; omega) (by have := hx.2; show l[i].2.2.2.2.1.length ≤ _; omega)
    rw [F.ref08_Equal.L4]
    unfold F.ref08_Equal.L4.step
    dsimp only
    rw [bif_pos (by omega), idx_lt (by omega : i < l.length), some_bind', some_bind', he, some_bind', Bool.not_true, cond_false, wrap_succ (by omega), ih (i + 1) m (by omega) (by omega)]
theorem requal_refl (n : Nat) (hn : 200000 ≤ n) (l : List MetL) (hl : l.length ≤ 1000) (hs : SmallL l) : F.ref08_Equal n l l = some true := by
  unfold F.ref08_Equal
  rw [beq_self_eq_true, Bool.not_true, cond_false]
  exact requal_loop n hn Bool _ _ l hl hs l.length 0 n (by omega) (by omega)
end Go.AM
set_option linter.unusedVariables false
set_option linter.unusedSimpArgs false
namespace Go.AM
def lineF (m : MetD) (f : Int) : List UInt8 := if f = 1 then lineS m else if f = 2 then lineD m else lineG m
def lineT (m : MetD) (f : Int) : List UInt8 × Int × Unit :=
  if fmtB f = false then ([], 29, ())
  else if (normM m).2.1 ≠ 0 then ([], (normM m).2.1, ())
  else if expM (normM m).1 f ≠ 0 then ([], expM (normM m).1 f, ())
  else (lineF (normM m).1 f, 0, ())
theorem lineF_eq (n : Nat) (hn : 200000 ≤ n) {m : MetD} (hR : RightM m) (hs : StrictT m.2.2.2.2.1) {f : Int} (h0 : expM m f = 0) :
    (f = 1 → F.statsd_Line n m = some (lineF m f, 0, ())) ∧ (f = 2 → F.dog_Line n m = some (lineF m f, 0, ())) ∧ (f = 3 → F.graphite_Line n m = some (lineF m f, 0, ())) := by
  refine ⟨fun e => ?_, fun e => ?_, fun e => ?_⟩
  · subst e; rw [sdLine_eq n hn m hR.ok]; unfold sdLineR; rw [if_pos h0]; rfl
  · subst e; rw [line_right n hn hR hs]; rfl
  · subst e; rw [lineG_eq n hn m hR.ok]; unfold lineGR; rw [if_pos h0]; rfl
theorem textLine_eq (n : Nat) (hn : 200000 ≤ n) (m : MetD) (hm : MetOK m) (f : Int) : F.text_Line n m f = some (lineT m f) := by
  unfold F.text_Line lineT
  have hN : F.metric_Normal n (m.1, m.2.1, m.2.2.1, m.2.2.2.1, m.2.2.2.2.1, m.2.2.2.2.2.1, ()) = some (normM m) := metNormal_eq n hn m hm
  rw [hN]
  cases hf : fmtB f
  · have h1 : f ≠ 1 := fun e => by rw [e] at hf; cases hf
    have h2 : f ≠ 2 := fun e => by rw [e] at hf; cases hf
    have h3 : f ≠ 3 := fun e => by rw [e] at hf; cases hf
    rw [beq_eq_false_iff_ne.2 h1, beq_eq_false_iff_ne.2 h2, beq_eq_false_iff_ne.2 h3, if_pos rfl]
    rfl
  · rw [if_neg (by simp)]
    rcases normM_cases hm with ⟨hq, hR⟩ | ⟨e, he, hq⟩
    · have hs : StrictT (formM m).2.2.2.2.1 := normT_strict _
      rw [hq]
      generalize formM m = q at hR hs ⊢
      have hE : F.expr_Metric n (q.1, q.2.1, q.2.2.1, q.2.2.2.1, q.2.2.2.2.1, q.2.2.2.2.2.1, ()) f = some (expM q f) := expm_eq n hn q hR.ok f
      dsimp only
      simp only [some_bind', beq_self_eq_true, Bool.not_true, cond_false, hE, ne_eq, not_true_eq_false, if_false]
      by_cases h0 : expM q f = 0
      · obtain ⟨l1, l2, l3⟩ := lineF_eq n hn hR hs h0
        rw [if_neg (by simp [h0]), h0]
        rcases fmt_three hf with rfl | rfl | rfl
        · have := l1 rfl
          rw [beq_self_eq_true, cond_true, beq_self_eq_true, Bool.not_true, cond_false]
          exact (congrArg (Option.bind · _) this).trans rfl
        · have := l2 rfl
          rw [show ((2 : Int) == 1) = false from rfl, cond_false, beq_self_eq_true, cond_true, beq_self_eq_true, Bool.not_true, cond_false]
          exact (congrArg (Option.bind · _) this).trans rfl
        · have := l3 rfl
          rw [show ((3 : Int) == 1) = false from rfl, show ((3 : Int) == 2) = false from rfl, cond_false, cond_false, beq_self_eq_true, cond_true, beq_self_eq_true, Bool.not_true, cond_false]
          exact (congrArg (Option.bind · _) this).trans rfl
      · rw [if_pos h0, beq_eq_false_iff_ne.2 h0]
        rcases fmt_three hf with rfl | rfl | rfl <;> rfl
    · rw [hq]
      dsimp only
      rw [if_pos he]
      simp only [some_bind', beq_eq_false_iff_ne.2 he]
      rcases fmt_three hf with rfl | rfl | rfl <;> rfl
end Go.AM
set_option linter.unusedVariables false
set_option linter.unusedSimpArgs false
namespace Go.AM
theorem lineT_right {m : MetD} (hR : RightM m) (hs : StrictT m.2.2.2.2.1) {f : Int} (hf : fmtB f = true) (h0 : expM m f = 0) : lineT m f = (lineF m f, 0, ()) := by
  unfold lineT
  rw [if_neg (by simp [hf]), right_id hR hs, if_neg (by simp), if_neg (by simp [h0])]
theorem lineF_len {m : MetD} (hR : RightM m) (hs : StrictT m.2.2.2.2.1) {f : Int} (hf : fmtB f = true) (h0 : expM m f = 0) : (lineF m f).length ≤ 8192 := by
  have hi := hR.inv hs
  have hnm := (nameOK_le hi.nm).2
  unfold lineF
  rcases fmt_three hf with rfl | rfl | rfl
  · obtain ⟨nm, k, d, r, rfl, _, h1, h4, hd, hr1, hr2, _⟩ := said_facts h0
    rw [if_pos rfl]
    have hv := textD_le ((right_vals hR).1 d (by simp)).1 hd
    have hw := wordL_le k
    have hr := (rateText_ok hr1 hr2).2
    unfold lineS rateL valL
    dsimp only at hnm ⊢
    split <;> simp only [List.length_append, List.length_cons, List.length_nil] <;> omega
  · rw [if_neg (by decide), if_pos rfl]
    exact line_len hi
  · rw [if_neg (by decide), if_neg (by decide)]
    have := lineG_le hR.ok h0 (by omega)
    omega
abbrev LinR := List (List UInt8) × Int × Int × Unit
def linesB (l : List MetL) (f : Int) : LinR :=
  if fmtB f = false then ([], 0, 29, ()) else if (normB l).2.2.1 = 0 then (if (expB (normB l).1 f).2.1 = 0 then ((normB l).1.map fun m => lineF (opM m) f, 0, 0, ()) else ([], (expB (normB l).1 f).1, (expB (normB l).1 f).2.1, ())) else ([], (normB l).2.1, (normB l).2.2.1, ())
theorem lines_loop (n : Nat) (hn : 200000 ≤ n) (f : Int) (hf : fmtB f = true) (k0 : List (List UInt8) → Nat → Option LinR) (kr : List (List UInt8) → Int → Int → Nat → Option LinR) (h0 : ∀ a k, k0 a k = some (a, 0, 0, ())) (l : List MetL) (hR : RightB l) (he : ∀ m ∈ l, expM (opM m) f = 0) :
    ∀ (r : List MetL) (i m : Nat) (out : List (List UInt8)), l.drop i = r → out.length = i → r.length < m → F.text_Lines.L12 n k0 kr m f out l (l.length : Int) (i : Int) out.length = some (out ++ r.map fun m => lineF (opM m) f, 0, 0, ()) := by
  have hl := hR.1
  intro r
  induction r with
  | nil =>
    intro i m out hi ho hm
    have := drop_nil' hi
    obtain ⟨m, rfl⟩ : ∃ q, m = q + 1 := ⟨m - 1, by omega⟩
    rw [F.text_Lines.L12]
    unfold F.text_Lines.L12.step
    dsimp only
    rw [bif_neg (by omega), h0]
    simp
  | cons x r ih =>
    intro i m out hi ho hm
    obtain ⟨g1, g2, g3⟩ := drop_cons hi
    obtain ⟨m, rfl⟩ : ∃ q, m = q + 1 := ⟨m - 1, by omega⟩
    have hx := List.mem_of_getElem? g2
    obtain ⟨x1, x2⟩ := hR.2 x hx
    have hN : F.text_Line n (x.1, x.2.1, x.2.2.1, x.2.2.2.1, x.2.2.2.2.1, x.2.2.2.2.2, ()) f = some (lineF (opM x) f, 0, ()) := by
      rw [← lineT_right x1 x2 hf (he x hx)]
      exact textLine_eq n hn (opM x) x1.ok f
    rw [F.text_Lines.L12]
    unfold F.text_Lines.L12.step
    dsimp only
    rw [bif_pos (by omega), idx_nat, g2, some_bind', hN, some_bind', beq_self_eq_true, Bool.not_true, cond_false, growL (by omega), Nat.beq_refl, cond_true, wrap_succ (by omega), ih (i + 1) m _ g3 (by simp [ho]) (by simp at hm; omega)]
    simp
theorem bound16 {k : Nat} (h : k ≤ 1000) {X : Type} (y : Option X) : (bif decide True && (decide ((0 : Int) ≤ (k : Int)) && decide ((16 : Int) * (k : Int) ≤ 281474976710656) && decide ((k : Int) ≤ 281474976710656)) && true then y else none) = y := by
  rw [decide_eq_true (by omega : (0 : Int) ≤ (k : Int)), decide_eq_true (by omega : (16 : Int) * (k : Int) ≤ 281474976710656), decide_eq_true (by omega : (k : Int) ≤ 281474976710656)]; rfl
theorem textLines_eq (n : Nat) (hn : 200000 ≤ n) (l : List MetL) (hok : BatOK l) (f : Int) : F.text_Lines n l f = some (linesB l f) := by
  unfold F.text_Lines linesB
  rw [batNormal_eq n hn l hok]
  cases hf : fmtB f
  · have h1 : f ≠ 1 := fun e => by rw [e] at hf; cases hf
    have h2 : f ≠ 2 := fun e => by rw [e] at hf; cases hf
    have h3 : f ≠ 3 := fun e => by rw [e] at hf; cases hf
    rw [beq_eq_false_iff_ne.2 h1, beq_eq_false_iff_ne.2 h2, beq_eq_false_iff_ne.2 h3, if_pos rfl]
    rfl
  · rw [if_neg (by simp)]
    simp only [some_bind']
    rcases normB_cases hok with ⟨h2, hR, -, -⟩ | ⟨i, e, he, h⟩
    · generalize hq : normB l = q at h2 hR
      obtain ⟨q, q2⟩ := q
      dsimp only at h2 hR
      subst h2
      rw [expB_eq n hn q hR.ok]
      simp only [some_bind', beq_self_eq_true, Bool.not_true, cond_false, if_true]
      by_cases h0 : (expB q f).2.1 = 0
      · obtain ⟨-, hx⟩ := expB_zero hR h0
        rw [if_pos h0, h0, beq_self_eq_true, Bool.not_true, cond_false, bound16 hR.1]
        have L := lines_loop n hn f hf (fun a k => some (a, 0, 0, ())) (fun a b c d => some (a, b, c, ())) (fun _ _ => rfl) q hR hx q 0 n [] rfl rfl (by have := hR.1; omega)
        rcases fmt_three hf with rfl | rfl | rfl <;> exact L
      · rw [if_neg h0, beq_eq_false_iff_ne.2 h0]
        rcases fmt_three hf with rfl | rfl | rfl <;> rfl
    · rw [h]
      dsimp only
      rw [if_neg he, beq_eq_false_iff_ne.2 he]
      rcases fmt_three hf with rfl | rfl | rfl <;> rfl
def encB (l : List MetL) (f : Int) : List UInt8 × Int × Int × Unit := (feeds (linesB l f).1, (linesB l f).2.1, (linesB l f).2.2.1, ())
theorem linesB_cases {l : List MetL} (hok : BatOK l) (f : Int) : ((linesB l f).2 = (0, 0, ()) ∧ fmtB f = true ∧ (normB l).2 = (0, 0, ()) ∧ RightB (normB l).1 ∧ (∀ m ∈ (normB l).1, expM (opM m) f = 0) ∧ (linesB l f).1 = (normB l).1.map fun m => lineF (opM m) f) ∨ (∃ i e : Int, e ≠ 0 ∧ linesB l f = ([], i, e, ())) := by
  unfold linesB
  cases hf : fmtB f
  · rw [if_pos rfl]; exact Or.inr ⟨0, 29, by decide, rfl⟩
  · rw [if_neg (by simp)]
    rcases normB_cases hok with ⟨h2, hR, -, -⟩ | ⟨i, e, he, h⟩
    · rw [if_pos (by rw [h2])]
      by_cases h0 : (expB (normB l).1 f).2.1 = 0
      · rw [if_pos h0]
        exact Or.inl ⟨rfl, rfl, h2, hR, (expB_zero hR h0).2, rfl⟩
      · rw [if_neg h0]
        exact Or.inr ⟨_, _, h0, rfl⟩
    · rw [h, if_neg he]
      exact Or.inr ⟨i, e, he, rfl⟩
theorem linesB_len {l : List MetL} (hok : BatOK l) (f : Int) : (linesB l f).1.length ≤ 1000 ∧ ∀ s ∈ (linesB l f).1, s.length ≤ 8192 := by
  rcases linesB_cases hok f with ⟨-, hf, -, hR, he, h⟩ | ⟨i, e, -, h⟩
  · rw [h]
    refine ⟨by rw [List.length_map]; exact hR.1, fun s hs => ?_⟩
    obtain ⟨m, hm, rfl⟩ := List.mem_map.1 hs
    exact lineF_len (hR.2 m hm).1 (hR.2 m hm).2 hf (he m hm)
  · rw [h]; exact ⟨by simp, fun s hs => by cases hs⟩
theorem growU {X : Type} {a b : Nat} (h : a + b ≤ 100000000) (y : Option X) : (bif decide ((a + b) * 1 ≤ 2 ^ 46) && decide (0 < 1 ∧ 1 ≤ 2 ^ 20) then y else none) = y := by
  rw [decide_eq_true (by omega)]; rfl
theorem enc_loop (n : Nat) (k0 : List UInt8 → Nat → Option (List UInt8 × Int × Int × Unit)) (h0 : ∀ a k, k0 a k = some (a, 0, 0, ())) (l : List (List UInt8)) (hl : l.length ≤ 1000) (hs : ∀ s ∈ l, s.length ≤ 8192) :
    ∀ (r : List (List UInt8)) (i m : Nat) (out : List UInt8), l.drop i = r → out.length ≤ i * 8193 → r.length < m → F.text_Encode.L6 n k0 m out l (l.length : Int) (i : Int) out.length = some (out ++ feeds r, 0, 0, ()) := by
  intro r
  induction r with
  | nil =>
    intro i m out hi ho hm
    have := drop_nil' hi
    obtain ⟨m, rfl⟩ : ∃ q, m = q + 1 := ⟨m - 1, by omega⟩
    rw [F.text_Encode.L6]
    unfold F.text_Encode.L6.step
    dsimp only
    rw [bif_neg (by omega), h0]
    simp [feeds]
  | cons x r ih =>
    intro i m out hi ho hm
    obtain ⟨g1, g2, g3⟩ := drop_cons hi
    obtain ⟨m, rfl⟩ : ∃ q, m = q + 1 := ⟨m - 1, by omega⟩
    have hx := hs x (List.mem_of_getElem? g2)
    have hb : i * 8193 ≤ 1000 * 8193 := Nat.mul_le_mul_right _ (by omega)
    rw [F.text_Encode.L6]
    unfold F.text_Encode.L6.step
    dsimp only
    rw [bif_pos (by omega), idx_nat, g2, some_bind', growU (by omega), Nat.beq_refl, cond_true, growU (by simp; omega), Nat.beq_refl, cond_true, wrap_succ (by omega), ih (i + 1) m _ g3 (by simp; omega) (by simp at hm; omega)]
    simp [feeds]
theorem textEncode_eq (n : Nat) (hn : 200000 ≤ n) (l : List MetL) (hok : BatOK l) (f : Int) : F.text_Encode n l f = some (encB l f) := by
  unfold F.text_Encode encB
  rw [textLines_eq n hn l hok f, some_bind']
  obtain ⟨h1, h2⟩ := linesB_len hok f
  rcases linesB_cases hok f with ⟨h, -⟩ | ⟨i, e, he, h⟩
  · generalize linesB l f = q at h1 h2 h
    obtain ⟨q, q2⟩ := q
    dsimp only at h h1 h2
    subst h
    rw [beq_self_eq_true, Bool.not_true, cond_false]
    exact enc_loop n _ (fun _ _ => rfl) q h1 h2 q 0 n [] rfl (by simp) (by omega)
  · rw [h]
    dsimp only
    rw [beq_eq_false_iff_ne.2 he]
    rfl
def fewB (l : List MetL) : Bool := (l.take 41).all (fun m => smallB (opM m)) && decide (l.length ≤ 40)
theorem few13_loop (n : Nat) (hn : 200000 ≤ n) (k0 : List MetL → Option Bool) (kr : Bool → Option Bool) (h0 : ∀ l, k0 l = some (decide ((l.length : Int) ≤ 40))) (hr : ∀ b, kr b = some b) (l : List MetL) (hs : ∀ m ∈ l, m.2.2.2.2.1.length ≤ 140737488351232) : ∀ (r : List MetL) (i m : Nat), l.drop i = r → i ≤ 41 → 42 < m + i → F.law13_Few.L2 n k0 kr m l (i : Int) = some ((r.take (41 - i)).all (fun m => smallB (opM m)) && decide (l.length ≤ 40)) := by
  have hd : decide ((l.length : Int) ≤ 40) = decide (l.length ≤ 40) := decide_eq_decide.2 (by omega)
  intro r
  induction r with
  | nil =>
    intro i m hi h41 hm
    have := drop_nil' hi
    obtain ⟨m, rfl⟩ : ∃ q, m = q + 1 := ⟨m - 1, by omega⟩
    rw [F.law13_Few.L2]
    unfold F.law13_Few.L2.step
    dsimp only
    rw [bif_neg (by omega), h0, hd]
    simp
  | cons x r ih =>
    intro i m hi h41 hm
    obtain ⟨g1, g2, g3⟩ := drop_cons hi
    obtain ⟨m, rfl⟩ : ∃ q, m = q + 1 := ⟨m - 1, by omega⟩
    rw [F.law13_Few.L2]
    unfold F.law13_Few.L2.step
    dsimp only
    rw [bif_pos (by omega)]
    by_cases h : i < 41
    · have hN : F.law10_Small n (x.1, x.2.1, x.2.2.1, x.2.2.2.1, x.2.2.2.2.1, x.2.2.2.2.2, ()) = some (smallB (opM x)) := small_eq n hn (opM x) (hs x (List.mem_of_getElem? g2))
      rw [bif_pos (by omega), idx_nat, g2, some_bind', hN, some_bind', show 41 - i = (41 - (i + 1)) + 1 by omega, List.take_succ_cons, List.all_cons]
      cases smallB (opM x)
      · rw [Bool.not_false, cond_true, hr]; rfl
      · rw [Bool.not_true, cond_false, wrap_succ (by omega), ih (i + 1) m g3 (by omega) (by omega), Bool.true_and]
    · rw [bif_neg (by omega), h0, hd, show 41 - i = 0 by omega]
      simp
theorem few13_eq (n : Nat) (hn : 200000 ≤ n) (l : List MetL) (hs : ∀ m ∈ l, m.2.2.2.2.1.length ≤ 140737488351232) : F.law13_Few n l = some (fewB l) := by
  unfold F.law13_Few
  exact few13_loop n hn _ _ (fun _ => rfl) (fun _ => rfl) l hs l 0 n rfl (by omega) (by omega)
theorem few13_ok {l : List MetL} (hw : ∀ m ∈ l, MetWf (opM m)) (h : fewB l = true) : BatOK l ∧ l.length ≤ 40 := by
  unfold fewB at h
  simp only [Bool.and_eq_true, decide_eq_true_eq] at h
  obtain ⟨h1, h2⟩ := h
  rw [List.take_of_length_le (by omega)] at h1
  exact ⟨fun m hm => (small_ok (hw m hm) (List.all_eq_true.1 h1 m hm)).1, h2⟩
end Go.AM
set_option linter.unusedVariables false
set_option linter.unusedSimpArgs false
namespace Go.AM
theorem clone_dec (n : Nat) {a : List DecL} (h : a.length ≤ 10000) : F.slices_Clone_api_Dec_api_Dec n a = some a := by
  unfold F.slices_Clone_api_Dec_api_Dec
  cases a with
  | nil => exact if_pos rfl
  | cons x a =>
    simp only [List.length_cons] at h
    simp only [List.isEmpty_cons, cond_false, List.length_cons, List.nil_append]
    rw [decide_eq_true (by omega)]; rfl
theorem clone_tag (n : Nat) {a : List TagL} (h : a.length ≤ 10000) : F.slices_Clone_api_Tag_api_Tag n a = some a := by
  unfold F.slices_Clone_api_Tag_api_Tag
  cases a with
  | nil => exact if_pos rfl
  | cons x a =>
    simp only [List.length_cons] at h
    simp only [List.isEmpty_cons, cond_false, List.length_cons, List.nil_append]
    rw [decide_eq_true (by omega)]; rfl
theorem clone_eq (n : Nat) (m : MetD) (h : MetOK m) : F.metric_Clone n m = some m := by
  unfold F.metric_Clone
  rw [clone_dec n h.2.1.1, some_bind', clone_tag n h.2.2.1, some_bind']
theorem copy_eq (n : Nat) (m : MetD) (h : MetOK m) : F.ref07_Copy n m = some m := by
  have h1 := h.2.1.1
  have h2 := h.2.2.1
  unfold F.ref07_Copy
  rw [decide_eq_true (by omega), decide_eq_true (by omega), decide_eq_true (by omega)]
  rfl
def oneV (b0 : List UInt8) (b1 b3 : Int) (b4 : List TagL) (b5 : Int) (d : DecL) : MetL := (b0, b1, [d], b3, b4, b5)
theorem split_loop (n : Nat) (hn : 200000 ≤ n) (X : Type) (k0 : List MetL → List UInt8 → Int → List DecL → Int → List TagL → Int → Nat → Option X) (b0 : List UInt8) (b1 : Int) (b2 : List DecL) (b3 : Int) (b4 : List TagL) (b5 : Int) (hm : MetOK (b0, b1, b2, b3, b4, b5, ())) (vs : List DecL) (hv : vs.length ≤ 10000) :
    ∀ (r : List DecL) (i m : Nat) (v : List MetL), vs.drop i = r → v.length ≤ i → r.length < m →
    F.metric_Split.L6 n k0 m v vs (vs.length : Int) (i : Int) b0 b1 b2 b3 b4 b5 v.length = k0 (v ++ r.map (oneV b0 b1 b3 b4 b5)) b0 b1 b2 b3 b4 b5 (v ++ r.map (oneV b0 b1 b3 b4 b5)).length := by
  intro r
  induction r with
  | nil =>
    intro i m v hi hv' hm'
    have := drop_nil' hi
    obtain ⟨m, rfl⟩ : ∃ q, m = q + 1 := ⟨m - 1, by omega⟩
    rw [F.metric_Split.L6]
    unfold F.metric_Split.L6.step
    dsimp only
    rw [bif_neg (by omega), List.map_nil, List.append_nil]
  | cons x r ih =>
    intro i m v hi hv' hm'
    obtain ⟨g1, g2, g3⟩ := drop_cons hi
    obtain ⟨m, rfl⟩ : ∃ q, m = q + 1 := ⟨m - 1, by omega⟩
    rw [F.metric_Split.L6]
    unfold F.metric_Split.L6.step
    dsimp only
    rw [bif_pos (by omega), idx_nat, g2, some_bind', clone_eq n _ hm, some_bind', growM (by omega), Nat.beq_refl, cond_true, wrap_succ (by omega)]
    refine (ih (i + 1) m _ g3 (by simp; omega) (by simp at hm'; omega)).trans ?_
    simp only [List.append_assoc, List.singleton_append, List.map_cons]
    rfl
theorem split7_eq (n : Nat) (hn : 200000 ≤ n) (m : MetD) (hm : MetOK m) (h0 : chkM m = 0) : F.metric_Split n m = some (m.2.2.1.map (oneV m.1 m.2.1 m.2.2.2.1 m.2.2.2.2.1 m.2.2.2.2.2.1), 0, ()) := by
  have hl := hm.2.1.1
  unfold F.metric_Split
  have hc : F.metric_Check n (m.1, m.2.1, m.2.2.1, m.2.2.2.1, m.2.2.2.2.1, m.2.2.2.2.2.1, ()) = some (chkM m) := metcheck_eq n hn m hm
  rw [hc, some_bind', h0, beq_self_eq_true, Bool.not_true, cond_false]
  exact split_loop n hn _ _ m.1 m.2.1 m.2.2.1 m.2.2.2.1 m.2.2.2.2.1 m.2.2.2.2.2.1 hm _ hl _ 0 n [] rfl (by simp) (by omega)
def bareL (f : Int) (x : MetL) : MetL := (x.1, x.2.1, x.2.2.1, x.2.2.2.1, [], if f = 1 then 0 else x.2.2.2.2.2)
def keepL (f : Int) (l : List MetL) : List MetL := (l.map (bareL f)).filter fun x => saysM (opM x) f
theorem keepL_cons (f : Int) (x : MetL) (l : List MetL) : keepL f (x :: l) = bif saysM (opM (bareL f x)) f then bareL f x :: keepL f l else keepL f l := by
  unfold keepL
  rw [List.map_cons, List.filter_cons]
  cases saysM (opM (bareL f x)) f <;> rfl
theorem expM_bare {f : Int} (hf : ¬(f < 1 ∨ f > 4)) {m : MetD} (h : chkM m = 0) : expM m f = bif saysM m f then 0 else 26 := by
  unfold expM
  rw [if_neg hf, if_pos h]
theorem cut_loop (n : Nat) (hn : 200000 ≤ n) (X : Type) (k1 : List MetL → List UInt8 → Int → List DecL → Int → List TagL → Int → Nat → Option X) (b0 : List UInt8) (b1 : Int) (b2 : List DecL) (b3 : Int) (b4 : List TagL) (b5 : Int) (f : Int) (hf : ¬(f < 1 ∨ f > 4)) (xs : List MetL) (hl : xs.length ≤ 10000) (hx : ∀ x ∈ xs, MetOK (opM (bareL f x)) ∧ chkM (opM (bareL f x)) = 0) :
    ∀ (r : List MetL) (i m : Nat) (v : List MetL), xs.drop i = r → v.length ≤ i → r.length < m →
    F.expr_Cut.L11 n k1 m f v xs (xs.length : Int) (i : Int) b0 b1 b2 b3 b4 b5 v.length = k1 (v ++ keepL f r) b0 b1 b2 b3 b4 b5 (v ++ keepL f r).length := by
  intro r
  induction r with
  | nil =>
    intro i m v hi hv' hm'
    have := drop_nil' hi
    obtain ⟨m, rfl⟩ : ∃ q, m = q + 1 := ⟨m - 1, by omega⟩
    rw [F.expr_Cut.L11]
    unfold F.expr_Cut.L11.step
    dsimp only
    rw [bif_neg (by omega)]
    rw [show v ++ keepL f [] = v from List.append_nil v]
  | cons x r ih =>
    intro i m v hi hv' hm'
    obtain ⟨g1, g2, g3⟩ := drop_cons hi
    obtain ⟨m, rfl⟩ : ∃ q, m = q + 1 := ⟨m - 1, by omega⟩
    obtain ⟨hk, hc⟩ := hx x (List.mem_of_getElem? g2)
    have he := (expm_eq n hn _ hk f).trans (congrArg some (expM_bare hf hc))
    rw [F.expr_Cut.L11]
    unfold F.expr_Cut.L11.step
    dsimp only
    rw [bif_pos (by omega), idx_nat, g2, some_bind', keepL_cons]
    by_cases h1 : f = 1
    · subst h1
      have e : opM (bareL 1 x) = (x.1, x.2.1, x.2.2.1, x.2.2.2.1, [], (0 : Int), ()) := rfl
      rw [← e, he, beq_self_eq_true, cond_true, some_bind']
      cases saysM (opM (bareL 1 x)) 1
      · rw [cond_false, cond_false, show ((26 : Int) == 0) = false from rfl, cond_false, wrap_succ (by omega)]
        exact ih (i + 1) m v g3 (by omega) (by simp at hm'; omega)
      · rw [cond_true, cond_true, beq_self_eq_true, cond_true, growM (by omega), Nat.beq_refl, cond_true, wrap_succ (by omega)]
        refine (ih (i + 1) m _ g3 (by simp; omega) (by simp at hm'; omega)).trans ?_
        simp only [List.append_assoc, List.singleton_append]
        rfl
    · have e : opM (bareL f x) = (x.1, x.2.1, x.2.2.1, x.2.2.2.1, [], x.2.2.2.2.2, ()) := by unfold bareL opM; rw [if_neg h1]
      have e2 : bareL f x = (x.1, x.2.1, x.2.2.1, x.2.2.2.1, [], x.2.2.2.2.2) := by unfold bareL; rw [if_neg h1]
      rw [beq_eq_false_iff_ne.2 h1, cond_false, ← e, he, some_bind']
      cases saysM (opM (bareL f x)) f
      · rw [cond_false, cond_false, show ((26 : Int) == 0) = false from rfl, cond_false, wrap_succ (by omega)]
        exact ih (i + 1) m v g3 (by omega) (by simp at hm'; omega)
      · rw [cond_true, cond_true, beq_self_eq_true, cond_true, growM (by omega), Nat.beq_refl, cond_true, wrap_succ (by omega), ← e2]
        refine (ih (i + 1) m _ g3 (by simp; omega) (by simp at hm'; omega)).trans ?_
        simp only [List.append_assoc, List.singleton_append]
theorem rcut_loop (n : Nat) (hn : 200000 ≤ n) (X : Type) (k0 : List MetL → List UInt8 → Int → List DecL → Int → List TagL → Int → Nat → Option X) (b0 : List UInt8) (b1 : Int) (b2 : List DecL) (b3 : Int) (b4 : List TagL) (b5 : Int) (f : Int) (hl : b2.length ≤ 10000) :
    ∀ (r : List DecL) (i m : Nat) (v : List MetL), b2.drop i = r → v.length ≤ i → r.length < m →
    F.ref09_Cut.L10 n k0 m f v (i : Int) b0 b1 b2 b3 b4 b5 v.length = k0 (v ++ keepL f (r.map (oneV b0 b1 b3 b4 b5))) b0 b1 b2 b3 b4 b5 (v ++ keepL f (r.map (oneV b0 b1 b3 b4 b5))).length := by
  intro r
  induction r with
  | nil =>
    intro i m v hi hv' hm'
    have := drop_nil' hi
    obtain ⟨m, rfl⟩ : ∃ q, m = q + 1 := ⟨m - 1, by omega⟩
    rw [F.ref09_Cut.L10]
    unfold F.ref09_Cut.L10.step
    dsimp only
    rw [bif_neg (by omega)]
    rw [show v ++ keepL f (List.map (oneV b0 b1 b3 b4 b5) []) = v from List.append_nil v]
  | cons x r ih =>
    intro i m v hi hv' hm'
    obtain ⟨g1, g2, g3⟩ := drop_cons hi
    obtain ⟨m, rfl⟩ : ∃ q, m = q + 1 := ⟨m - 1, by omega⟩
    rw [F.ref09_Cut.L10]
    unfold F.ref09_Cut.L10.step
    dsimp only
    rw [bif_pos (by omega), idx_nat, g2, some_bind', List.map_cons, keepL_cons]
    by_cases h1 : f = 1
    · subst h1
      have e : opM (bareL 1 (oneV b0 b1 b3 b4 b5 x)) = (b0, b1, [(x.1, x.2.1, x.2.2)], b3, [], (0 : Int), ()) := rfl
      rw [beq_self_eq_true, cond_true, ← e, says_ref, some_bind']
      cases saysM (opM (bareL 1 (oneV b0 b1 b3 b4 b5 x))) 1
      · rw [cond_false, cond_false, wrap_succ (by omega)]
        exact ih (i + 1) m v g3 (by omega) (by simp at hm'; omega)
      · rw [cond_true, cond_true, growM (by omega), Nat.beq_refl, cond_true, wrap_succ (by omega)]
        refine (ih (i + 1) m _ g3 (by simp; omega) (by simp at hm'; omega)).trans ?_
        simp only [List.append_assoc, List.singleton_append]
        rfl
    · have e : opM (bareL f (oneV b0 b1 b3 b4 b5 x)) = (b0, b1, [(x.1, x.2.1, x.2.2)], b3, [], b5, ()) := by unfold bareL opM oneV; rw [if_neg h1]
      have e2 : bareL f (oneV b0 b1 b3 b4 b5 x) = (b0, b1, [(x.1, x.2.1, x.2.2)], b3, [], b5) := by unfold bareL oneV; rw [if_neg h1]
      rw [beq_eq_false_iff_ne.2 h1, cond_false, ← e, says_ref, some_bind']
      cases saysM (opM (bareL f (oneV b0 b1 b3 b4 b5 x))) f
      · rw [cond_false, cond_false, wrap_succ (by omega)]
        exact ih (i + 1) m v g3 (by omega) (by simp at hm'; omega)
      · rw [cond_true, cond_true, growM (by omega), Nat.beq_refl, cond_true, wrap_succ (by omega), ← e2]
        refine (ih (i + 1) m _ g3 (by simp; omega) (by simp at hm'; omega)).trans ?_
        simp only [List.append_assoc, List.singleton_append]
def partsM (m : MetD) (f : Int) : List MetL := keepL f (m.2.2.1.map (oneV m.1 m.2.1 m.2.2.2.1 m.2.2.2.2.1 m.2.2.2.2.2.1))
def cutM (m : MetD) (f : Int) : List MetL × Int × Unit :=
  if f < 1 ∨ f > 4 then ([], 29, ()) else if chkM m = 0 then (if f = 2 ∨ f = 4 then ([toL m], 0, ()) else if (partsM m f).length = 0 then ([], 26, ()) else (partsM m f, 0, ())) else ([], chkM m, ())
theorem len_intM (l : List MetL) : (((l.length : Nat) : Int) == (0 : Int)) = decide (l.length = 0) := by
  by_cases h : l.length = 0
  · rw [h]; simp
  · rw [decide_eq_false h, beq_eq_false_iff_ne]; omega
theorem cut_ref (n : Nat) (hn : 200000 ≤ n) (m : MetD) (hm : MetOK m) (f : Int) : F.ref09_Cut n m f = some (cutM m f) := by
  have hl := hm.2.1.1
  unfold F.ref09_Cut cutM
  by_cases h1 : f < 1
  · rw [bif_pos h1, if_pos (Or.inl h1)]
  rw [bif_neg h1]
  by_cases h2 : f > 4
  · rw [bif_pos h2, if_pos (Or.inr h2)]
  rw [bif_neg h2, if_neg (by omega)]
  have hc : F.ref07_Check n (m.1, m.2.1, m.2.2.1, m.2.2.2.1, m.2.2.2.2.1, m.2.2.2.2.2.1, ()) = some (chkM m) := metcheck_ref n hn m hm
  rw [hc, some_bind']
  by_cases h0 : chkM m = 0
  · rw [if_pos h0, h0, beq_self_eq_true, Bool.not_true, cond_false]
    have hy : F.ref07_Copy n (m.1, m.2.1, m.2.2.1, m.2.2.2.1, m.2.2.2.2.1, m.2.2.2.2.2.1, ()) = some m := copy_eq n m hm
    rw [hy]
    by_cases f2 : f = 2
    · subst f2; rfl
    by_cases f4 : f = 4
    · subst f4; rfl
    rw [beq_eq_false_iff_ne.2 f2, beq_eq_false_iff_ne.2 f4, cond_false, cond_false, if_neg (by omega)]
    refine (rcut_loop n hn _ _ m.1 m.2.1 m.2.2.1 m.2.2.2.1 m.2.2.2.2.1 m.2.2.2.2.2.1 f hl m.2.2.1 0 n [] rfl (by simp) (by omega)).trans ?_
    show (bif ((partsM m f).length : Int) == (0 : Int) then some (([], (26 : Int), ())) else some ((partsM m f, (0 : Int), ()))) = _
    rw [len_intM]
    by_cases h : (partsM m f).length = 0
    · rw [decide_eq_true h, if_pos h]; rfl
    · rw [decide_eq_false h, if_neg h]; rfl
  · rw [beq_eq_false_iff_ne.2 h0, if_neg h0]; rfl
theorem chkM_ne (m : MetD) : chkM m ≠ 26 := by
  unfold chkM
  cases !nameOK m.1 <;> cases !kindB m.2.1 <;> cases !valsB m.2.2.1 <;> cases !rateB m.2.1 m.2.2.2.1 <;> cases !tagsB m.2.2.2.2.1 <;> cases !timeB m.2.2.2.2.2.1 <;> decide
theorem chk_part {m : MetD} (h : chkM m = 0) {d : DecL} (hd : d ∈ m.2.2.1) {t : Int} (ht : t = 0 ∨ t = m.2.2.2.2.2.1) : chkM (m.1, m.2.1, [d], m.2.2.2.1, [], t, ()) = 0 := by
  obtain ⟨h1, h2, h3, h4, h5, h6⟩ := chk_zero h
  have hv : valsB [d] = true := by
    unfold valsB at h3 ⊢
    simp only [Bool.and_eq_true, List.all_eq_true] at h3
    have := h3.2.2 d hd
    simp [this]
  have htm : timeB t = true := by
    rcases ht with rfl | rfl
    · rfl
    · exact h6
  unfold chkM
  simp only [h1, h2, hv, h4, htm]
  rfl
theorem part_ok {m : MetD} (h : MetOK m) {d : DecL} (hd : d ∈ m.2.2.1) {t : Int} : MetOK (m.1, m.2.1, [d], m.2.2.2.1, [], t, ()) :=
  ⟨h.1, ⟨by simp, fun x hx => by rw [List.mem_singleton.1 hx]; exact h.2.1.2 d hd⟩, by simp, fun x hx => by cases hx⟩
theorem parts_said {m : MetD} {f : Int} (hs : saysM m f = true) (hf : f = 1 ∨ f = 3) : partsM m f = [toL m] := by
  obtain ⟨nm, k, vs, r, ts, t, _⟩ := m
  have hb : bareM (nm, k, vs, r, ts, t, ()) = true := by
    rcases hf with rfl | rfl
    · exact (Bool.and_eq_true _ _ ▸ (show saysS _ = true from hs) : _ ∧ _).1
    · exact (Bool.and_eq_true _ _ ▸ (show saysG _ = true from hs) : _ ∧ _).1
  unfold bareM at hb
  simp only [Bool.and_eq_true, decide_eq_true_eq, List.length_eq_zero_iff] at hb
  obtain ⟨hb1, rfl⟩ := hb
  match vs, hb1 with
  | [d], _ =>
    have ht : bareL f (oneV nm k r [] t d) = (nm, k, [d], r, [], t) := by
      unfold bareL oneV
      rcases hf with rfl | rfl
      · have h0 : (t == 0) = true := by
          have : saysS (nm, k, [d], r, [], t, ()) = true := hs
          unfold saysS at this
          simp only [Bool.and_eq_true] at this
          exact this.2.1
        rw [if_pos rfl, eq_of_beq h0]
      · rfl
    show keepL f (oneV nm k r [] t d :: []) = _
    rw [keepL_cons, ht, show opM (nm, k, [d], r, [], t) = (nm, k, [d], r, [], t, ()) from rfl, hs]
    rfl
theorem xcut_eq (n : Nat) (hn : 200000 ≤ n) (m : MetD) (hm : MetOK m) (f : Int) : F.expr_Cut n m f = some (cutM m f) := by
  have hl := hm.2.1.1
  unfold F.expr_Cut cutM
  have he : F.expr_Metric n (m.1, m.2.1, m.2.2.1, m.2.2.2.1, m.2.2.2.2.1, m.2.2.2.2.2.1, ()) f = some (expM m f) := expm_eq n hn m hm f
  rw [he, some_bind']
  have hy : F.metric_Clone n (m.1, m.2.1, m.2.2.1, m.2.2.2.1, m.2.2.2.2.1, m.2.2.2.2.2.1, ()) = some m := clone_eq n m hm
  rw [hy, some_bind']
  by_cases hf : f < 1 ∨ f > 4
  · rw [if_pos hf, show expM m f = 29 from if_pos hf]; rfl
  rw [if_neg hf]
  by_cases h0 : chkM m = 0
  · rw [if_pos h0, expM_bare hf h0]
    cases hs : saysM m f
    · have f13 : f = 1 ∨ f = 3 := by
        unfold saysM at hs
        split at hs
        · left; assumption
        · split at hs
          · right; assumption
          · cases hs
      have hp : F.metric_Split n (m.1, m.2.1, m.2.2.1, m.2.2.2.1, m.2.2.2.2.1, m.2.2.2.2.2.1, ()) = _ := split7_eq n hn m hm h0
      rw [hp, cond_false, some_bind', if_neg (by omega), show ((26 : Int) == 0) = false from rfl, cond_false, beq_self_eq_true, Bool.not_true, cond_false, beq_self_eq_true, Bool.not_true, cond_false]
      have hx : ∀ x ∈ m.2.2.1.map (oneV m.1 m.2.1 m.2.2.2.1 m.2.2.2.2.1 m.2.2.2.2.2.1), MetOK (opM (bareL f x)) ∧ chkM (opM (bareL f x)) = 0 := by
        intro x hx
        obtain ⟨d, hd, rfl⟩ := List.mem_map.1 hx
        refine ⟨part_ok hm hd, chk_part h0 hd ?_⟩
        by_cases f1 : f = 1
        · exact Or.inl (if_pos f1)
        · exact Or.inr (if_neg f1)
      refine (cut_loop n hn _ _ m.1 m.2.1 m.2.2.1 m.2.2.2.1 m.2.2.2.2.1 m.2.2.2.2.2.1 f hf _ (by rw [List.length_map]; exact hl) hx (m.2.2.1.map (oneV m.1 m.2.1 m.2.2.2.1 m.2.2.2.2.1 m.2.2.2.2.2.1)) 0 n [] rfl (by simp) (by rw [List.length_map]; omega)).trans ?_
      show (bif ((partsM m f).length : Int) == (0 : Int) then some (([], (26 : Int), ())) else some ((partsM m f, (0 : Int), ()))) = _
      rw [len_intM]
      by_cases h : (partsM m f).length = 0
      · rw [decide_eq_true h, if_pos h]; rfl
      · rw [decide_eq_false h, if_neg h]; rfl
    · rw [cond_true, beq_self_eq_true, cond_true]
      by_cases f24 : f = 2 ∨ f = 4
      · rw [if_pos f24]; rfl
      · rw [if_neg f24, parts_said hs (by omega)]; rfl
  · rw [if_neg h0, show expM m f = chkM m from by unfold expM; rw [if_neg hf, if_neg h0], beq_eq_false_iff_ne.2 h0, beq_eq_false_iff_ne.2 (chkM_ne m)]
    rfl
abbrev MetsR := List MetL × Int × Int × Unit
def metsF (f : Int) : List MetL → Int → List MetL → MetsR
  | [], i, out => (out, 0, 0, ())
  | x :: r, i, out => if (cutM (opM x) f).2.1 = 0 then (if 1000 < (out ++ (cutM (opM x) f).1).length then ([], i, 12, ()) else metsF f r (i + 1) (out ++ (cutM (opM x) f).1)) else ([], i, (cutM (opM x) f).2.1, ())
def metsT (l : List MetL) (a b : Int) : MetsR :=
  if (a < 1 ∨ a > 4) ∨ (b < 1 ∨ b > 4) then ([], 0, 29, ()) else if (expB l a).2.1 = 0 then metsF b l 0 [] else ([], (expB l a).1, (expB l a).2.1, ())
theorem cut_small {m : MetD} (f : Int) : (cutM m f).1.length ≤ 64 ∧ ∀ x ∈ (cutM m f).1, x.2.2.1.length ≤ 1000 ∧ x.2.2.2.2.1.length ≤ 1000 := by
  unfold cutM
  split
  · exact ⟨by simp, fun x hx => by cases hx⟩
  · split
    · rename_i h0
      obtain ⟨-, -, h3, -, h5, -⟩ := chk_zero h0
      unfold valsB at h3
      unfold tagsB at h5
      simp only [Bool.and_eq_true, decide_eq_true_eq] at h3 h5
      split
      · exact ⟨by simp, fun x hx => by rw [List.mem_singleton.1 hx]; exact ⟨Nat.le_trans h3.2.1 (by decide), Nat.le_trans h5.1 (by decide)⟩⟩
      · split
        · exact ⟨by simp, fun x hx => by cases hx⟩
        · unfold partsM keepL
          refine ⟨Nat.le_trans (List.length_filter_le _ _) (by rw [List.length_map, List.length_map]; exact h3.2.1), fun x hx => ?_⟩
          obtain ⟨y, hy, rfl⟩ := List.mem_map.1 (List.mem_filter.1 hx).1
          obtain ⟨d, hd, rfl⟩ := List.mem_map.1 hy
          exact ⟨by show [d].length ≤ 1000; simp, by show ([] : List TagL).length ≤ 1000; simp⟩
    · exact ⟨by simp, fun x hx => by cases hx⟩
theorem metsF_small (f : Int) : ∀ (l : List MetL) (i : Int) (out : List MetL), out.length ≤ 1000 → SmallL out → (metsF f l i out).1.length ≤ 1000 ∧ SmallL (metsF f l i out).1
  | [], i, out, h1, h2 => ⟨h1, h2⟩
  | x :: r, i, out, h1, h2 => by
    rw [metsF]
    split
    · split
      · exact ⟨by simp, fun x hx => by cases hx⟩
      · refine metsF_small f r _ _ (by omega) fun y hy => ?_
        rcases List.mem_append.1 hy with hy | hy
        · exact h2 y hy
        · exact (cut_small f).2 y hy
    · exact ⟨by simp, fun x hx => by cases hx⟩
theorem metsT_small (l : List MetL) (a b : Int) : (metsT l a b).1.length ≤ 1000 ∧ SmallL (metsT l a b).1 := by
  have z : ([] : List MetL).length ≤ 1000 ∧ SmallL [] := ⟨by simp, fun x hx => by cases hx⟩
  unfold metsT
  split
  · exact z
  · split
    · exact metsF_small b l 0 [] z.1 z.2
    · exact z
theorem growLM {X : Type} {v c : List MetL} (h : v.length + c.length ≤ 100000) (y : Option X) : (bif decide ((v.length + c.length) * 88 ≤ 2 ^ 46) && decide (0 < 88 ∧ 88 ≤ 2 ^ 20) then y else none) = y := by
  rw [decide_eq_true (by omega)]; rfl
theorem mets_loop (n : Nat) (hn : 200000 ≤ n) (f : Int) (l : List MetL) (hl : l.length ≤ 1000) (hok : BatOK l) (g : MetL → Option (List MetL × Int × Unit)) (hg : ∀ x ∈ l, g x = some (cutM (opM x) f)) (k0 : List MetL → Nat → Option MetsR) (kr : List MetL → Int → Int → Nat → Option MetsR) (h0 : ∀ v k, k0 v k = some (v, 0, 0, ())) (hr : ∀ v a b k, kr v a b k = some (v, a, b, ())) (L : Nat → List MetL → Int → Nat → Option MetsR)
    (hL : ∀ m v i k, L (m + 1) v i k = bif decide (i < (l.length : Int)) then (idx l i).bind fun x => (g x).bind fun y => bif !(y.2.1 == (0 : Int)) then kr [] i y.2.1 0 else
      bif decide ((v.length + y.1.length) * 88 ≤ 2 ^ 46) && decide (0 < 88 ∧ 88 ≤ 2 ^ 20) then bif Nat.beq k v.length then bif decide (((v ++ y.1).length : Int) > (1000 : Int)) then kr [] i (12 : Int) 0 else L m (v ++ y.1) (IntKind.wrap .i64 (i + (1 : Int))) ((v ++ y.1).length) else none else none else k0 v k) :
    ∀ (r : List MetL) (i m : Nat) (v : List MetL), l.drop i = r → v.length ≤ 1000 → r.length < m → L m v (i : Int) v.length = some (metsF f r i v) := by
  intro r
  induction r with
  | nil =>
    intro i m v hi hv hm
    have := drop_nil' hi
    obtain ⟨m, rfl⟩ : ∃ q, m = q + 1 := ⟨m - 1, by omega⟩
    rw [hL, bif_neg (by omega), h0]
    rfl
  | cons x r ih =>
    intro i m v hi hv hm
    obtain ⟨g1, g2, g3⟩ := drop_cons hi
    obtain ⟨m, rfl⟩ : ∃ q, m = q + 1 := ⟨m - 1, by omega⟩
    rw [hL, bif_pos (by omega), idx_nat, g2, some_bind', hg x (List.mem_of_getElem? g2), some_bind', metsF]
    by_cases h : (cutM (opM x) f).2.1 = 0
    · rw [if_pos h, h, beq_self_eq_true, Bool.not_true, cond_false, growLM (by have := (cut_small (m := opM x) f).1; omega), Nat.beq_refl, cond_true]
      by_cases h2 : 1000 < (v ++ (cutM (opM x) f).1).length
      · rw [if_pos h2, bif_pos (by omega), hr]
      · rw [if_neg h2, bif_neg (by omega), wrap_succ (by omega)]
        exact ih (i + 1) m _ g3 (by omega) (by simp at hm; omega)
    · rw [if_neg h, beq_eq_false_iff_ne.2 h, Bool.not_false, cond_true, hr]
theorem expB_len {l : List MetL} {f : Int} (h : (expB l f).2.1 = 0) : l.length ≤ 1000 := by
  apply Classical.byContradiction
  intro hc
  have : checkB l = (1000, 12, ()) := by unfold checkB; rw [if_pos (by omega)]
  unfold expB at h
  split at h
  · cases h
  · rw [this] at h; cases h
theorem mets_c5 (n : Nat) (hn : 200000 ≤ n) (l : List MetL) (hok : BatOK l) (a b : Int) (kr : List MetL → Int → Int → Nat → Option MetsR) (hr : ∀ v a b k, kr v a b k = some (v, a, b, ())) : F.trans_Metrics.C5 n kr l a b = some (if (expB l a).2.1 = 0 then metsF b l 0 [] else ([], (expB l a).1, (expB l a).2.1, ())) := by
  unfold F.trans_Metrics.C5
  rw [expB_eq n hn l hok, some_bind']
  by_cases h : (expB l a).2.1 = 0
  · have hl := expB_len h
    rw [if_pos h, h, beq_self_eq_true, Bool.not_true, cond_false]
    exact mets_loop n hn b l hl hok (fun x => F.expr_Cut n (x.1, x.2.1, x.2.2.1, x.2.2.2.1, x.2.2.2.2.1, x.2.2.2.2.2, ()) b) (fun x hx => xcut_eq n hn (opM x) (hok x hx) b) _ _ (fun v k => hr _ _ _ _) hr (fun m v i k => F.trans_Metrics.L10 n _ _ m b v l (l.length : Int) i k) (fun _ _ _ _ => rfl) l 0 n [] rfl (by simp) (by omega)
  · rw [if_neg h, beq_eq_false_iff_ne.2 h, Bool.not_false, cond_true, hr]
theorem mets_c2 (n : Nat) (hn : 200000 ≤ n) (l : List MetL) (hok : BatOK l) (a b : Int) (kr : List MetL → Int → Int → Nat → Option MetsR) (hr : ∀ v a b k, kr v a b k = some (v, a, b, ())) (c : Bool) : F.trans_Metrics.C2 n kr l a b c = some (if c = false ∨ (b < 1 ∨ b > 4) then ([], 0, 29, ()) else if (expB l a).2.1 = 0 then metsF b l 0 [] else ([], (expB l a).1, (expB l a).2.1, ())) := by
  have h5 := mets_c5 n hn l hok a b (fun x y z k => kr x y z k) hr
  unfold F.trans_Metrics.C2
  by_cases h1 : b < 1
  · rw [bif_pos h1, if_pos (Or.inr (Or.inl h1))]
    cases c <;> exact hr _ _ _ _
  rw [bif_neg h1]
  by_cases h2 : b > 4
  · rw [bif_pos (by omega), if_pos (Or.inr (Or.inr h2))]
    cases c <;> exact hr _ _ _ _
  rw [bif_neg (by omega), beq_eq_false_iff_ne.2 (by omega : b ≠ 0), cond_false]
  cases c
  · rw [if_pos (Or.inl rfl)]
    rcases (by omega : b = 1 ∨ b = 2 ∨ b = 3 ∨ b = 4) with rfl | rfl | rfl | rfl <;> exact hr _ _ _ _
  · rw [if_neg (by rintro (h | h | h) <;> first | cases h | omega)]
    rcases (by omega : b = 1 ∨ b = 2 ∨ b = 3 ∨ b = 4) with rfl | rfl | rfl | rfl <;> exact h5
theorem metrics_eq (n : Nat) (hn : 200000 ≤ n) (l : List MetL) (hok : BatOK l) (a b : Int) : F.trans_Metrics n l a b = some (metsT l a b) := by
  have h2 := fun c => mets_c2 n hn l hok a b (fun x y z k => some (x, y, z, ())) (fun _ _ _ _ => rfl) c
  unfold F.trans_Metrics metsT
  by_cases h1 : a < 1
  · rw [bif_pos h1, if_pos (Or.inl (Or.inl h1)), h2, if_pos (Or.inl rfl)]
  rw [bif_neg h1]
  by_cases h3 : a > 4
  · rw [bif_pos (by omega), if_pos (Or.inl (Or.inr h3)), h2, if_pos (Or.inl rfl)]
  rw [bif_neg (by omega), beq_eq_false_iff_ne.2 (by omega : a ≠ 0), cond_false, h2]
  have e : ((true : Bool) = false ∨ (b < 1 ∨ b > 4)) ↔ ((a < 1 ∨ a > 4) ∨ (b < 1 ∨ b > 4)) := ⟨fun h => h.elim (fun h => by cases h) Or.inr, fun h => h.elim (fun h => by omega) Or.inr⟩
  simp only [e]
  rcases (by omega : a = 1 ∨ a = 2 ∨ a = 3 ∨ a = 4) with rfl | rfl | rfl | rfl <;> rfl
theorem is23_eq (n : Nat) (f : Int) : F.ref23_Is n f = some (decide (¬(f < 1 ∨ f > 4))) := by
  unfold F.ref23_Is
  by_cases h : f ≥ 1
  · rw [bif_pos h]
    congr 1
    apply decide_eq_decide.2
    omega
  · rw [bif_neg h, decide_eq_false (by omega)]
theorem metrics_ref (n : Nat) (hn : 200000 ≤ n) (l : List MetL) (hok : BatOK l) (a b : Int) : F.ref23_Metrics n l a b = some (metsT l a b) := by
  unfold F.ref23_Metrics metsT
  rw [is23_eq, is23_eq, some_bind', some_bind']
  by_cases h1 : a < 1 ∨ a > 4
  · rw [decide_eq_false (by omega), if_pos (Or.inl h1)]; rfl
  rw [decide_eq_true h1, Bool.not_true, cond_false]
  by_cases h2 : b < 1 ∨ b > 4
  · rw [decide_eq_false (by omega), if_pos (Or.inr h2)]; rfl
  rw [decide_eq_true h2, Bool.not_true, cond_false, if_neg (by omega), expB_ref n hn l hok, some_bind']
  by_cases h : (expB l a).2.1 = 0
  · have hl := expB_len h
    rw [if_pos h, h, beq_self_eq_true, Bool.not_true, cond_false]
    exact mets_loop n hn b l hl hok (fun x => F.ref09_Cut n (x.1, x.2.1, x.2.2.1, x.2.2.2.1, x.2.2.2.2.1, x.2.2.2.2.2, ()) b) (fun x hx => cut_ref n hn (opM x) (hok x hx) b) _ _ (fun v k => rfl) (fun _ _ _ _ => rfl) (fun m v i k => F.ref23_Metrics.L8 n _ _ m l b v i k) (fun _ _ _ _ => rfl) l 0 n [] rfl (by simp) (by omega)
  · rw [if_neg h, beq_eq_false_iff_ne.2 h, Bool.not_false, cond_true]
def awM : MetL := ([97], 1, [(false, 1, 0)], 1000000, [], 0)
theorem awM_ok : BatOK [awM] := fun m hm => by
  rw [List.mem_singleton.1 hm]
  exact ⟨by decide, ⟨by decide, fun d hd => by rw [List.mem_singleton.1 hd]; exact ⟨trivial, by decide, by decide⟩⟩, by decide, fun t ht => by cases ht⟩
theorem awE1 : F.trans_Encode 400000 [awM] 1 = some ([97, 58, 49, 124, 99, 10], 0, 0, ()) := by
  have hN : normB [awM] = ([awM], 0, 0, ()) := by kernel_rfl
  have hX : expB [awM] 1 = (0, 0, ()) := by kernel_rfl
  have hE : encB [awM] 1 = ([97, 58, 49, 124, 99, 10], 0, 0, ()) := by kernel_rfl
  unfold F.trans_Encode
  rw [batNormal_eq 400000 (by omega) [awM] awM_ok, hN]
  simp only [some_bind']
  rw [textEncode_eq 400000 (by omega) [awM] awM_ok 1, hE, expB_eq 400000 (by omega) [awM] awM_ok 1, hX]
  rfl
theorem awE2 : F.trans_Encode 400000 [awM] 2 = some ([97, 58, 49, 124, 99, 10], 0, 0, ()) := by
  have hN : normB [awM] = ([awM], 0, 0, ()) := by kernel_rfl
  have hX : expB [awM] 2 = (0, 0, ()) := by kernel_rfl
  have hE : encB [awM] 2 = ([97, 58, 49, 124, 99, 10], 0, 0, ()) := by kernel_rfl
  unfold F.trans_Encode
  rw [batNormal_eq 400000 (by omega) [awM] awM_ok, hN]
  simp only [some_bind']
  rw [textEncode_eq 400000 (by omega) [awM] awM_ok 2, hE, expB_eq 400000 (by omega) [awM] awM_ok 2, hX]
  rfl
theorem awake23 : F.law23_awake 400000 = some true := by
  have hD : F.trans_Decode 400000 [97, 58, 48, 49, 124, 99, 10] 1 = some ([awM], (0, 0, ()), ()) := by kernel_rfl
  have hM2 := metrics_eq 400000 (by omega) [awM] awM_ok 1 2
  have hM3 := metrics_eq 400000 (by omega) [awM] awM_ok 1 3
  have e2 : metsT [awM] 1 2 = ([awM], 0, 0, ()) := by kernel_rfl
  have e3 : metsT [awM] 1 3 = ([], 0, 26, ()) := by kernel_rfl
  rw [e2] at hM2
  rw [e3] at hM3
  have hC : F.trans_Canon 400000 [97, 58, 48, 49, 124, 99, 10] 1 = some ([97, 58, 49, 124, 99, 10], (0, 0, ()), ()) := by
    unfold F.trans_Canon
    rw [hD]
    simp only [some_bind']
    rw [awE1]
    rfl
  have hB2 : F.trans_Bytes 400000 [97, 58, 48, 49, 124, 99, 10] 1 2 = some ([97, 58, 49, 124, 99, 10], 0, (0, 0, ()), ()) := by
    unfold F.trans_Bytes
    rw [hD]
    simp only [some_bind']
    rw [hM2]
    simp only [some_bind']
    rw [awE2]
    rfl
  have hB3 : F.trans_Bytes 400000 [97, 58, 48, 49, 124, 99, 10] 1 3 = some ([], 0, (26, 0, ()), ()) := by
    unfold F.trans_Bytes
    rw [hD]
    simp only [some_bind']
    rw [hM3]
    rfl
  have e : ([UInt8.ofNat ((97 : Int)).toNat, UInt8.ofNat ((58 : Int)).toNat, UInt8.ofNat ((48 : Int)).toNat, UInt8.ofNat ((49 : Int)).toNat, UInt8.ofNat ((124 : Int)).toNat, UInt8.ofNat ((99 : Int)).toNat, UInt8.ofNat ((10 : Int)).toNat] : List UInt8) = [97, 58, 48, 49, 124, 99, 10] := by kernel_rfl
  unfold F.law23_awake
  rw [e, hC, hB2, hB3]
  rfl
theorem trans_metrics (n : Nat) (hn : 400000 ≤ n) (hA : F.law23_awake n = some true) (l : List MetL) (hw : ∀ m ∈ l, MetWf (opM m)) (hs : ∀ m ∈ l, m.2.2.2.2.1.length ≤ 140737488351232) (a b : Int) : F.law23_TransMetrics n l a b = some true := by
  unfold F.law23_TransMetrics
  rw [few13_eq n (by omega) l hs, some_bind', hA]
  cases h : fewB l
  · rfl
  · obtain ⟨hok, h40⟩ := few13_ok hw h
    obtain ⟨h1, h2⟩ := metsT_small l a b
    rw [Bool.not_true, cond_false, metrics_eq n (by omega) l hok, metrics_ref n (by omega) l hok, some_bind', some_bind', requal_refl n (by omega) _ h1 h2, some_bind']
    simp only [beq_self_eq_true, cond_true]
    rfl
end Go.AM
namespace Go.Proofs.YtjnmlfffiibeiaaGreatDoor.transMetrics
open Go.ChangeShapes Go.WideShapes Go.ChangeAt Go.RowKit Go.AM
theorem j1 : laidOutB Tryz.prog = true := by kernel_rfl
theorem own : ownKnob Tryz.prog.godebug = none := by kernel_rfl
theorem goes : LawGoes Tryz.prog SI 3 [(.sl (.agg [.str, (.int .i64), (.sl (.agg [.bool, (.int .u64), (.int .i64)])), (.int .i64), (.sl (.agg [.str, .str])), (.int .i64)])), (.int .i64), (.int .i64)] := fun x hx w vals hI hr =>
  ok3 _ (x.1, x.2.1, x.2.2.1, ()) true (trans_metrics 400000 (by omega) awake23 x.1 (fun m hm => (hx.1.2 m hm).2.2.1.2) (fun m hm => (hx.1.2 m hm).2.2.2.2.1.1) x.2.1 x.2.2.1) w (AllD w) vals (WOf.of hI) hr (fun b o h => h)
noncomputable def laidWorld (os : Os) : World := laidOf Tryz.prog os [layTab 4 Rows.laid_math_bits_deBruijn32tab, layTab 5 Rows.laid_math_bits_deBruijn64tab, layTab 1 Rows.laid_internal_strconv_uint64pow10, layTab 3 Rows.laid_unicode_utf8_acceptRanges, layErr 7 385 387 Rows.laid_strconv_ErrRange, layErr 6 385 387 Rows.laid_strconv_ErrSyntax, layTab 2 Rows.laid_unicode_utf8_first]
theorem laid_met (os : Os) (args : Array Value) : laidMet Tryz.prog Rows.transMetricsRow.laid ((laidWorld os).forCall (fun _ _ => 0) ⟨#[], args, []⟩).memory :=
  (LaidIn.of_run [4, 5, 1, 3, 7, 6, 2, (World.holding Tryz.prog os ⟨#[], #[], []⟩).heap.size, (World.holding Tryz.prog os ⟨#[], #[], []⟩).heap.size + 1] 8 (by kernel_rfl) (by kernel_rfl) (by kernel_rfl) (by kernel_rfl)).met
theorem witness_row (os : Os) {H : Type} (enc : TypeId × Value → H) :
    (OpenSpec.ofChange Rows.transMetricsSpec).preRow enc Tryz.prog Tryz.f3 Rows.transMetricsRow.domain false Rows.transMetricsRow.laid ((laidWorld os).forCall (fun _ _ => 0) ⟨#[], #[.slice none 0 0, .int .i64 0, .int .i64 0], []⟩).memory #[.slice none 0 0, .int .i64 0, .int .i64 0] := by
  have hw : (DataW.whole enc Tryz.prog ((laidWorld os).forCall (fun _ _ => 0) ⟨#[], #[.slice none 0 0, .int .i64 0, .int .i64 0], []⟩).memory Tryz.f3.params.toList Rows.transMetricsSpec.vars false (#[.slice none 0 0, .int .i64 0, .int .i64 0] : Array Value).toList 8).map (fun x => (x.1, x.2.1)) =
      some ([.nil, .lit (.int .i64 0), .lit (.int .i64 0)], []) := by kernel_rfl
  obtain ⟨⟨x1, x2, x3⟩, hx, hx1⟩ := Option.map_eq_some_iff.1 hw
  simp only [Prod.mk.injEq] at hx1
  obtain ⟨rfl, rfl⟩ := hx1
  exact OpenSpec.preRow_of_cond 8 hx (by kernel_rfl) (fun k hk => by cases hk) (by kernel_rfl) (laid_met os _)
set_option maxRecDepth 100000 in
theorem lifted (os : Os) (started : os.Started) (H : Type) (enc : TypeId × Value → H) (F : Stop.Interp) :
    ReturnsInHanded {} Tryz.checked os 3 .any ((OpenSpec.ofChange Rows.transMetricsSpec).preRow enc Tryz.prog Tryz.f3 Rows.transMetricsRow.domain false Rows.transMetricsRow.laid) (((OpenSpec.ofChange Rows.transMetricsSpec).at F).post enc Tryz.prog Tryz.f3 false true false false) := by
  refine returnsInHanded_of_row (C := Tryz.checked) (s := OpenSpec.ofChange Rows.transMetricsSpec) own started (by kernel_rfl) Tryz.func3
    (witness_row_atRef (enc := enc) (C := Tryz.checked) false (laidWorld os) #[.slice none 0 0, .int .i64 0, .int .i64 0] rfl (by kernel_rfl) (by kernel_rfl) (by kernel_rfl) (witness_row os enc)) ?_
  intro W base args ds gs before hval hW _ _ hw hL hO _
  exact law_calls (s := Rows.transMetricsSpec) (n := 8) j1 Tryz.func3 (by kernel_rfl) (by decide) (by kernel_rfl) rfl Tryz.underlying4 rfl (fun ds h => by match ds, h with | [_, _, _], _ => rfl) goes hval hW hw ⟨hL, hO⟩
theorem j2 : mapsRowed Tryz.prog = true := by kernel_rfl
theorem j3 : (Rows.transMetricsRow.inPlace == Tryz.prog.inPlace 3) = true := by kernel_rfl
theorem j4 : (Rows.transMetricsRow.unfollowed == Tryz.prog.unfollowed 3) = true := by kernel_rfl
theorem j5 : (Rows.transMetricsRow.recurses == Tryz.prog.recurses 3) = true := by kernel_rfl
theorem j6 : (Rows.transMetricsRow.named == Tryz.prog.varsNamed 3) = true := by kernel_rfl
theorem joined : joinedFacts Tryz.prog 3 Tryz.f3 (OpenSpec.ofChange Rows.transMetricsSpec).bare Rows.transMetricsRow = true := by
  simp only [joinedFacts, Bool.and_eq_true]
  repeat' apply And.intro
  · kernel_rfl
  · exact j1
  · exact j2
  · kernel_rfl
  · kernel_rfl
  · kernel_rfl
  · kernel_rfl
  · kernel_rfl
  · kernel_rfl
  · exact j3
  · exact j4
  · exact j5
  · exact j6
  all_goals kernel_rfl
theorem said : Rows.TransMetricsSaid :=
  OpenClaim.holds_of_cond 3 Tryz.f3 rfl rfl rfl rfl rfl rfl rfl ⟨rfl, rfl, rfl, rfl, rfl⟩ rfl rfl rfl rfl rfl (by kernel_rfl) Tryz.func3 joined
    (of_decide_eq_true (by kernel_rfl)) (by unfold Func.isWrapper; first | (rw [if_pos (by decide +kernel)]; kernel_rfl) | (rw [if_neg (by decide +kernel)]; exact ⟨rfl, rfl⟩))
    (fun os started H enc _ F => by rw [OpenClaim.pre_eq_preRow]; exact lifted os started H enc F)
end Go.Proofs.YtjnmlfffiibeiaaGreatDoor.transMetrics
