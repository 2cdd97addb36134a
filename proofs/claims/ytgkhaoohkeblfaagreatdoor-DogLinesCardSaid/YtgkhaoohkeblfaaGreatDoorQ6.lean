/- DogLines: a metric's line in Dog is the document's line of its one form, for every metric that is not too great. -/
import Derived.Test.YtgkhaoohkeblfaaGreatDoorQ5
import Derived.KernelRfl
import Derived.Test.YtgkhaoohkeblfaaGreatDoorCards
import Derived.Test.YtgkhaoohkeblfaaGreatDoorTie
import Derived.OpenShut
set_option linter.unusedVariables false
set_option linter.unusedSimpArgs false
namespace Go.AM
theorem ahead_end (n : Nat) (X : Type) (k0 : List UInt8 → List UInt8 → Option X) (kr : Bool → Option X) (a b : List UInt8) (k m : Nat) (h : a.length ≤ k ∨ b.length ≤ k) (hm : 0 < m) : F.ref06_Ahead.L2 n k0 kr m a b (k : Int) = k0 a b := by
  obtain ⟨m, rfl⟩ : ∃ p, m = p + 1 := ⟨m - 1, by omega⟩
  show F.ref06_Ahead.L2.step n (F.ref06_Ahead.L2 n k0 kr m) k0 kr _ _ _ = _
  unfold F.ref06_Ahead.L2.step
  by_cases hk : (k : Int) < (a.length : Int)
  · rw [bif_pos hk, bif_neg (by omega)]
  · rw [bif_neg hk]
theorem ahead_eq (n : Nat) (a b : List UInt8) (ha : a.length ≤ 1000000) (hb : b.length ≤ 1000000) (hn : a.length < n) : F.ref06_Ahead n a b = some (Op.bytesLess a b) := by
  have L : ∀ (r q : List UInt8) (k m : Nat), a.drop k = r → b.drop k = q → k ≤ a.length → k ≤ b.length → r.length < m →
      F.ref06_Ahead.L2 n (fun e5_0 e5_1 => some (decide ((e5_0.length : Int) < (e5_1.length : Int)))) (fun e6_4 => some (e6_4)) m a b (k : Int) = some (Op.bytesLess r q) := by
    intro r
    induction r with
    | nil =>
      intro q k m h1 h2 ka kb hm
      have l1 := drop_nil' h1
      rw [ahead_end n Bool _ _ a b k m (Or.inl l1) (by omega)]
      cases q with
      | nil =>
        have l2 := drop_nil' h2
        show some (decide _) = some false
        by_cases hk : a.length < b.length
        · omega
        · rw [decide_eq_false (by omega)]
      | cons y q =>
        obtain ⟨l2, _, _⟩ := drop_cons h2
        show some (decide _) = some true
        rw [decide_eq_true (by omega)]
    | cons x r ih =>
      intro q k m h1 h2 ka kb hm
      obtain ⟨l1, g1, t1⟩ := drop_cons h1
      cases q with
      | nil =>
        have l2 := drop_nil' h2
        rw [ahead_end n Bool _ _ a b k m (Or.inr l2) (by omega)]
        show some (decide _) = some false
        rw [decide_eq_false (by omega)]
      | cons y q =>
        obtain ⟨l2, g2, t2⟩ := drop_cons h2
        obtain ⟨m, rfl⟩ : ∃ p, m = p + 1 := ⟨m - 1, by simp at hm; omega⟩
        rw [F.ref06_Ahead.L2]
        unfold F.ref06_Ahead.L2.step
        dsimp only
        rw [bif_pos (by omega), bif_pos (by omega), idx_nat, idx_nat, g1, g2]
        simp only [some_bind', blc]
        by_cases e : x = y
        · subst e
          rw [beq_self_eq_true, Bool.not_true, cond_false, wrap_succ (by omega), ih q (k + 1) m t1 t2 (by omega) (by omega) (by simp at hm; omega)]
          have hx : ¬ x < x := by rw [u8_lt]; omega
          rw [decide_eq_false hx]; simp
        · have e' : ¬ ((x.toNat : Int)) = (y.toNat : Int) := fun h => e (u8_eq.2 (by omega))
          rw [beq_eq_false_iff_ne.2 e', Bool.not_false, cond_true, beq_eq_false_iff_ne.2 e]
          simp only [Bool.false_and, Bool.or_false, Option.some.injEq]
          apply decide_eq_decide.2
          rw [u8_lt]; omega
  unfold F.ref06_Ahead
  exact L a b 0 n rfl rfl (by omega) (by omega) hn
theorem less_eq (n : Nat) (a b : TagL) (ha : TagLOK a) (hb : TagLOK b) (hn : 200000 ≤ n) : F.ref06_Less n (a.1, a.2, ()) (b.1, b.2, ()) = some (ltT a b) := by
  unfold F.ref06_Less ltT
  simp only
  rw [ahead_eq n a.1 b.1 (by have := ha.1; omega) (by have := hb.1; omega) (by have := ha.1; omega), ahead_eq n a.2 b.2 (by have := ha.2; omega) (by have := hb.2; omega) (by have := ha.2; omega)]
  simp only [some_bind']
  by_cases e : a.1 = b.1
  · rw [if_pos e, e, bl_irrefl, beq_self_eq_true]; rfl
  · rw [if_neg e, beq_eq_false_iff_ne.2 e]
    cases Op.bytesLess a.1 b.1 <;> rfl
def insD (t : TagL) : List TagL → List TagL
  | [] => [t]
  | x :: r => if ltT x t then x :: insD t r else if x = t then x :: r else t :: x :: r
def normT (l : List TagL) : List TagL := l.foldl (fun o t => insD t o) []
abbrev StrictT (l : List TagL) : Prop := l.Pairwise fun a b => ltT a b = true
theorem insD_mem (t : TagL) : ∀ (l : List TagL) (x : TagL), x ∈ insD t l ↔ x = t ∨ x ∈ l
  | [], x => by simp [insD]
  | y :: r, x => by
    unfold insD
    split
    · simp only [List.mem_cons, insD_mem t r x]
      constructor
      · rintro (h | h | h) <;> simp [h]
      · rintro (h | h | h) <;> simp [h]
    · split
      · rename_i e
        subst e
        simp only [List.mem_cons]
        constructor
        · rintro (h | h) <;> simp [h]
        · rintro (h | h | h) <;> simp [h]
      · simp only [List.mem_cons]
theorem insD_strict (t : TagL) : ∀ (l : List TagL), StrictT l → StrictT (insD t l)
  | [], _ => by simp [insD, StrictT]
  | y :: r, h => by
    obtain ⟨h1, h2⟩ := List.pairwise_cons.1 h
    unfold insD
    split
    · rename_i hy
      refine List.pairwise_cons.2 ⟨fun x hx => ?_, insD_strict t r h2⟩
      rcases (insD_mem t r x).1 hx with rfl | hx
      · exact hy
      · exact h1 x hx
    · rename_i hy
      split
      · exact h
      · rename_i hne
        have hty : ltT t y = true := by
          cases hc : ltT t y
          · exact absurd (ltT_total (by simpa using hy) hc) hne
          · rfl
        refine List.pairwise_cons.2 ⟨fun x hx => ?_, h⟩
        rcases List.mem_cons.1 hx with rfl | hx
        · exact hty
        · exact ltT_trans hty (h1 x hx)
theorem strict_unique : ∀ (a b : List TagL), StrictT a → StrictT b → (∀ x, x ∈ a ↔ x ∈ b) → a = b
  | [], [], _, _, _ => rfl
  | [], y :: b, _, _, h => by have := (h y).2 (by simp); cases this
  | x :: a, [], _, _, h => by have := (h x).1 (by simp); cases this
  | x :: a, y :: b, ha, hb, h => by
    obtain ⟨h1, h2⟩ := List.pairwise_cons.1 ha
    obtain ⟨h3, h4⟩ := List.pairwise_cons.1 hb
    have e : x = y := by
      rcases List.mem_cons.1 ((h x).1 (by simp)) with e | e
      · exact e
      · rcases List.mem_cons.1 ((h y).2 (by simp)) with e' | e'
        · exact e'.symm
        · have := ltT_asymm (h1 y e'); rw [h3 x e] at this; cases this
    subst e
    rw [strict_unique a b h2 h4 (fun z => ?_)]
    have hx := h z
    simp only [List.mem_cons] at hx
    constructor
    · intro hz
      rcases hx.1 (Or.inr hz) with rfl | h'
      · have := h1 _ hz; rw [ltT_irrefl] at this; cases this
      · exact h'
    · intro hz
      rcases hx.2 (Or.inr hz) with rfl | h'
      · have := h3 _ hz; rw [ltT_irrefl] at this; cases this
      · exact h'
theorem normT_fold : ∀ (l o : List TagL), StrictT o → StrictT (l.foldl (fun o t => insD t o) o) ∧ ∀ x, x ∈ l.foldl (fun o t => insD t o) o ↔ x ∈ o ∨ x ∈ l
  | [], o, h => ⟨h, fun x => by simp⟩
  | t :: l, o, h => by
    obtain ⟨h1, h2⟩ := normT_fold l (insD t o) (insD_strict t o h)
    refine ⟨h1, fun x => ?_⟩
    rw [List.foldl_cons, h2 x, insD_mem, List.mem_cons]
    constructor
    · rintro ((h | h) | h) <;> simp [h]
    · rintro (h | h | h) <;> simp [h]
theorem normT_strict (l : List TagL) : StrictT (normT l) := (normT_fold l [] List.Pairwise.nil).1
theorem normT_mem (l : List TagL) (x : TagL) : x ∈ normT l ↔ x ∈ l := by
  unfold normT; rw [(normT_fold l [] List.Pairwise.nil).2 x]; simp
theorem normT_id {l : List TagL} (h : StrictT l) : normT l = l :=
  strict_unique _ _ (normT_strict l) h (fun x => normT_mem l x)
theorem insD_len (t : TagL) : ∀ l, (insD t l).length ≤ l.length + 1
  | [] => by simp [insD]
  | y :: r => by
    unfold insD
    have := insD_len t r
    split
    · simp; omega
    · split <;> simp
theorem normT_len (l : List TagL) : (normT l).length ≤ l.length := by
  have : ∀ (l o : List TagL), (l.foldl (fun o t => insD t o) o).length ≤ o.length + l.length := by
    intro l
    induction l with
    | nil => intro o; simp
    | cons t l ih => intro o; have h1 := ih (insD t o); have h2 := insD_len t o; simp only [List.foldl_cons, List.length_cons]; omega
  have h := this l []
  simp only [List.length_nil, Nat.zero_add] at h
  exact h
def dedF (D : List TagL) (t : TagL) : List TagL := if D.getLast? = some t then D else D ++ [t]
theorem dedF_fold : ∀ (s D : List TagL), SortedT s → StrictT D → (∀ a ∈ D, ∀ b ∈ s, ltT b a = false) → StrictT (s.foldl dedF D) ∧ ∀ x, x ∈ s.foldl dedF D ↔ x ∈ D ∨ x ∈ s
  | [], D, _, h, _ => ⟨h, fun x => by simp⟩
  | t :: s, D, hs, hD, hb => by
    obtain ⟨h1, h2⟩ := List.pairwise_cons.1 hs
    have key : StrictT (dedF D t) ∧ (∀ x, x ∈ dedF D t ↔ x ∈ D ∨ x = t) := by
      unfold dedF
      split
      · rename_i e
        have ht : t ∈ D := List.mem_of_getLast? e
        exact ⟨hD, fun x => ⟨Or.inl, fun h => h.elim id (fun e => e ▸ ht)⟩⟩
      · rename_i e
        refine ⟨?_, fun x => by simp⟩
        refine List.pairwise_append.2 ⟨hD, List.pairwise_singleton _ _, fun a ha b hb' => ?_⟩
        rw [List.mem_singleton.1 hb']
        have h0 := hb a ha t (by simp)
        cases hc : ltT a t
        · exfalso
          have : a = t := ltT_total hc h0
          subst this
          apply e
          have : ∀ (D : List TagL), StrictT D → (∀ x ∈ D, ltT a x = false) → a ∈ D → D.getLast? = some a := by
            intro D
            induction D with
            | nil => intro _ _ h; cases h
            | cons y D ih =>
              intro hp hm hin
              obtain ⟨p1, p2⟩ := List.pairwise_cons.1 hp
              cases D with
              | nil => rcases List.mem_cons.1 hin with rfl | h
                       · rfl
                       · cases h
              | cons z D =>
                rw [List.getLast?_cons_cons]
                refine ih p2 (fun x hx => hm x (List.mem_cons_of_mem _ hx)) ?_
                rcases List.mem_cons.1 hin with rfl | h
                · have := p1 z (by simp); rw [hm z (by simp)] at this; cases this
                · exact h
          exact this D hD (fun x hx => hb x hx a (by simp)) ha
        · rfl
    obtain ⟨k1, k2⟩ := key
    obtain ⟨f1, f2⟩ := dedF_fold s (dedF D t) h2 k1 (fun a ha b hb' => by
      rcases (k2 a).1 ha with ha | rfl
      · exact hb a ha b (List.mem_cons_of_mem _ hb')
      · exact h1 b hb')
    refine ⟨f1, fun x => ?_⟩
    rw [List.foldl_cons, f2 x, k2 x, List.mem_cons]
    constructor
    · rintro ((h | h) | h) <;> simp [h]
    · rintro (h | h | h) <;> simp [h]
theorem ded_norm (l : List TagL) : (sortTags l).foldl dedF [] = normT l := by
  obtain ⟨h1, h2⟩ := dedF_fold (sortTags l) [] (sortTags_sorted l) List.Pairwise.nil (fun a ha => by cases ha)
  refine strict_unique _ _ h1 (normT_strict l) (fun x => ?_)
  rw [h2 x, normT_mem, (sortTags_perm l).mem_iff]; simp
theorem upd_set {α : Type} : ∀ (l : List α) (k : Nat) (x : α), upd l k x = l.set k x
  | [], _, _ => rfl
  | _ :: l, 0, _ => rfl
  | _ :: l, k + 1, x => by simp [upd, upd_set l k x]
end Go.AM
set_option linter.unusedVariables false
set_option linter.unusedSimpArgs false
namespace Go.AM
theorem getLast_take {α : Type} {L D : List α} {k : Nat} (h : L.take D.length = D) (hk : D.length = k + 1) : L[k]? = D.getLast? := by
  rw [List.getLast?_eq_getElem?]
  have : D[D.length - 1]? = (L.take D.length)[D.length - 1]? := by rw [h]
  rw [this, hk, List.getElem?_take]
  simp
theorem take_set {α : Type} {L D : List α} (x : α) (h : L.take D.length = D) (hk : D.length < L.length) : (L.set D.length x).take (D ++ [x]).length = D ++ [x] := by
  rw [List.length_append, List.length_singleton, List.take_add_one, List.take_set_of_le (Nat.le_refl _), h]
  simp [hk]
theorem drop_set {α : Type} (L : List α) (i k : Nat) (x : α) (h : i ≤ k) : (L.set i x).drop (k + 1) = L.drop (k + 1) := List.drop_set_of_lt (by omega)
theorem norm_loop (n : Nat) (X : Type) (k0 : (Nat × Nat) → Int → (Nat × List TagL) → (Nat × List TagL) → (Nat × List TagL) → Option X) (v N : Nat) (hN : N ≤ 100000) (b0 b1 : Nat × List TagL) :
    ∀ (r D L : List TagL) (i m : Nat), L.drop i = r → i ≤ N → r.length < m → D.length ≤ i → (i = 0 ↔ D = []) → L.length = N → L.take D.length = D →
    ∃ L', L'.take (r.foldl dedF D).length = r.foldl dedF D ∧ L'.length = N ∧ F.tag_Normal.L5 n k0 m (v, N) (D.length : Int) (v, N) (N : Int) (i : Int) b0 b1 (v, L) = k0 (v, N) ((r.foldl dedF D).length : Int) b0 b1 (v, L') := by
  intro r
  induction r with
  | nil =>
    intro D L i m hr hi hm hD h0 hL hT
    obtain ⟨m, rfl⟩ : ∃ p, m = p + 1 := ⟨m - 1, by omega⟩
    refine ⟨L, hT, hL, ?_⟩
    rw [F.tag_Normal.L5]
    unfold F.tag_Normal.L5.step
    dsimp only
    rw [bif_neg (by have := drop_nil' hr; omega)]
    rfl
  | cons x r ih =>
    intro D L i m hr hi hm hD h0 hL hT
    obtain ⟨m, rfl⟩ : ∃ p, m = p + 1 := ⟨m - 1, by simp at hm; omega⟩
    obtain ⟨l1, g1, t1⟩ := drop_cons hr
    have hw : IntKind.wrap .i64 ((D.length : Int) + 1) = ((D.length + 1 : Nat) : Int) := wrap_succ (by omega)
    have hput : ∃ L', L'.take (r.foldl dedF (D ++ [x])).length = r.foldl dedF (D ++ [x]) ∧ L'.length = N ∧ F.tag_Normal.L5 n k0 m (v, N) (((D ++ [x]).length : Nat) : Int) (v, N) (N : Int) ((i + 1 : Nat) : Int) b0 b1 (v, L.set D.length x) = k0 (v, N) ((r.foldl dedF (D ++ [x])).length : Int) b0 b1 (v, L') :=
      ih (D ++ [x]) (L.set D.length x) (i + 1) m (by rw [drop_set L D.length i x hD]; exact t1) (by omega) (by simp at hm; omega) (by simp; omega) (by simp) (by simpa using hL) (take_set x hT (by omega))
    rw [F.tag_Normal.L5]
    unfold F.tag_Normal.L5.step
    dsimp only
    rw [List.foldl_cons]
    have hb1 : (decide ((0 : Int) ≤ (i : Int)) && decide ((i : Int) < (N : Int))) = true := by simp; omega
    have hb2 : (decide ((0 : Int) ≤ (D.length : Int)) && decide ((D.length : Int) < (N : Int))) = true := by simp; omega
    have hbe : Nat.beq v v = true := Nat.beq_refl v
    rw [bif_pos (by omega : (i : Int) < (N : Int)), hb1, hbe, cond_true, cond_true, idx_nat, g1, some_bind', wrap_succ (by omega : i < 4611686018427387904)]
    by_cases hi0 : i = 0
    · have hD0 := h0.1 hi0
      have e0 : ((i : Int) == 0) = true := by simp [hi0]
      rw [e0, cond_true, hb2, cond_true, cond_true, idx_lt (by omega : D.length < L.length), some_bind', hw, Int.toNat_natCast, upd_set]
      have hd : dedF D x = D ++ [x] := by rw [hD0]; rfl
      rw [hd]
      obtain ⟨L', q1, q2, q3⟩ := hput
      refine ⟨L', q1, q2, ?_⟩
      rw [← q3, List.length_append, List.length_singleton]
    · have e0 : ((i : Int) == 0) = false := by simpa using hi0
      have hne : D ≠ [] := fun h => hi0 (h0.2 h)
      have hpos : 0 < D.length := List.length_pos_iff.2 hne
      have hwp : IntKind.wrap .i64 ((D.length : Int) - 1) = ((D.length - 1 : Nat) : Int) := by rw [wrap_in (by omega)]; omega
      have hb3 : (decide ((0 : Int) ≤ ((D.length - 1 : Nat) : Int)) && decide (((D.length - 1 : Nat) : Int) < (N : Int))) = true := by simp; omega
      obtain ⟨y, hy⟩ : ∃ y, D.getLast? = some y := ⟨_, List.getLast?_eq_some_getLast hne⟩
      have gl : L[D.length - 1]? = some y := by rw [getLast_take hT (by omega), hy]
      rw [e0, cond_false, hwp, hb3, cond_true, cond_true, idx_nat, gl, some_bind', tagL_beq]
      by_cases hxy : x = y
      · rw [decide_eq_true hxy, Bool.not_true, cond_false]
        have hd : dedF D x = D := by unfold dedF; rw [hy, hxy, if_pos rfl]
        rw [hd]
        exact ih D L (i + 1) m t1 (by omega) (by simp at hm; omega) (by omega) (by simp [hne]) hL hT
      · rw [decide_eq_false hxy, Bool.not_false, cond_true, hb2, cond_true, cond_true, idx_lt (by omega : D.length < L.length), some_bind', hw, Int.toNat_natCast, upd_set]
        have hd : dedF D x = D ++ [x] := by unfold dedF; rw [hy, if_neg (by simpa using fun h : y = x => hxy h.symm)]
        rw [hd]
        obtain ⟨L', q1, q2, q3⟩ := hput
        refine ⟨L', q1, q2, ?_⟩
        rw [← q3, List.length_append, List.length_singleton]
theorem clip_eq (n : Nat) (l : List TagL) : F.slices_Clip_api_Tag_api_Tag n l = some l := by
  unfold F.slices_Clip_api_Tag_api_Tag
  rw [beq_self_eq_true, cond_true, show (0 : Int) = ((0 : Nat) : Int) from rfl, sub_nat l 0 l.length (by omega) (by omega)]
  simp
theorem norm_out (n : Nat) (hn : 200000 ≤ n) (l : List TagL) (hl : l.length ≤ 100000) (v : Nat) (b0 b1 : Nat × List TagL) :
    F.tag_Normal.L5 n (fun (e11_3 : Nat × Nat) (e11_4 : Int) (e11_b0_0 e11_b1_0 e11_b2_0 : Nat × List TagL) =>
          bif Nat.beq e11_3.1 e11_b2_0.1 then
            (sub e11_b2_0.2 (0 : Int) e11_4).bind fun x12 =>
              (F.slices_Clip_api_Tag_api_Tag n x12).bind fun y13 =>
                some (y13)
          else
            none) n (v, l.length) (0 : Int) (v, l.length) (l.length : Int) (0 : Int) b0 b1 (v, sortTags l) = some (normT l) := by
  obtain ⟨L', q1, q2, q3⟩ := norm_loop n _ (fun (e11_3 : Nat × Nat) (e11_4 : Int) (e11_b0_0 e11_b1_0 e11_b2_0 : Nat × List TagL) =>
          bif Nat.beq e11_3.1 e11_b2_0.1 then
            (sub e11_b2_0.2 (0 : Int) e11_4).bind fun x12 =>
              (F.slices_Clip_api_Tag_api_Tag n x12).bind fun y13 =>
                some (y13)
          else
            none) v l.length hl b0 b1 (sortTags l) [] (sortTags l) 0 n rfl (by omega) (by rw [sortTags_length]; omega) (by simp) (by simp) (sortTags_length l) rfl
  refine q3.trans ?_
  rw [ded_norm] at q1 ⊢
  dsimp only
  rw [Nat.beq_refl, cond_true, show (0 : Int) = ((0 : Nat) : Int) from rfl, sub_nat L' 0 _ (by omega) (by rw [q2]; exact normT_len l), q1]
  simp only [some_bind', List.drop_zero, clip_eq]
theorem tagNormal_eq (n : Nat) (hn : 200000 ≤ n) (l : List TagL) (hl : l.length ≤ 100000) : F.tag_Normal n l = some (normT l) := by
  have e1 : (decide ((0 + l.length) * 32 ≤ 2 ^ 46) && decide (0 < 32 ∧ 32 ≤ 2 ^ 20)) = true := by
    rw [decide_eq_true (by omega)]; rfl
  have e2 : ∀ l : List TagL, l.length ≤ 100000 → (Nat.beq (sortTags l).length l.length && Nat.blt l.length strMax) = true := by
    intro l hl
    rw [sortTags_length, Nat.beq_refl, Bool.true_and, strMax_eq]
    exact Nat.ble_eq ▸ (by omega : l.length + 1 ≤ 4611686018427387904)
  unfold F.tag_Normal
  rw [List.nil_append, e1, cond_true, e2 l hl, cond_true]
  cases l with
  | nil =>
    have h1 := norm_out n hn [] (by simp) 1 (1, []) (1, [])
    have h2 := norm_out n hn [] (by simp) 2 (1, []) (1, [])
    refine Eq.trans (b := both (some (normT [])) (some (normT []))) ?_ (both_same _)
    rw [List.isEmpty_nil, cond_true]
    congr 1
  | cons t l =>
    exact norm_out n hn (t :: l) hl 2 (1, []) (1, [])
theorem refn_grow {X : Type} {v : List TagL} (h : v.length ≤ 100000) (y : Option X) : (bif decide ((v.length + 1) * 32 ≤ 2 ^ 46) && decide (0 < 32 ∧ 32 ≤ 2 ^ 20) then y else none) = y := by
  rw [decide_eq_true (by omega)]; rfl
theorem ins_true (n : Nat) (X : Type) (k2 : List TagL → Int → List TagL → Bool → Nat → Option X) (l out : List TagL) (i : Int) (hl : out.length ≤ 100000) (vk0 : Nat) : ∀ (r more : List TagL) (k m : Nat), out.drop k = r → r.length < m → more.length + r.length ≤ 50000 →
    F.ref06_Normal.L8 n k2 m l out i more true (k : Int) vk0 more.length = k2 l i (more ++ r) true (more ++ r).length := by
  intro r
  induction r with
  | nil =>
    intro more k m h1 hm hs
    obtain ⟨m, rfl⟩ : ∃ p, m = p + 1 := ⟨m - 1, by omega⟩
    rw [F.ref06_Normal.L8]
    unfold F.ref06_Normal.L8.step
    dsimp only
    rw [bif_neg (by have := drop_nil' h1; omega), List.append_nil]
  | cons x r ih =>
    intro more k m h1 hm hs
    obtain ⟨m, rfl⟩ : ∃ p, m = p + 1 := ⟨m - 1, by simp at hm; omega⟩
    obtain ⟨l1, g1, t1⟩ := drop_cons h1
    simp only [List.length_cons] at hs hm
    rw [F.ref06_Normal.L8]
    unfold F.ref06_Normal.L8.step
    dsimp only
    rw [bif_pos (by omega), Bool.not_true, cond_false, idx_nat, g1, some_bind', refn_grow (by omega), Nat.beq_refl, cond_true, wrap_succ (by omega)]
    rw [ih (more ++ [x]) (k + 1) m t1 (by omega) (by simp; omega)]
    simp
theorem ins_false (n : Nat) (hn : 200000 ≤ n) (X : Type) (k2 : List TagL → Int → List TagL → Bool → Nat → Option X) (l out : List TagL) (i : Nat) (t : TagL) (hi : l[i]? = some t) (ht : TagLOK t) (ho : ∀ x ∈ out, TagLOK x) (hl : out.length ≤ 100000) (vk0 : Nat) : ∀ (r more : List TagL) (k m : Nat), out.drop k = r → r.length < m → more.length + r.length ≤ 40000 →
    ∃ p M, F.ref06_Normal.L8 n k2 m l out (i : Int) more false (k : Int) vk0 more.length = k2 l (i : Int) M p M.length ∧ (bif p then M else M ++ [t]) = more ++ insD t r ∧ M.length ≤ more.length + r.length + 1 := by
  intro r
  induction r with
  | nil =>
    intro more k m h1 hm hs
    obtain ⟨m, rfl⟩ : ∃ p, m = p + 1 := ⟨m - 1, by omega⟩
    refine ⟨false, more, ?_, rfl, by simp⟩
    rw [F.ref06_Normal.L8]
    unfold F.ref06_Normal.L8.step
    dsimp only
    rw [bif_neg (by have := drop_nil' h1; omega)]
  | cons x r ih =>
    intro more k m h1 hm hs
    obtain ⟨m, rfl⟩ : ∃ p, m = p + 1 := ⟨m - 1, by simp at hm; omega⟩
    obtain ⟨l1, g1, t1⟩ := drop_cons h1
    simp only [List.length_cons] at hs hm
    have hx : TagLOK x := ho x (List.mem_of_getElem? g1)
    rw [F.ref06_Normal.L8]
    unfold F.ref06_Normal.L8.step
    dsimp only
    rw [bif_pos (by omega), Bool.not_false, cond_true, idx_nat, idx_nat, g1, hi]
    simp only [some_bind', less_eq n x t hx ht hn]
    cases hlt : ltT x t
    · rw [Bool.not_false, cond_true, tagL_beq, wrap_succ (by omega)]
      unfold insD
      rw [hlt, if_neg (by simp)]
      by_cases e : x = t
      · rw [decide_eq_true e, Bool.not_true, cond_false, refn_grow (by omega), Nat.beq_refl, cond_true, if_pos e]
        refine ⟨true, _, ins_true n X k2 l out i hl vk0 r (more ++ [x]) (k + 1) m t1 (by omega) (by simp; omega), by simp, by simp⟩
      · rw [decide_eq_false e, Bool.not_false, cond_true, refn_grow (by omega), Nat.beq_refl, cond_true, refn_grow (by simp; omega), Nat.beq_refl, cond_true, if_neg e]
        refine ⟨true, _, ins_true n X k2 l out i hl vk0 r ((more ++ [t]) ++ [x]) (k + 1) m t1 (by omega) (by simp; omega), by simp, by simp; omega⟩
    · rw [Bool.not_true, cond_false, refn_grow (by omega), Nat.beq_refl, cond_true, wrap_succ (by omega)]
      obtain ⟨p, M, q1, q2, q3⟩ := ih (more ++ [x]) (k + 1) m t1 (by omega) (by simp; omega)
      refine ⟨p, M, q1, ?_, by simp only [List.length_append, List.length_cons, List.length_nil] at q3 ⊢; omega⟩
      rw [q2, insD, hlt, if_pos rfl]
      simp
theorem refn_loop (n : Nat) (hn : 200000 ≤ n) (X : Type) (k0 : List TagL → Nat → Option X) (l : List TagL) (hl : l.length ≤ 10000) (hok : ∀ t ∈ l, TagLOK t) : ∀ (r out : List TagL) (i m : Nat), l.drop i = r → r.length < m → out.length ≤ i → (∀ x ∈ out, x ∈ l) →
    F.ref06_Normal.L3 n k0 m l out (i : Int) out.length = k0 (r.foldl (fun o t => insD t o) out) (r.foldl (fun o t => insD t o) out).length := by
  intro r
  induction r with
  | nil =>
    intro out i m h1 hm ho hmem
    obtain ⟨m, rfl⟩ : ∃ p, m = p + 1 := ⟨m - 1, by omega⟩
    rw [F.ref06_Normal.L3]
    unfold F.ref06_Normal.L3.step
    dsimp only
    rw [bif_neg (by have := drop_nil' h1; omega)]
    rfl
  | cons t r ih =>
    intro out i m h1 hm ho hmem
    obtain ⟨m, rfl⟩ : ∃ p, m = p + 1 := ⟨m - 1, by simp at hm; omega⟩
    obtain ⟨l1, g1, t1⟩ := drop_cons h1
    have ht : t ∈ l := List.mem_of_getElem? g1
    rw [F.ref06_Normal.L3]
    unfold F.ref06_Normal.L3.step
    dsimp only
    rw [bif_pos (by omega)]
    obtain ⟨p, M, q1, q2, q3⟩ := ins_false n (by omega) X _ l out i t g1 (hok t ht) (fun x hx => hok x (hmem x hx)) (by omega) out.length out [] 0 n rfl (by omega) (by simp; omega)
    refine q1.trans ?_
    simp only [List.length_nil, Nat.zero_add, List.nil_append] at q2 q3
    have hwi : IntKind.wrap .i64 ((i : Int) + 1) = ((i + 1 : Nat) : Int) := wrap_succ (by omega)
    have hin : ∀ x ∈ insD t out, x ∈ l := fun x hx => by
      rcases (insD_mem t out x).1 hx with rfl | h
      · exact ht
      · exact hmem x h
    rw [List.foldl_cons, hwi]
    cases p
    · rw [Bool.not_false, cond_true, idx_nat, g1, some_bind', refn_grow (by omega), Nat.beq_refl, cond_true]
      have q2 : M ++ [t] = insD t out := q2
      have e : M ++ [(t.1, t.2)] = insD t out := q2
      rw [e]
      exact ih (insD t out) (i + 1) m t1 (by simp at hm; omega) (by have := insD_len t out; omega) hin
    · rw [Bool.not_true, cond_false]
      have q2 : M = insD t out := q2
      rw [q2]
      exact ih (insD t out) (i + 1) m t1 (by simp at hm; omega) (by have := insD_len t out; omega) hin
theorem refNormal_eq (n : Nat) (hn : 200000 ≤ n) (l : List TagL) (hl : l.length ≤ 10000) (hok : ∀ t ∈ l, TagLOK t) : F.ref06_Normal n l = some (normT l) := by
  unfold F.ref06_Normal
  exact refn_loop n hn _ _ l hl hok l [] 0 n rfl (by omega) (by simp) (fun x hx => by cases hx)
end Go.AM
set_option linter.unusedVariables false
set_option linter.unusedSimpArgs false
namespace Go.AM
theorem cls1_word (x : UInt8) : cls 1 x = wordI (x.toNat : Int) := rfl
theorem name_step {X : Type} (n : Nat) (rec : List UInt8 → Int → Option X) (k0 : List UInt8 → Option X) (kr : Bool → Option X) (s : List UInt8) (k : Nat) (hk : k < s.length) (hs : s.length ≤ 10000) (x : UInt8) (hx : s[k]? = some x) :
    F.ref07_Name.L2.step n rec k0 kr s (k : Int) = if cls 1 x = true then rec s ((k + 1 : Nat) : Int) else kr false := by
  unfold F.ref07_Name.L2.step
  rw [bif_pos (by omega), idx_nat, hx, wrap_succ (by omega), some_bind', cls1_word]
  unfold wordI btw
  generalize hv : ((x.toNat : Nat) : Int) = v
  generalize rec s ((k + 1 : Nat) : Int) = A
  generalize kr false = B
  simp only [Bool.cond_eq_ite, Bool.not_eq_true', Bool.or_eq_true, Bool.and_eq_true, decide_eq_true_eq, beq_iff_eq, beq_eq_false_iff_ne, ne_eq]
  repeat' split
  all_goals first
    | rfl
    | (exfalso; omega)
theorem name_ref_loop (n : Nat) (X : Type) (k0 : List UInt8 → Option X) (kr : Bool → Option X) (s : List UInt8) (hs : s.length ≤ 10000) : ∀ (r : List UInt8) (k m : Nat), s.drop k = r → r.length < m →
    F.ref07_Name.L2 n k0 kr m s (k : Int) = if r.all (cls 1) = true then k0 s else kr false := by
  intro r
  induction r with
  | nil =>
    intro k m hk hm
    have := drop_nil' hk
    cases m with
    | zero => simp at hm
    | succ m =>
      show F.ref07_Name.L2.step n (F.ref07_Name.L2 n k0 kr m) k0 kr s (k : Int) = _
      unfold F.ref07_Name.L2.step
      rw [bif_neg (by omega)]
      rfl
  | cons x r ih =>
    intro k m hk hm
    obtain ⟨h1, h2, h3⟩ := drop_cons hk
    cases m with
    | zero => simp at hm
    | succ m =>
      show F.ref07_Name.L2.step n (F.ref07_Name.L2 n k0 kr m) k0 kr s (k : Int) = _
      rw [name_step n _ _ _ s k h1 hs x h2, List.all_cons]
      cases hx : cls 1 x
      · rfl
      · rw [if_pos rfl, ih (k + 1) m h3 (by simp at hm; omega)]
        rfl
theorem nameOK_eq (s : List UInt8) : nameOK s = (s.all (cls 1) && (decide (1 ≤ s.length) && decide (s.length ≤ 200))) := by
  unfold nameOK textF
  rw [if_neg (by simp [may])]
  by_cases h1 : (s.length : Int) < 1
  · rw [if_pos h1]
    have : decide (1 ≤ s.length) = false := decide_eq_false (by omega)
    rw [this]; simp
  rw [if_neg h1]
  have e1 : decide (1 ≤ s.length) = true := decide_eq_true (by omega)
  by_cases h2 : (s.length : Int) > 200
  · rw [if_pos h2]
    have : decide (s.length ≤ 200) = false := decide_eq_false (by omega)
    rw [this]; simp
  rw [if_neg h2]
  have e2 : decide (s.length ≤ 200) = true := decide_eq_true (by omega)
  rw [e1, e2]
  by_cases h3 : 0 ≤ badK (cls 1) 0 s
  · rw [if_pos h3]
    have : s.all (cls 1) = false := by
      have := (badK_ge (cls 1) 0 s).1 h3
      simpa using this
    rw [this]; rfl
  · rw [if_neg h3]
    have : s.all (cls 1) = true := Classical.byContradiction fun hh => h3 ((badK_ge _ _ _).2 hh)
    rw [this]; rfl
theorem name_ref (n : Nat) (hn : 200000 ≤ n) (s : List UInt8) (hs : s.length ≤ 10000) : F.ref07_Name n s = some (nameOK s) := by
  unfold F.ref07_Name
  have L := name_ref_loop n Bool (fun e2_0 => bif decide ((e2_0.length : Int) ≥ (1 : Int)) then some (decide ((e2_0.length : Int) ≤ (200 : Int))) else some (false)) (fun e3_2 => some (e3_2)) s hs s 0 n rfl (by omega)
  refine L.trans ?_
  rw [nameOK_eq]
  cases h : s.all (cls 1)
  · rfl
  · rw [if_pos rfl]
    by_cases h1 : 1 ≤ s.length
    · rw [bif_pos (by omega), decide_eq_true h1]
      have e2 : decide ((s.length : Int) ≤ 200) = decide (s.length ≤ 200) := by apply decide_eq_decide.2; omega
      rw [e2]; rfl
    · rw [bif_neg (by omega), decide_eq_false h1]; rfl
theorem rest_loop (n : Nat) (hn : 200000 ≤ n) (X : Type) (k0 : List UInt8 → Int → List DecL → Int → List TagL → Int → Option X) (kr : Int → List UInt8 → Int → List DecL → Int → List TagL → Int → Option X) (vs : List TagL) (hs : vs.length ≤ 10000) (hok : ∀ d ∈ vs, TagLOK d) (b0 : List UInt8) (b1 : Int) (b2 : List DecL) (b3 : Int) (b5 : Int) : ∀ (r : List TagL) (k m : Nat), vs.drop k = r → r.length < m →
    F.ref07_Rest.L12 n k0 kr m (k : Int) b0 b1 b2 b3 vs b5 = bif r.all tagGood then k0 b0 b1 b2 b3 vs b5 else kr 19 b0 b1 b2 b3 vs b5 := by
  intro r
  induction r with
  | nil =>
    intro k m hk hm
    have := drop_nil' hk
    cases m with
    | zero => simp at hm
    | succ m =>
      show F.ref07_Rest.L12.step n (F.ref07_Rest.L12 n k0 kr m) k0 kr _ _ _ _ _ _ _ = _
      unfold F.ref07_Rest.L12.step
      rw [bif_neg (by omega)]
      rfl
  | cons x r ih =>
    intro k m hk hm
    obtain ⟨h1, h2, h3⟩ := drop_cons hk
    have hx : TagLOK x := hok x (List.mem_of_getElem? h2)
    cases m with
    | zero => simp at hm
    | succ m =>
      show F.ref07_Rest.L12.step n (F.ref07_Rest.L12 n k0 kr m) k0 kr _ _ _ _ _ _ _ = _
      unfold F.ref07_Rest.L12.step
      rw [bif_pos (by omega), idx_nat, h2]
      simp only [some_bind', tag_ref n hn hx, List.all_cons]
      cases h : tagGood x
      · rfl
      · rw [wrap_succ (by omega), ih (k + 1) m h3 (by simp at hm; omega)]; rfl
def restM (m : MetD) (vals : Bool) : Int :=
  bif !nameOK m.1 then 15 else bif !kindB m.2.1 then 16 else bif !(vals && (decide (1 ≤ m.2.2.1.length) && decide (m.2.2.1.length ≤ 64))) then 17 else bif !rateB m.2.1 m.2.2.2.1 then 18 else bif !tagsB m.2.2.2.2.1 then 19 else bif !timeB m.2.2.2.2.2.1 then 20 else 0
theorem chk_rest (m : MetD) : chkM m = restM m (m.2.2.1.all fun d => decC d == 0) := by
  unfold chkM restM valsB
  cases decide (1 ≤ m.2.2.1.length) <;> cases decide (m.2.2.1.length ≤ 64) <;> cases (m.2.2.1.all fun d => decC d == 0) <;> rfl
theorem rest_ref (n : Nat) (hn : 200000 ≤ n) (m : MetD) (h1 : m.1.length ≤ 10000) (h2 : m.2.2.2.2.1.length ≤ 10000) (h3 : ∀ t ∈ m.2.2.2.2.1, TagLOK t) (vals : Bool) : F.ref07_Rest n m vals = some (restM m vals) := by
  obtain ⟨nm, k, vs, r, ts, t, _⟩ := m
  simp only at h1 h2 h3
  unfold F.ref07_Rest restM
  simp only [name_ref n hn nm h1, some_bind']
  cases nameOK nm
  · rfl
  simp only [Bool.not_true, cond_false]
  unfold kindB
  by_cases k1 : k < 1
  · rw [bif_pos k1, decide_eq_false (by omega : ¬ 1 ≤ k)]; rfl
  rw [bif_neg k1, decide_eq_true (by omega : 1 ≤ k)]
  by_cases k2 : k > 5
  · rw [bif_pos k2, decide_eq_false (by omega : ¬ k ≤ 5)]; rfl
  rw [bif_neg k2, decide_eq_true (by omega : k ≤ 5)]
  simp only [Bool.and_self, Bool.not_true, cond_false]
  cases vals
  · rfl
  simp only [Bool.not_true, cond_false, Bool.true_and]
  by_cases v1 : (vs.length : Int) < 1
  · rw [bif_pos v1, decide_eq_false (by omega : ¬ 1 ≤ vs.length)]; rfl
  rw [bif_neg v1, decide_eq_true (by omega : 1 ≤ vs.length)]
  by_cases v2 : (vs.length : Int) > 64
  · rw [bif_pos v2, decide_eq_false (by omega : ¬ vs.length ≤ 64)]; rfl
  rw [bif_neg v2, decide_eq_true (by omega : vs.length ≤ 64)]
  simp only [Bool.and_self, Bool.not_true, cond_false]
  unfold rateB
  by_cases r1 : r < 1
  · rw [bif_pos r1, decide_eq_false (by omega : ¬ 1 ≤ r)]; rfl
  rw [bif_neg r1, decide_eq_true (by omega : 1 ≤ r)]
  by_cases r2 : r > 1000000
  · rw [bif_pos r2, decide_eq_false (by omega : ¬ r ≤ 1000000)]; rfl
  rw [bif_neg r2, decide_eq_true (by omega : r ≤ 1000000)]
  simp only [Bool.true_and]
  have tail : (bif decide ((ts.length : Int) > (32 : Int)) then some (19 : Int) else
        F.ref07_Rest.L12 n
          (fun e4_b0_0 e4_b0_1 e4_b0_2 e4_b0_3 e4_b0_4 e4_b0_5 =>
            bif decide (e4_b0_5 < (0 : Int)) then some ((20 : Int)) else bif decide (e4_b0_5 > (1099511627776 : Int)) then some ((20 : Int)) else some ((0 : Int)))
          (fun e5_4 e5_b0_0 e5_b0_1 e5_b0_2 e5_b0_3 e5_b0_4 e5_b0_5 => some (e5_4)) n (0 : Int) nm k vs r ts t) = some (bif !tagsB ts then 19 else bif !timeB t then 20 else 0) := by
    unfold tagsB timeB
    by_cases t1 : (ts.length : Int) > 32
    · rw [bif_pos t1, decide_eq_false (by omega : ¬ ts.length ≤ 32)]; rfl
    rw [bif_neg t1, decide_eq_true (by omega : ts.length ≤ 32)]
    refine (rest_loop n hn Int _ _ ts h2 h3 nm k vs r t ts 0 n rfl (by omega)).trans ?_
    cases ts.all tagGood
    · rfl
    · rw [cond_true]
      by_cases u1 : t < 0
      · rw [bif_pos u1, decide_eq_false (by omega : ¬ 0 ≤ t)]; rfl
      rw [bif_neg u1, decide_eq_true (by omega : 0 ≤ t)]
      by_cases u2 : t > 1099511627776
      · rw [bif_pos u2, decide_eq_false (by omega : ¬ t ≤ 1099511627776)]; rfl
      rw [bif_neg u2, decide_eq_true (by omega : t ≤ 1099511627776)]
      rfl
  cases hk : (k == 2)
  · exact tail
  · cases hr : (r == 1000000)
    · rfl
    · exact tail
end Go.AM
set_option linter.unusedVariables false
set_option linter.unusedSimpArgs false
namespace Go.AM
end Go.AM
set_option linter.unusedVariables false
set_option linter.unusedSimpArgs false
namespace Go.AM
end Go.AM
set_option linter.unusedVariables false
set_option linter.unusedSimpArgs false
namespace Go.AM
theorem text_zeros (n : Nat) (X : Type) (k0 : (List UInt8) → Bool → Int → Int → Option X) (neg : Bool) (c e : Int) : ∀ (j i m : Nat) (v : List UInt8), ((i : Int) + j = e ∨ j = 0 ∧ e ≤ i) → j < m → i + j ≤ 1000 → v.length + j ≤ 100000 → F.ref03_Text.L3 n k0 m v (i : Int) neg c e = k0 (v ++ List.replicate j 48) neg c e := by
  intro j
  induction j with
  | zero =>
    intro i m v h hm hi hv
    obtain ⟨m, rfl⟩ : ∃ q, m = q + 1 := ⟨m - 1, by omega⟩
    show F.ref03_Text.L3.step n _ k0 _ _ _ _ _ = _
    unfold F.ref03_Text.L3.step
    rw [bif_neg (by omega), List.replicate_zero, List.append_nil]
  | succ j ih =>
    intro i m v h hm hi hv
    obtain ⟨m, rfl⟩ : ∃ q, m = q + 1 := ⟨m - 1, by omega⟩
    show F.ref03_Text.L3.step n (F.ref03_Text.L3 n k0 m) k0 _ _ _ _ _ = _
    unfold F.ref03_Text.L3.step
    rw [bif_pos (by omega), bif_pos (by rw [strMax_eq]; omega), wrap_succ (by omega), ih (i + 1) m _ (by omega) (by omega) (by omega) (by simp; omega), List.append_assoc, List.replicate_succ]
    rfl
theorem text_pad (n : Nat) (X : Type) (k2 : (List UInt8) → Bool → Int → Int → Option X) (neg : Bool) (c e : Int) (he : -100 ≤ e ∧ e < 0) : ∀ (j m : Nat) (v : List UInt8), ((v.length : Int) + j = 1 - e ∨ j = 0 ∧ 1 - e ≤ v.length) → j < m → v.length + j ≤ 100000 → F.ref03_Text.L7 n k2 m v neg c e = k2 (List.replicate j 48 ++ v) neg c e := by
  intro j
  induction j with
  | zero =>
    intro m v h hm hv
    obtain ⟨m, rfl⟩ : ∃ q, m = q + 1 := ⟨m - 1, by omega⟩
    show F.ref03_Text.L7.step n _ k2 _ _ _ _ = _
    unfold F.ref03_Text.L7.step
    rw [wrap_in (by omega), bif_neg (by omega)]
    rfl
  | succ j ih =>
    intro m v h hm hv
    obtain ⟨m, rfl⟩ : ∃ q, m = q + 1 := ⟨m - 1, by omega⟩
    show F.ref03_Text.L7.step n (F.ref03_Text.L7 n k2 m) k2 _ _ _ _ = _
    unfold F.ref03_Text.L7.step
    rw [wrap_in (by omega), bif_pos (by omega), bif_pos (by rw [strMax_eq]; omega), ih m _ (by simp; omega) (by omega) (by simp; omega), List.replicate_succ', List.append_assoc]
theorem text_ref (n : Nat) (hn : 200000 ≤ n) (neg : Bool) (c : Nat) (hc : c < two64) (e : Int) (he : -18 ≤ e ∧ e ≤ 18) : F.ref03_Text n (neg, (c : Int), e, ()) = some (textD neg c e) := by
  unfold F.ref03_Text
  have hl := dd_len64 hc
  simp only [digits03 n (by omega) c hc, some_bind']
  have hz := text_zeros n (List UInt8) (fun e2_3 e2_b0_0 e2_b0_1 e2_b0_2 =>
        bif decide (e2_b0_2 < (0 : Int)) then
          F.ref03_Text.L7 n
            (fun e3_3 e3_b0_0 e3_b0_1 e3_b0_2 =>
              (sub e3_3 (0 : Int) (IntKind.wrap .i64 ((e3_3.length : Int) + e3_b0_2))).bind fun x4 =>
                bif decide (x4.length + 1 ≤ strMax) then
                  (sub e3_3 (IntKind.wrap .i64 ((e3_3.length : Int) + e3_b0_2)) (e3_3.length : Int)).bind fun x5 =>
                    bif decide (((x4 ++ ([46])).length) + x5.length ≤ strMax) then
                      bif e3_b0_0 then
                        bif decide (1 + (((x4 ++ ([46])) ++ x5).length) ≤ strMax) then
                          some (([45]) ++ ((x4 ++ ([46])) ++ x5))
                        else
                          none
                      else
                        some ((x4 ++ ([46])) ++ x5)
                    else
                      none
                else
                  none) n e2_3 e2_b0_0 e2_b0_1 e2_b0_2
        else
        bif e2_b0_0 then
          bif decide (1 + e2_3.length ≤ strMax) then
            some (([45]) ++ e2_3)
          else
            none
        else
          some (e2_3)) neg (c : Int) e e.toNat 0 n (Lib.decDigits c) (by omega) (by omega) (by omega) (by omega)
  refine hz.trans ?_
  unfold textD
  by_cases hE : 0 ≤ e
  · rw [bif_neg (by omega), if_pos hE]
    cases neg
    · rfl
    · rw [cond_true, bif_pos (by rw [strMax_eq]; simp; omega)]
      rfl
  · obtain ⟨w1, w2, w3⟩ := wideW_len c hc e (by omega)
    have hwl : (List.replicate (1 - e - (Lib.decDigits c).length).toNat (48 : UInt8)).length + (Lib.decDigits c).length = (wideW c e).length := by unfold wideW; simp
    have hww : List.replicate (1 - e - (Lib.decDigits c).length).toNat (48 : UInt8) ++ Lib.decDigits c = wideW c e := rfl
    rw [bif_pos (by omega), if_neg hE, show e.toNat = 0 from by omega, List.replicate_zero, List.append_nil, text_pad n _ _ neg (c : Int) e (by omega) (1 - e - (Lib.decDigits c).length).toNat n _ (by omega) (by omega) (by omega), hww]
    generalize wideW c e = w at w1 w2 w3
    have hat : IntKind.wrap .i64 ((w.length : Int) + e) = ((w.length - e.natAbs : Nat) : Int) := by rw [wrap_in (by omega)]; omega
    rw [hat]
    have s1 : sub w 0 ((w.length - e.natAbs : Nat) : Int) = some (w.take (w.length - e.natAbs)) := by
      have := sub_nat w 0 (w.length - e.natAbs) (by omega) (by omega)
      rw [List.drop_zero] at this
      exact this
    have s2 : sub w ((w.length - e.natAbs : Nat) : Int) (w.length : Int) = some (w.drop (w.length - e.natAbs)) := by
      have := sub_nat w (w.length - e.natAbs) w.length (by omega) (Nat.le_refl _)
      rw [List.take_length] at this
      exact this
    rw [s1, some_bind', bif_pos (by rw [strMax_eq]; simp; omega), s2, some_bind', bif_pos (by rw [strMax_eq]; simp; omega)]
    cases neg
    · rfl
    · rw [cond_true, bif_pos (by rw [strMax_eq]; simp; omega)]
      rfl
end Go.AM
set_option linter.unusedVariables false
set_option linter.unusedSimpArgs false
namespace Go.AM
def MetWf (m : MetD) : Prop := (∀ d ∈ m.2.2.1, DecLOK d)
theorem chk_zero {m : MetD} (h : chkM m = 0) : nameOK m.1 = true ∧ kindB m.2.1 = true ∧ valsB m.2.2.1 = true ∧ rateB m.2.1 m.2.2.2.1 = true ∧ tagsB m.2.2.2.2.1 = true ∧ timeB m.2.2.2.2.2.1 = true := by
  unfold chkM at h
  revert h
  cases nameOK m.1 <;> cases kindB m.2.1 <;> cases valsB m.2.2.1 <;> cases rateB m.2.1 m.2.2.2.1 <;> cases tagsB m.2.2.2.2.1 <;> cases timeB m.2.2.2.2.2.1 <;> simp
theorem textD_le {d : DecL} (hd : DecLOK d) (h : decC d = 0) : (textD d.1 d.2.1.toNat d.2.2).length ≤ 39 := by
  obtain ⟨neg, c, e, rfl, hc, he⟩ := decL_nat hd
  exact (text_len neg c hc e (check_zero h).2).1
theorem decText_eq (n : Nat) (hn : 200000 ≤ n) {d : DecL} (hd : DecLOK d) (h : decC d = 0) : F.dec_Text n (d.1, d.2.1, d.2.2, ()) = some (textD d.1 d.2.1.toNat d.2.2, 0, ()) := by
  obtain ⟨neg, c, e, rfl, hc, he⟩ := decL_nat hd
  have h' : checkR neg c e = 0 := h
  have := text_dec n hn neg c hc e he
  rw [if_pos h'] at this
  exact this
theorem decText_ref (n : Nat) (hn : 200000 ≤ n) {d : DecL} (hd : DecLOK d) (h : decC d = 0) : F.ref03_Text n (d.1, d.2.1, d.2.2, ()) = some (textD d.1 d.2.1.toNat d.2.2) := by
  obtain ⟨neg, c, e, rfl, hc, he⟩ := decL_nat hd
  exact text_ref n hn neg c hc e (check_zero h).2
end Go.AM
set_option linter.unusedVariables false
set_option linter.unusedSimpArgs false
namespace Go.AM
theorem valR_cases {d : List UInt8} (hD : Digs d) (neg : Bool) (E : Int) : ((valR neg d E).2.1 = 10 ∧ (valR neg d E).1 = (false, 0, 0, ())) ∨
    (∃ (neg' : Bool) (c : Nat) (e : Int), valR neg d E = ((neg', (c : Int), e, ()), 0, ()) ∧ c < two64 ∧ (-9223372036854775808 ≤ e ∧ e ≤ 9223372036854775807) ∧ checkR neg' c e = 0) := by
  by_cases hv : val d = 0
  · refine Or.inr ⟨false, 0, 0, ?_, by decide, by omega, ?_⟩
    · have : valR neg d E = zeroD := by unfold valR; rw [if_pos hv]
      rw [this]; rfl
    · have d0 : Lib.decDigits 0 = [48] := dd_small (by omega)
      unfold checkR
      rw [d0]; rfl
  · obtain ⟨c0, z, h1, h2⟩ := ten_split (val d) (by omega)
    rw [valR_core hD h2 h1]
    generalize E + (z : Int) = Y
    by_cases hY : Y < -18
    · refine Or.inl ?_
      have : normR neg c0 Y = ((false, 0, 0, ()), 10, ()) := by unfold normR; rw [if_pos hY]
      rw [this]
      exact ⟨rfl, rfl⟩
    · by_cases hf : c0 * 10 ^ (Y - 18).toNat < two64
      · have e1 : normR neg c0 Y = ((neg, ((c0 * 10 ^ (Y - 18).toNat : Nat) : Int), (if Y ≤ 18 then Y else 18), ()), 0, ()) := by unfold normR; rw [if_neg hY, if_pos hf]
        rw [e1]
        have hE : -18 ≤ (if Y ≤ 18 then Y else 18) ∧ (if Y ≤ 18 then Y else 18) ≤ 18 := by split <;> omega
        refine Or.inr ⟨neg, c0 * 10 ^ (Y - 18).toNat, (if Y ≤ 18 then Y else 18), rfl, hf, by omega, ?_⟩
        unfold checkR
        rw [if_neg (by omega), valR_core (dd_digs _) h2 (dd_val _)]
        have e2 : (if Y ≤ 18 then Y else 18) + (((Y - 18).toNat : Nat) : Int) = Y := by split <;> omega
        rw [e2, e1, if_pos ⟨rfl, rfl⟩]
      · refine Or.inl ?_
        have : normR neg c0 Y = ((false, 0, 0, ()), 10, ()) := by unfold normR; rw [if_neg hY, if_neg hf]
        rw [this]
        exact ⟨rfl, rfl⟩
def decV (d : DecL) : DecR := valR d.1 (Lib.decDigits d.2.1.toNat) d.2.2
def valOK (d : DecL) : Bool := (decV d).2.1 == 0
def refV (d : DecL) : DecL := ((decV d).1.1, (decV d).1.2.1, (decV d).1.2.2.1)
def normV (d : DecL) : DecL := if valOK d then refV d else d
theorem decV_eq (n : Nat) (hn : 100 ≤ n) {d : DecL} (h : DecLOK d) : F.dec_Normal n (d.1, d.2.1, d.2.2, ()) = some (decV d) := by
  obtain ⟨neg, c, e, rfl, hc, he⟩ := decL_nat h
  exact normal_eq n hn neg c hc e he
theorem decV_ref (n : Nat) (hn : 200000 ≤ n) {d : DecL} (h : DecLOK d) : F.ref03_Normal n (d.1, d.2.1, d.2.2, ()) = some (decV d) := by
  obtain ⟨neg, c, e, rfl, hc, he⟩ := decL_nat h
  unfold F.ref03_Normal decV
  have hl := dd_len64 hc
  simp only [digits03 n (by omega) c hc, make_eq n hn neg _ (dd_digs c) (by omega) e, some_bind', Int.toNat_natCast]
  rcases valR_code neg (Lib.decDigits c) e with h | ⟨h1, h2⟩
  · rw [h]
    generalize valR neg (Lib.decDigits c) e = r at h ⊢
    obtain ⟨r1, r2, _⟩ := r
    simp only at h
    subst h
    rfl
  · rw [h1]
    generalize valR neg (Lib.decDigits c) e = r at h1 h2 ⊢
    obtain ⟨r1, r2, _⟩ := r
    simp only at h1 h2
    subst h1 h2
    rfl
theorem normV_pos {d : DecL} (h : valOK d = true) : normV d = refV d ∧ decC (normV d) = 0 ∧ DecLOK (normV d) := by
  have e : normV d = refV d := by unfold normV; rw [if_pos h]
  refine ⟨e, ?_⟩
  rw [e]
  unfold refV
  unfold valOK at h
  rcases valR_cases (dd_digs d.2.1.toNat) d.1 d.2.2 with ⟨h1, _⟩ | ⟨neg, c, e, h1, h2, h3, h4⟩
  · exfalso
    have h1 : (decV d).2.1 = 10 := h1
    rw [h1] at h; cases h
  · have h1 : decV d = ((neg, (c : Int), e, ()), 0, ()) := h1
    rw [h1]
    refine ⟨h4, trivial, ⟨by simp, ?_⟩, h3⟩
    have := two64_eq; simp only; omega
theorem normV_neg {d : DecL} (hd : DecLOK d) (h : valOK d = false) : normV d = d ∧ decC d ≠ 0 := by
  refine ⟨by unfold normV; rw [if_neg (by rw [h]; simp)], fun h0 => ?_⟩
  obtain ⟨neg, c, e, rfl, hc, he⟩ := decL_nat hd
  have hh : decV (neg, (c : Int), e) = ((neg, (c : Int), e, ()), 0, ()) := (check_zero h0).1
  unfold valOK at h
  rw [hh] at h
  cases h
theorem normV_id {d : DecL} (hd : DecLOK d) (h0 : decC d = 0) : valOK d = true ∧ normV d = d := by
  obtain ⟨neg, c, e, rfl, hc, he⟩ := decL_nat hd
  have hv := (check_zero h0).1
  have h1 : decV (neg, (c : Int), e) = ((neg, (c : Int), e, ()), 0, ()) := hv
  have h2 : valOK (neg, (c : Int), e) = true := by unfold valOK; rw [h1]; rfl
  refine ⟨h2, ?_⟩
  unfold normV refV
  rw [if_pos h2, h1]
theorem normV_ok {d : DecL} (hd : DecLOK d) : DecLOK (normV d) := by
  cases h : valOK d
  · rw [(normV_neg hd h).1]; exact hd
  · exact (normV_pos h).2.2
theorem normV_all {vs : List DecL} (h : ∀ d ∈ vs, DecLOK d) : ((vs.map normV).all fun d => decC d == 0) = vs.all valOK := by
  induction vs with
  | nil => rfl
  | cons d vs ih =>
    rw [List.map_cons, List.all_cons, List.all_cons, ih (fun x hx => h x (List.mem_cons_of_mem _ hx))]
    congr 1
    cases hv : valOK d
    · obtain ⟨h1, h2⟩ := normV_neg (h d (by simp)) hv
      rw [h1]; exact beq_eq_false_iff_ne.2 h2
    · rw [(normV_pos hv).2.1]; rfl
def zeroM : MetD := ([], (0 : Int), [], (0 : Int), [], (0 : Int), ())
def valsM (m : MetD) : MetD := (m.1, m.2.1, m.2.2.1.map normV, m.2.2.2.1, m.2.2.2.2.1, m.2.2.2.2.2.1, ())
def formM (m : MetD) : MetD := (m.1, m.2.1, m.2.2.1.map normV, m.2.2.2.1, normT m.2.2.2.2.1, m.2.2.2.2.2.1, ())
def normM (m : MetD) : MetD × Int × Unit := if chkM (valsM m) = 0 then (formM m, 0, ()) else (zeroM, chkM (valsM m), ())
theorem valsM_ok {m : MetD} (hm : MetOK m) : MetOK (valsM m) := by
  refine ⟨hm.1, ⟨by rw [valsM]; simpa using hm.2.1.1, fun d hd => ?_⟩, hm.2.2⟩
  obtain ⟨x, hx, rfl⟩ := List.mem_map.1 hd
  exact normV_ok (hm.2.1.2 x hx)
theorem chk_vals (m : MetD) (h : ∀ d ∈ m.2.2.1, DecLOK d) : chkM (valsM m) = restM m (m.2.2.1.all valOK) := by
  rw [chk_rest, ← normV_all h]
  unfold restM valsM
  simp only [List.length_map]
theorem upd_at {α : Type} (p r : List α) (x y : α) : upd (p ++ x :: r) p.length y = p ++ y :: r := by
  rw [upd_set, List.set_append_right _ _ (Nat.le_refl _), Nat.sub_self]; rfl
theorem metn_loop (n : Nat) (hn : 200000 ≤ n) (X : Type) (k0 : (Nat × Nat) → List UInt8 → Int → List DecL → Int → List TagL → Int → List UInt8 → Int → List DecL → Int → List TagL → Int → (Nat × List DecL) → (Nat × List DecL) → Nat → Nat → Option X)
    (b00 : List UInt8) (b01 : Int) (b02 : List DecL) (b03 : Int) (b04 : List TagL) (b05 : Int) (b10 : List UInt8) (b11 : Int) (b12 : List DecL) (b13 : Int) (b14 : List TagL) (b15 : Int) (b2 : Nat × List DecL) (k1 k2 : Nat) (v N : Nat) (hN : N ≤ 10000) :
    ∀ (r p : List DecL) (i m : Nat), i + r.length = N → p.length = i → r.length < m → (∀ d ∈ r, DecLOK d) →
    F.metric_Normal.L3 n k0 m (v, N) (v, N) (N : Int) (i : Int) b00 b01 b02 b03 b04 b05 b10 b11 b12 b13 b14 b15 b2 (v, p ++ r) k1 k2 = k0 (v, N) b00 b01 b02 b03 b04 b05 b10 b11 b12 b13 b14 b15 b2 (v, p ++ r.map normV) k1 k2 := by
  intro r
  induction r with
  | nil =>
    intro p i m h1 h2 hm hok
    obtain ⟨m, rfl⟩ : ∃ q, m = q + 1 := ⟨m - 1, by omega⟩
    rw [F.metric_Normal.L3]
    unfold F.metric_Normal.L3.step
    dsimp only
    rw [bif_neg (by simp at h1; omega)]
    rfl
  | cons x r ih =>
    intro p i m h1 h2 hm hok
    obtain ⟨m, rfl⟩ : ∃ q, m = q + 1 := ⟨m - 1, by simp at hm; omega⟩
    simp only [List.length_cons] at h1 hm
    have hx := hok x (by simp)
    have hp : (p ++ x :: r)[i]? = some x := by rw [← h2]; simp
    have hb1 : (decide ((0 : Int) ≤ (i : Int)) && decide ((i : Int) < (N : Int))) = true := by simp; omega
    rw [F.metric_Normal.L3]
    unfold F.metric_Normal.L3.step
    dsimp only
    rw [bif_pos (by omega : (i : Int) < (N : Int)), hb1, Nat.beq_refl, cond_true, cond_true, idx_nat, hp, some_bind', decV_eq n (by omega) hx, some_bind', wrap_succ (by omega)]
    have step : ∀ y, y = normV x → F.metric_Normal.L3 n k0 m (v, N) (v, N) (N : Int) ((i + 1 : Nat) : Int) b00 b01 b02 b03 b04 b05 b10 b11 b12 b13 b14 b15 b2 (v, p ++ y :: r) k1 k2 = k0 (v, N) b00 b01 b02 b03 b04 b05 b10 b11 b12 b13 b14 b15 b2 (v, p ++ (x :: r).map normV) k1 k2 := by
      intro y hy
      have := ih (p ++ [y]) (i + 1) m (by omega) (by simp; omega) (by omega) (fun d hd => hok d (List.mem_cons_of_mem _ hd))
      rw [List.append_assoc, List.append_assoc, List.singleton_append, List.singleton_append] at this
      rw [this, hy, List.map_cons]
    cases hv : valOK x
    · have hv' : ((decV x).2.1 == 0) = false := hv
      rw [hv', cond_false]
      exact step x (normV_neg hx hv).1.symm
    · have hv' : ((decV x).2.1 == 0) = true := hv
      rw [hv', cond_true, cond_true, cond_true, some_bind', Int.toNat_natCast, ← h2, upd_at, h2]
      exact step _ (normV_pos hv).1.symm
theorem metn_out (n : Nat) (hn : 200000 ≤ n) (m : MetD) (hm : MetOK m) (v : Nat) (b10 : List UInt8) (b11 : Int) (b12 : List DecL) (b13 : Int) (b14 : List TagL) (b15 : Int) (b2 : Nat × List DecL) (k1 k2 : Nat) :
    F.metric_Normal.L3 n
          (fun e4_4 e4_b0_0 e4_b0_1 e4_b0_2 e4_b0_3 e4_b0_4 e4_b0_5 e4_b1_0 e4_b1_1 e4_b1_2 e4_b1_3 e4_b1_4 e4_b1_5 e4_b2_0 e4_b3_0 e4_k0 e4_k1 =>
            bif Nat.beq e4_4.1 e4_b3_0.1 then
              (F.metric_Check n (e4_b0_0, e4_b0_1, e4_b3_0.2, e4_b0_3, e4_b0_4, e4_b0_5, ())).bind fun y5 =>
                bif !(y5 == (0 : Int)) then
                  some ((([], (0 : Int), [], (0 : Int), [], (0 : Int), ()), y5, ()))
                else
                  (F.tag_Normal n e4_b0_4).bind fun y6 =>
                    some (((e4_b0_0, e4_b0_1, e4_b3_0.2, e4_b0_3, y6, e4_b0_5, ()), (0 : Int), ()))
            else
              none) n (v, m.2.2.1.length) (v, m.2.2.1.length) (m.2.2.1.length : Int) (0 : Int) m.1 m.2.1 m.2.2.1 m.2.2.2.1 m.2.2.2.2.1 m.2.2.2.2.2.1 b10 b11 b12 b13 b14 b15 b2 (v, m.2.2.1) k1 k2 = some (normM m) := by
  refine (metn_loop n hn _ _ m.1 m.2.1 m.2.2.1 m.2.2.2.1 m.2.2.2.2.1 m.2.2.2.2.2.1 b10 b11 b12 b13 b14 b15 b2 k1 k2 v m.2.2.1.length (by have := hm.2.1.1; omega) m.2.2.1 [] 0 n (by omega) rfl (by have := hm.2.1.1; omega) hm.2.1.2).trans ?_
  dsimp only
  rw [Nat.beq_refl, cond_true]
  have hc : F.metric_Check n (m.1, m.2.1, [] ++ m.2.2.1.map normV, m.2.2.2.1, m.2.2.2.2.1, m.2.2.2.2.2.1, ()) = some (chkM (valsM m)) := metcheck_eq n hn (valsM m) (valsM_ok hm)
  rw [hc, some_bind']
  unfold normM
  by_cases h : chkM (valsM m) = 0
  · rw [if_pos h, h, tagNormal_eq n hn _ (by have := hm.2.2.1; omega)]
    rfl
  · rw [if_neg h, beq_eq_false_iff_ne.2 h]
    rfl
theorem metNormal_eq (n : Nat) (hn : 200000 ≤ n) (m : MetD) (hm : MetOK m) : F.metric_Normal n m = some (normM m) := by
  have hl := hm.2.1.1
  have e1 : (decide ((0 + m.2.2.1.length) * 24 ≤ 2 ^ 46) && decide (0 < 24 ∧ 24 ≤ 2 ^ 20)) = true := by
    rw [decide_eq_true (by omega)]; rfl
  unfold F.metric_Normal
  rw [e1, cond_true]
  have h2 := metn_out n hn m hm 2 [] 0 [] 0 [] 0 (1, []) 0 0
  cases hv : m.2.2.1 with
  | nil =>
    have h1 := metn_out n hn m hm 1 [] 0 [] 0 [] 0 (1, []) 0 0
    rw [hv] at h1 h2
    refine Eq.trans (b := both (some (normM m)) (some (normM m))) ?_ (both_same _)
    rw [List.isEmpty_nil, cond_true]
    exact congr (congrArg both h1) h2
  | cons d vs =>
    rw [hv] at h2
    exact h2
theorem refn_growD {X : Type} {v : List DecL} (h : v.length ≤ 100000) (y : Option X) : (bif decide ((v.length + 1) * 24 ≤ 2 ^ 46) && decide (0 < 24 ∧ 24 ≤ 2 ^ 20) then y else none) = y := by
  rw [decide_eq_true (by omega)]; rfl
theorem refm_loop (n : Nat) (hn : 200000 ≤ n) (X : Type) (k0 : Bool → List DecL → List UInt8 → Int → List DecL → Int → List TagL → Int → List UInt8 → Int → List DecL → Int → List TagL → Int → Nat → Nat → Nat → Option X)
    (b00 : List UInt8) (b01 : Int) (b02 : List DecL) (hl : b02.length ≤ 10000) (b03 : Int) (b04 : List TagL) (b05 : Int) (b10 : List UInt8) (b11 : Int) (b12 : List DecL) (b13 : Int) (b14 : List TagL) (b15 : Int) (k1 k2 : Nat) :
    ∀ (r : List DecL) (ok : Bool) (acc : List DecL) (i m : Nat), b02.drop i = r → acc.length = i → i ≤ b02.length → r.length < m → (∀ d ∈ r, DecLOK d) →
    F.ref07_Normal.L4 n k0 m ok acc (i : Int) b00 b01 b02 b03 b04 b05 b10 b11 b12 b13 b14 b15 acc.length k1 k2 = k0 (ok && r.all valOK) (acc ++ r.map refV) b00 b01 b02 b03 b04 b05 b10 b11 b12 b13 b14 b15 (acc ++ r.map refV).length k1 k2 := by
  intro r
  induction r with
  | nil =>
    intro ok acc i m h1 h2 hi hm hok
    obtain ⟨m, rfl⟩ : ∃ q, m = q + 1 := ⟨m - 1, by omega⟩
    rw [F.ref07_Normal.L4]
    unfold F.ref07_Normal.L4.step
    dsimp only
    rw [bif_neg (by have := drop_nil' h1; omega)]
    simp
  | cons x r ih =>
    intro ok acc i m h1 h2 hi hm hok
    obtain ⟨m, rfl⟩ : ∃ q, m = q + 1 := ⟨m - 1, by simp at hm; omega⟩
    obtain ⟨l1, g1, t1⟩ := drop_cons h1
    simp only [List.length_cons] at hm
    have hx := hok x (by simp)
    have hih := fun ok' => ih ok' (acc ++ [refV x]) (i + 1) m t1 (by simp; omega) (by omega) (by omega) (fun d hd => hok d (List.mem_cons_of_mem _ hd))
    rw [F.ref07_Normal.L4]
    unfold F.ref07_Normal.L4.step
    dsimp only
    rw [bif_pos (by omega), idx_nat, g1, some_bind', decV_ref n hn hx, some_bind', wrap_succ (by omega), List.all_cons, List.map_cons, Nat.beq_refl]
    rw [refn_growD (by omega), refn_growD (by omega), cond_true, cond_true]
    have e : ∀ k : List DecL, acc ++ [refV x] ++ k = acc ++ refV x :: k := fun k => by simp
    cases ok
    · rw [cond_false]
      have := hih false
      rw [e] at this
      refine this.trans ?_
      rw [Bool.false_and, Bool.false_and]
    · rw [cond_true]
      have := hih (valOK x)
      rw [e] at this
      refine this.trans ?_
      rw [Bool.true_and]
theorem metNormal_ref (n : Nat) (hn : 200000 ≤ n) (m : MetD) (hm : MetOK m) : F.ref07_Normal n m = some (normM m) := by
  unfold F.ref07_Normal
  refine (refm_loop n hn _ _ m.1 m.2.1 m.2.2.1 (by have := hm.2.1.1; omega) m.2.2.2.1 m.2.2.2.2.1 m.2.2.2.2.2.1 [] 0 [] 0 [] 0 0 0 m.2.2.1 true [] 0 n rfl rfl (by omega) (by have := hm.2.1.1; omega) hm.2.1.2).trans ?_
  rw [Bool.true_and, List.nil_append]
  have hc : F.ref07_Rest n (m.1, m.2.1, m.2.2.1, m.2.2.2.1, m.2.2.2.2.1, m.2.2.2.2.2.1, ()) (m.2.2.1.all valOK) = some (restM m (m.2.2.1.all valOK)) := rest_ref n hn m hm.1 hm.2.2.1 hm.2.2.2 _
  rw [hc, some_bind']
  unfold normM
  rw [chk_vals m hm.2.1.2]
  by_cases h : restM m (m.2.2.1.all valOK) = 0
  · rw [if_pos h, h, refNormal_eq n hn _ (by have := hm.2.2.1; omega) hm.2.2.2, some_bind']
    have ha : m.2.2.1.all valOK = true := by
      rw [← chk_vals m hm.2.1.2] at h
      have := (chk_zero h).2.2.1
      unfold valsB valsM at this
      simp only [Bool.and_eq_true] at this
      rw [← normV_all hm.2.1.2]
      exact this.2.2
    have he : m.2.2.1.map refV = m.2.2.1.map normV := by
      apply List.map_congr_left
      intro d hd
      exact (normV_pos (List.all_eq_true.1 ha d hd)).1.symm
    rw [he]
    rfl
  · rw [if_neg h, beq_eq_false_iff_ne.2 h]
    rfl
end Go.AM
set_option linter.unusedVariables false
set_option linter.unusedSimpArgs false
namespace Go.AM
abbrev NumR := Int × (Int × Int × Unit) × Unit
def numR (v c at' : Int) : NumR := (v, (c, at', ()), ())
theorem cls4_fun : cls 4 = isDig := funext cls4
theorem fault_eq (n : Nat) (c a : Int) : F.num_fault n c a = some (0, (c, a, ()), ()) := rfl
theorem digs_of_bad {s : List UInt8} {k : Nat} (h : ¬ 0 ≤ badK isDig k s) : Digs s := Classical.byContradiction fun hh => h ((badK_ge _ _ _).2 hh)
theorem textF4 (s : List UInt8) (hs : s.length < 4611686018427387904) : textF 4 s 1 (IntKind.wrap .i64 ((s.length : Int) + 1)) = if s = [] then (13, 0, ()) else if 0 ≤ badK isDig 0 s then (14, badK isDig 0 s, ()) else (0, 0, ()) := by
  unfold textF
  rw [wrap_succ hs, cls4_fun]
  have hm : may 4 = true := rfl
  rw [if_neg (by simp [hm]; omega)]
  cases s with
  | nil => rfl
  | cons b s =>
    rw [if_neg (show ¬ (((b :: s).length : Nat) : Int) < 1 from by simp; omega), if_neg (show ¬ (((b :: s).length : Nat) : Int) > (((b :: s).length + 1 : Nat) : Int) from by omega), if_neg (show ¬ (b :: s = []) from by simp)]
theorem digits_ref_go (n : Nat) : ∀ (m u : Nat), u < 18446744073709551616 → Lib.nDigits u ≤ m → F.ref05_Digits.go n m (u : Int) = some (Lib.decDigits u) := by
  intro m
  induction m with
  | zero =>
    intro u _ h
    have := Lib.nDigits_pos u
    omega
  | succ m ih =>
    intro u hu h
    have one : ∀ d : Nat, d < 10 → sub ([48, 49, 50, 51, 52, 53, 54, 55, 56, 57] : List UInt8) (d : Int) ((d + 1 : Nat) : Int) = some [UInt8.ofNat (48 + d)] := by
      intro d hd
      rw [sub_nat _ _ _ (by omega) (by simp; omega)]
      have := (by decide : ∀ d : Fin 10, (([48, 49, 50, 51, 52, 53, 54, 55, 56, 57] : List UInt8).take (d.val + 1)).drop d.val = [UInt8.ofNat (48 + d.val)]) ⟨d, hd⟩
      rw [this]
    show (bif decide ((u : Int) < 10) then _ else _) = _
    by_cases h1 : u < 10
    · rw [bif_pos (by omega), show IntKind.wrap .u64 ((u : Int) + 1) = ((u + 1 : Nat) : Int) from by rw [IntWalk.u64_in _ (by omega)]; omega, one u h1, some_bind', dd_small h1]
    · rw [bif_neg (by omega)]
      have e1 : (u : Int).tdiv 10 = ((u / 10 : Nat) : Int) := rfl
      have e2 : (u : Int).tmod 10 = ((u % 10 : Nat) : Int) := rfl
      have hN := Lib.nDigits_big h1
      rw [e1, e2, IntWalk.u64_in _ (by omega), ih (u / 10) (by omega) (by omega), some_bind', show IntKind.wrap .u64 (((u % 10 : Nat) : Int) + 1) = ((u % 10 + 1 : Nat) : Int) from by rw [IntWalk.u64_in _ (by omega)]; omega, one (u % 10) (by omega), some_bind', dd_big h1, bif_pos]
      have := Lib.nDigits_le20 (u / 10) (by omega)
      rw [dd_length, strMax_eq]
      simp; omega
theorem digits_ref (n : Nat) (hn : 20 ≤ n) (u : Nat) (hu : u < 18446744073709551616) : F.ref05_Digits n (u : Int) = some (Lib.decDigits u) := by
  unfold F.ref05_Digits
  exact digits_ref_go n n u hu (Nat.le_trans (Lib.nDigits_le20 u hu) hn)
end Go.AM
set_option linter.unusedVariables false
set_option linter.unusedSimpArgs false
namespace Go.AM
def parseNum (s : List UInt8) (lo hi : Int) : NumR :=
  if s = [] then numR 0 13 0 else if 0 ≤ badK isDig 0 s then numR 0 14 (badK isDig 0 s) else if s.head? = some 48 ∧ 1 < s.length then numR 0 11 0
  else if 9223372036854775808 ≤ val s ∨ (val s : Int) < lo ∨ (val s : Int) > hi then numR 0 10 0 else numR (val s) 0 0
theorem o_atoi (n : Nat) {s : List UInt8} (hd : Digs s) (hn : s ≠ []) (hs : s.length ≤ 1000000) : O.atoi n s = some (if val s < 9223372036854775808 then ((val s : Int), false, ()) else (Lib.atoiSat s, true, ())) := by
  unfold O.atoi
  have : Nat.ble s.length big47 = true := by rw [Nat.ble_eq]; unfold big47; omega
  rw [this, cond_true, atoi_digs hd hn]
  by_cases h : val s < 9223372036854775808
  · rw [if_pos h, if_pos h]
  · rw [if_neg h, if_neg h]
theorem parse_num (n : Nat) (s : List UInt8) (lo hi : Int) (hs : s.length ≤ 1000000) (hn : s.length < n) : F.num_Parse n s lo hi = some (parseNum s lo hi) := by
  unfold F.num_Parse parseNum
  rw [text_cls n 4 s _ _ (by omega) hn, some_bind', textF4 s (by omega)]
  by_cases h0 : s = []
  · rw [if_pos h0, if_pos h0]; rfl
  rw [if_neg h0, if_neg h0]
  by_cases h1 : 0 ≤ badK isDig 0 s
  · rw [if_pos h1, if_pos h1]; rfl
  rw [if_neg h1, if_neg h1]
  have e : (!((0 : Int) == 0 && (0 : Int) == 0)) = false := rfl
  simp only [e, cond_false]
  have hd := digs_of_bad h1
  cases s with
  | nil => exact absurd rfl h0
  | cons b r =>
    have ei : idx (b :: r) (0 : Int) = some b := rfl
    rw [ei, some_bind', o_atoi n hd h0 hs, some_bind']
    have tail : ∀ (p : Bool) (A : Option NumR), (bif p then A else A) = A := by intro p A; cases p <;> rfl
    have core : (bif (if val (b :: r) < 9223372036854775808 then ((val (b :: r) : Int), false, ()) else (Lib.atoiSat (b :: r), true, ())).2.1 then (F.num_fault n 10 0).bind fun y6 => some ((y6.1, (y6.2.1.1, y6.2.1.2.1, ()), ()))
        else bif decide ((if val (b :: r) < 9223372036854775808 then ((val (b :: r) : Int), false, ()) else (Lib.atoiSat (b :: r), true, ())).1 < lo) then (F.num_fault n 10 0).bind fun y6 => some ((y6.1, (y6.2.1.1, y6.2.1.2.1, ()), ()))
        else bif decide ((if val (b :: r) < 9223372036854775808 then ((val (b :: r) : Int), false, ()) else (Lib.atoiSat (b :: r), true, ())).1 > hi) then (F.num_fault n 10 0).bind fun y6 => some ((y6.1, (y6.2.1.1, y6.2.1.2.1, ()), ()))
        else some (((if val (b :: r) < 9223372036854775808 then ((val (b :: r) : Int), false, ()) else (Lib.atoiSat (b :: r), true, ())).1, ((0 : Int), (0 : Int), ()), ())))
        = some (if 9223372036854775808 ≤ val (b :: r) ∨ (val (b :: r) : Int) < lo ∨ (val (b :: r) : Int) > hi then numR 0 10 0 else numR (val (b :: r)) 0 0) := by
      by_cases hv : val (b :: r) < 9223372036854775808
      · rw [if_pos hv]
        simp only [cond_false]
        by_cases g1 : (val (b :: r) : Int) < lo
        · rw [bif_pos g1, if_pos (Or.inr (Or.inl g1))]; rfl
        · rw [bif_neg g1]
          by_cases g2 : (val (b :: r) : Int) > hi
          · rw [bif_pos g2, if_pos (Or.inr (Or.inr g2))]; rfl
          · rw [bif_neg g2, if_neg (by omega)]; rfl
      · rw [if_neg hv, if_pos (Or.inl (by omega))]; rfl
    by_cases hb : b = 48
    · subst hb
      have e2 : ((((48 : UInt8).toNat : Nat) : Int) == 48) = true := rfl
      rw [e2, cond_true]
      by_cases hl : 1 < (48 :: r).length
      · rw [bif_pos (by omega), if_pos (show (48 :: r).head? = some 48 ∧ 1 < (48 :: r).length from ⟨rfl, hl⟩)]; rfl
      · rw [bif_neg (by omega), if_neg (show ¬ ((48 :: r).head? = some 48 ∧ 1 < (48 :: r).length) from fun h => hl h.2)]; exact core
    · have e2 : ((b.toNat : Int) == 48) = false := by
        have : ¬ (b.toNat : Int) = 48 := fun h => hb (u8_ext (by simp; omega))
        simpa using this
      rw [e2, cond_false, if_neg (show ¬ ((b :: r).head? = some 48 ∧ 1 < (b :: r).length) from fun h => hb (by simpa using h.1))]; exact core
theorem time_eq (n : Nat) (s : List UInt8) (hs : s.length ≤ 1000000) (hn : s.length < n) : F.num_Time n s = some (parseNum s 1 1099511627776) := by
  unfold F.num_Time
  rw [parse_num n s _ _ hs hn, some_bind']
def numText (k : Int) : List UInt8 × Int × Unit := if k < 0 then ([], 10, ()) else (Lib.decDigits k.toNat, 0, ())
theorem text_num (n : Nat) (k : Int) (h : -9223372036854775808 ≤ k ∧ k ≤ 9223372036854775807) : F.num_Text n k = some (numText k) := by
  unfold F.num_Text numText
  by_cases h0 : k < 0
  · rw [bif_pos h0, if_pos h0]
  · rw [bif_neg h0, if_neg h0]
    unfold O.itoa
    have : (decide (-9223372036854775808 ≤ k) && decide (k ≤ 9223372036854775807)) = true := by simp [h]
    rw [this, cond_true, some_bind']
    unfold Lib.itoa
    rw [if_neg h0]
theorem parse_back {s : List UInt8} {lo hi : Int} (h : (parseNum s lo hi).2.1.1 = 0) : (parseNum s lo hi).2.1.2.1 = 0 ∧ (parseNum s lo hi).1 = (val s : Int) ∧ val s < 9223372036854775808 ∧ lo ≤ (val s : Int) ∧ (val s : Int) ≤ hi ∧ Digs s ∧ Norm s := by
  unfold parseNum at h ⊢
  by_cases h0 : s = []
  · rw [if_pos h0] at h; cases h
  rw [if_neg h0] at h ⊢
  by_cases h1 : 0 ≤ badK isDig 0 s
  · rw [if_pos h1] at h; cases h
  rw [if_neg h1] at h ⊢
  by_cases h2 : s.head? = some 48 ∧ 1 < s.length
  · rw [if_pos h2] at h; cases h
  rw [if_neg h2] at h ⊢
  by_cases h3 : 9223372036854775808 ≤ val s ∨ (val s : Int) < lo ∨ (val s : Int) > hi
  · rw [if_pos h3] at h; cases h
  rw [if_neg h3]
  refine ⟨rfl, rfl, by omega, by omega, by omega, digs_of_bad h1, h0, fun h => ?_⟩
  have h4 : ¬ 1 < s.length := fun hl => h2 ⟨h, hl⟩
  have : 0 < s.length := List.length_pos_iff.2 h0
  omega
end Go.AM
set_option linter.unusedVariables false
set_option linter.unusedSimpArgs false
namespace Go.AM
def pad6 (k : Nat) : List UInt8 := (Lib.decDigits (1000000 + k)).drop 1
theorem pad6_all {k : Nat} (h : k < 1000000) : Lib.decDigits (1000000 + k) = 49 :: pad6 k ∧ (pad6 k).length = 6 ∧ Digs (pad6 k) ∧ val (pad6 k) = k := by
  have hN : (Lib.decDigits (1000000 + k)).length = 7 := by rw [dd_length]; exact Lib.nDigits_unique 6 _ (by omega) (by omega)
  have hd := dd_digs (1000000 + k)
  have hv := dd_val (1000000 + k)
  unfold pad6
  cases e : Lib.decDigits (1000000 + k) with
  | nil => rw [e] at hN; simp at hN
  | cons b r =>
    rw [e] at hN hd hv
    have hr : r.length = 6 := by simpa using hN
    obtain ⟨d1, d2⟩ := digs_cons.1 hd
    have := val_lt d2
    rw [hr] at this
    rw [val_cons, hr] at hv
    have hb : dv b = 1 := by omega
    have : b = 49 := dv_inj d1 rfl hb
    subst this
    refine ⟨rfl, hr, d2, ?_⟩
    show val r = k
    omega
def rateText (k : Int) : List UInt8 × Int × Unit :=
  if k < 1 ∨ k > 1000000 then ([], 10, ()) else if k = 1000000 then ([49], 0, ()) else ([48, 46] ++ trz (pad6 k.toNat), 0, ())
theorem rateText_num (n : Nat) (k : Int) : F.num_RateText n k = some (rateText k) := by
  unfold F.num_RateText rateText
  by_cases h1 : k < 1
  · rw [bif_pos h1, if_pos (Or.inl h1)]
  rw [bif_neg h1]
  by_cases h2 : k > 1000000
  · rw [bif_pos h2, if_pos (Or.inr h2)]
  rw [bif_neg h2, if_neg (by omega)]
  by_cases h3 : k = 1000000
  · subst h3; rfl
  have e3 : (k == 1000000) = false := by simpa using h3
  rw [e3, cond_false, if_neg h3, wrap_in (by omega)]
  obtain ⟨p1, p2, p3, p4⟩ := pad6_all (k := k.toNat) (by omega)
  have hi : O.itoa n (1000000 + k) = some (49 :: pad6 k.toNat) := by
    unfold O.itoa
    have : (decide (-9223372036854775808 ≤ 1000000 + k) && decide (1000000 + k ≤ 9223372036854775807)) = true := by simp; omega
    rw [this, cond_true]
    unfold Lib.itoa
    rw [if_neg (by omega), show (1000000 + k).toNat = 1000000 + k.toNat from by omega, p1]
  rw [hi, some_bind']
  have hsub : sub (49 :: pad6 k.toNat) 1 (((49 :: pad6 k.toNat).length : Nat) : Int) = some (pad6 k.toNat) := by
    have := sub_nat (49 :: pad6 k.toNat) 1 (49 :: pad6 k.toNat).length (by simp) (by simp)
    rw [List.take_length] at this
    exact this
  rw [hsub, some_bind']
  unfold O.trimR
  have hb : (Nat.blt (48 : UInt8).toNat 128 && Nat.ble (pad6 k.toNat).length big47) = true := by rw [p2]; rfl
  simp only [hb, cond_true, some_bind', trimR_trz]
  rw [bif_pos]
  have := trz_le (pad6 k.toNat)
  rw [strMax_eq]
  omega
theorem padl_loop (n : Nat) (X : Type) (k0 : List UInt8 → Option X) : ∀ (j m : Nat) (v : List UInt8), v.length + j = 6 → j < m → F.ref05_RateText.L4 n k0 m v = k0 (List.replicate j 48 ++ v) := by
  intro j
  induction j with
  | zero =>
    intro m v h hm
    cases m with
    | zero => omega
    | succ m =>
      show F.ref05_RateText.L4.step n _ k0 v = _
      unfold F.ref05_RateText.L4.step
      rw [bif_neg (by omega)]; rfl
  | succ j ih =>
    intro m v h hm
    cases m with
    | zero => omega
    | succ m =>
      show F.ref05_RateText.L4.step n (F.ref05_RateText.L4 n k0 m) k0 v = _
      unfold F.ref05_RateText.L4.step
      rw [bif_pos (by omega), bif_pos (by rw [strMax_eq]; omega), ih m _ (by simp; omega) (by omega), List.replicate_succ', List.append_assoc]
theorem strip_loop (n : Nat) (X : Type) (k2 : List UInt8 → Option X) (a : List UInt8) (ha : a ≠ []) (hl : ∀ x, a.getLast? = some x → x ≠ 48) (hal : a.length < 1000) : ∀ (j m : Nat), j < m → j < 1000 → F.ref05_RateText.L6 n k2 m (a ++ List.replicate j 48) = k2 a := by
  intro j
  induction j with
  | zero =>
    intro m hm hj
    cases m with
    | zero => omega
    | succ m =>
      show F.ref05_RateText.L6.step n _ k2 _ = _
      unfold F.ref05_RateText.L6.step
      rw [List.replicate_zero, List.append_nil]
      have hp : 0 < a.length := List.length_pos_iff.2 ha
      rw [wrap_in (by omega), idx_pred hp]
      have hg : a[a.length - 1]? = a.getLast? := by rw [List.getLast?_eq_getElem?]
      rw [hg]
      cases e : a.getLast? with
      | none => simp at e; exact absurd e ha
      | some x =>
        have hx := hl x e
        have e2 : ((x.toNat : Int) == 48) = false := by
          have : ¬ (x.toNat : Int) = 48 := fun h => hx (u8_ext (by simp; omega))
          simpa using this
        rw [some_bind', e2, cond_false]
  | succ j ih =>
    intro m hm hj
    cases m with
    | zero => omega
    | succ m =>
      show F.ref05_RateText.L6.step n (F.ref05_RateText.L6 n k2 m) k2 _ = _
      unfold F.ref05_RateText.L6.step
      rw [List.replicate_succ', ← List.append_assoc]
      have hlen : (a ++ List.replicate j (48 : UInt8) ++ [48]).length = a.length + j + 1 := by simp; omega
      rw [wrap_in (by omega), idx_pred (by omega)]
      have hg : (a ++ List.replicate j (48 : UInt8) ++ [48])[(a ++ List.replicate j (48 : UInt8) ++ [48]).length - 1]? = some 48 := by
        rw [← List.getLast?_eq_getElem?]; simp
      rw [hg, some_bind']
      have e2 : ((((48 : UInt8).toNat : Nat) : Int) == 48) = true := rfl
      rw [e2, cond_true]
      have hs : sub (a ++ List.replicate j (48 : UInt8) ++ [48]) 0 (((a ++ List.replicate j (48 : UInt8) ++ [48]).length : Int) - 1) = some (a ++ List.replicate j 48) := by
        have := sub_nat (a ++ List.replicate j (48 : UInt8) ++ [48]) 0 (a.length + j) (by omega) (by rw [hlen]; omega)
        rw [hlen, show (((a.length + j + 1 : Nat) : Int) - 1) = ((a.length + j : Nat) : Int) from by omega]
        refine this.trans ?_
        rw [List.drop_zero, List.take_append_of_le_length (by simp), List.take_of_length_le (by simp)]
      rw [hs, some_bind']
      exact ih m (by omega) (by omega)
theorem rateText_ref (n : Nat) (hn : 100 ≤ n) (k : Int) (h : 1 ≤ k ∧ k ≤ 1000000) : F.ref05_RateText n k = some (rateText k).1 := by
  unfold F.ref05_RateText rateText
  rw [if_neg (by omega)]
  by_cases h3 : k = 1000000
  · subst h3; rfl
  have e3 : (k == 1000000) = false := by simpa using h3
  rw [e3, cond_false, if_neg h3]
  obtain ⟨u, rfl⟩ : ∃ u : Nat, k = u := ⟨k.toNat, by omega⟩
  rw [IntWalk.u64_in _ (by omega), digits_ref n (by omega) u (by omega), some_bind']
  have hl : (Lib.decDigits u).length ≤ 6 := dd_length_le (by omega) (by omega)
  obtain ⟨p1, p2, p3, p4⟩ := pad6_all (k := u) (by omega)
  have hpad : List.replicate (6 - (Lib.decDigits u).length) 48 ++ Lib.decDigits u = pad6 u :=
    val_inj (digs_append.2 ⟨digs_rep _, dd_digs u⟩) p3 (by simp; omega) (by rw [val_zeros_left, dd_val, p4])
  rw [padl_loop n _ _ (6 - (Lib.decDigits u).length) n _ (by omega) (by omega), hpad]
  have ht := trz_le (pad6 u)
  have hne : trz (pad6 u) ≠ [] := fun hh => by have := (trz_nil p3).1 hh; omega
  conv => lhs; rw [trz_pad (pad6 u)]
  rw [strip_loop n _ _ (trz (pad6 u)) hne (fun x => trz_last) (by omega) _ n (by omega) (by omega), bif_pos (by rw [strMax_eq]; omega)]
  simp
def rateR (s : List UInt8) : NumR :=
  if s = [49] then numR 1000000 0 0 else if s = [] then numR 0 13 0 else if s.head? ≠ some 48 then numR 0 11 0 else if (s.drop 1).head? ≠ some 46 then numR 0 11 1
  else if s.drop 2 = [] then numR 0 13 2 else if 0 ≤ badK isDig 0 (s.drop 2) then numR 0 14 (2 + badK isDig 0 (s.drop 2)) else if 6 < (s.drop 2).length then numR 0 12 8
  else if val (s.drop 2) = 0 then numR 0 10 0 else numR ((val (s.drop 2) * 10 ^ (6 - (s.drop 2).length) : Nat) : Int) 0 0
theorem rate_digs_loop (n : Nat) (X : Type) (k3 : Int → Int → Int → Int → Int → Int → Int → Option X) (d : List UInt8) (hd : Digs d) (hl : d.length ≤ 6) (a b c e f g : Int) : ∀ (j i m : Nat), i + j = 6 → j < m →
    F.num_Rate.L23 n k3 m d (i : Int) a b c e f g (val ((d ++ List.replicate (6 - d.length) 48).take i) : Int) = k3 a b c e f g ((val d * 10 ^ (6 - d.length) : Nat) : Int) := by
  have hD : Digs (d ++ List.replicate (6 - d.length) 48) := digs_append.2 ⟨hd, digs_rep _⟩
  have hL : (d ++ List.replicate (6 - d.length) (48 : UInt8)).length = 6 := by simp; omega
  intro j
  induction j with
  | zero =>
    intro i m hi hm
    cases m with
    | zero => omega
    | succ m =>
      show F.num_Rate.L23.step n _ k3 d _ _ _ _ _ _ _ _ = _
      unfold F.num_Rate.L23.step
      rw [bif_neg (by omega), List.take_of_length_le (by omega), val_zeros_right]
  | succ j ih =>
    intro i m hi hm
    cases m with
    | zero => omega
    | succ m =>
      show F.num_Rate.L23.step n (F.num_Rate.L23 n k3 m) k3 d _ _ _ _ _ _ _ _ = _
      unfold F.num_Rate.L23.step
      rw [bif_pos (by omega), wrap_succ (by omega)]
      have hb : val ((d ++ List.replicate (6 - d.length) 48).take i) < 10 ^ i := by
        have := val_lt (digs_take i hD)
        rw [List.length_take, hL, Nat.min_eq_left (by omega)] at this
        exact this
      have hp : (10 : Nat) ^ i ≤ 10 ^ 6 := Nat.pow_le_pow_right (by omega) (by omega)
      have hstep : ∀ x, (d ++ List.replicate (6 - d.length) (48 : UInt8))[i]? = some x → val ((d ++ List.replicate (6 - d.length) 48).take (i + 1)) = val ((d ++ List.replicate (6 - d.length) 48).take i) * 10 + dv x := by
        intro x hx
        rw [List.take_add_one, hx]
        exact val_snoc _ _
      by_cases hlt : i < d.length
      · have hx : (d ++ List.replicate (6 - d.length) (48 : UInt8))[i]? = d[i]? := List.getElem?_append_left hlt
        rw [bif_pos (by omega), idx_lt hlt, some_bind']
        have hg : d[i]? = some d[i] := by simp [hlt]
        have hdx := List.all_eq_true.1 hd d[i] (List.getElem_mem hlt)
        have hdi := isDig_iff.1 hdx
        have hv := hstep d[i] (hx.trans hg)
        have hdl := dv_lt hdx
        have h8 : IntKind.wrap .i64 (IntKind.wrap .u8 ((d[i].toNat : Int) - 48)) = (dv d[i] : Int) := by
          rw [IntWalk.u8_in _ (by omega), wrap_in (by omega)]; unfold dv; omega
        rw [h8, wrap_in (x := 10 * _) (by omega), wrap_in (by omega), show 10 * (val ((d ++ List.replicate (6 - d.length) (48 : UInt8)).take i) : Int) + (dv d[i] : Int) = (val ((d ++ List.replicate (6 - d.length) (48 : UInt8)).take (i + 1)) : Int) from by omega]
        exact ih (i + 1) m (by omega) (by omega)
      · have hx : (d ++ List.replicate (6 - d.length) (48 : UInt8))[i]? = some 48 := by
          rw [List.getElem?_append_right (by omega), List.getElem?_replicate, if_pos (by omega)]
        have hv := hstep 48 hx
        rw [dv_48] at hv
        rw [bif_neg (by omega), wrap_in (x := 10 * _) (by omega), wrap_in (by omega), show 10 * (val ((d ++ List.replicate (6 - d.length) (48 : UInt8)).take i) : Int) + 0 = (val ((d ++ List.replicate (6 - d.length) (48 : UInt8)).take (i + 1)) : Int) from by omega]
        exact ih (i + 1) m (by omega) (by omega)
theorem rate_head_loop (n : Nat) (X : Type) (k0 : List UInt8 → Int → Int → Int → Int → Option X) (s : List UInt8) (m : Nat) (hm : 3 ≤ m) :
    F.num_Rate.L5 n k0 m s (48, 46, ()) 0 0 0 0 0 = if s = [] then k0 s 0 0 13 0 else if s.head? ≠ some 48 then k0 s 0 0 11 0 else if (s.drop 1).head? ≠ some 46 then k0 s 0 0 11 1 else k0 s 0 0 0 0 := by
  obtain ⟨m, rfl⟩ : ∃ q, m = q + 3 := ⟨m - 3, by omega⟩
  show F.num_Rate.L5.step n (F.num_Rate.L5 n k0 (m + 2)) k0 s _ _ _ _ _ _ = _
  have hb : ∀ (b c : UInt8), ((b.toNat : Int) == (c.toNat : Int)) = decide (b = c) := by
    intro b c
    by_cases h : b = c
    · simp [h]
    · have : ¬ (b.toNat : Int) = (c.toNat : Int) := fun hh => h (u8_ext (by omega))
      simp [h, this]
  cases s with
  | nil => rfl
  | cons b r =>
    have e48 : ((b.toNat : Int) == 48) = decide (b = 48) := hb b 48
    unfold F.num_Rate.L5.step
    have a1 : decide ((0 : Int) < 2) = true := rfl
    have a2 : ((0 : Int) == 0) = true := rfl
    have a3 : ((0 : Int) == (((b :: r).length : Nat) : Int)) = false := by
      have : ¬ (0 : Int) = (((b :: r).length : Nat) : Int) := by simp; omega
      simpa using this
    have a4 : decide ((0 : Int) ≥ (((b :: r).length : Nat) : Int)) = false := by
      have : ¬ (0 : Int) ≥ (((b :: r).length : Nat) : Int) := by simp only [List.length_cons]; omega
      exact decide_eq_false this
    have a5 : idx (b :: r) (0 : Int) = some b := rfl
    rw [a1, a2, a3, a4, a5, cond_true, cond_true, cond_false, cond_false, some_bind', e48]
    by_cases h1 : b = 48
    · subst h1
      simp only [decide_true, Bool.not_true, cond_false]
      show F.num_Rate.L5.step n (F.num_Rate.L5 n k0 (m + 1)) k0 _ _ 1 _ _ _ _ = _
      unfold F.num_Rate.L5.step
      have c1 : decide ((1 : Int) < 2) = true := rfl
      have c2 : ((1 : Int) == 0) = false := rfl
      have c3 : ((1 : Int) == 1) = true := rfl
      rw [c1, c2, c3, cond_true, cond_false, cond_true]
      cases r with
      | nil => rfl
      | cons c r =>
        have e46 : ((c.toNat : Int) == 46) = decide (c = 46) := hb c 46
        have b3 : ((1 : Int) == (((48 :: c :: r).length : Nat) : Int)) = false := by
          have : ¬ (1 : Int) = (((48 :: c :: r).length : Nat) : Int) := by simp; omega
          simpa using this
        have b4 : decide ((1 : Int) ≥ (((48 :: c :: r).length : Nat) : Int)) = false := by
          have : ¬ (1 : Int) ≥ (((48 :: c :: r).length : Nat) : Int) := by simp; omega
          simpa using this
        have b5 : idx (48 :: c :: r) (1 : Int) = some c := rfl
        rw [b3, b4, b5, cond_false, cond_false, some_bind', e46]
        by_cases h2 : c = 46
        · subst h2
          rfl
        · simp [h2]
    · simp [h1]
theorem rate_num (n : Nat) (hn : 100 ≤ n) (s : List UInt8) (hs : s.length ≤ 1000000) (hl : s.length < n) : F.num_Rate n s = some (rateR s) := by
  unfold F.num_Rate rateR
  by_cases h1 : s = [49]
  · rw [if_pos h1, h1]; rfl
  have e1 : (s == [49]) = false := by simpa using h1
  rw [e1, cond_false, if_neg h1, rate_head_loop n _ _ s n (by omega)]
  by_cases h2 : s = []
  · rw [if_pos h2, if_pos h2]; rfl
  rw [if_neg h2, if_neg h2]
  by_cases h3 : s.head? ≠ some 48
  · rw [if_pos h3, if_pos h3]; rfl
  rw [if_neg h3, if_neg h3]
  by_cases h4 : (s.drop 1).head? ≠ some 46
  · rw [if_pos h4, if_pos h4]; rfl
  rw [if_neg h4, if_neg h4]
  have e2 : (!((0 : Int) == 0 && (0 : Int) == 0)) = false := rfl
  simp only [e2, cond_false]
  have hlen : 2 ≤ s.length := by
    cases s with
    | nil => exact absurd rfl h2
    | cons b r => cases r with
      | nil => simp at h4
      | cons => simp
  have hsub : sub s 2 (s.length : Int) = some (s.drop 2) := by
    have := sub_nat s 2 s.length hlen (Nat.le_refl _)
    rw [List.take_length] at this
    exact this
  have hdl : (s.drop 2).length + 2 = s.length := by simp; omega
  rw [hsub, some_bind', text_cls n 4 _ _ _ (by omega) (by omega), some_bind', textF4 _ (by omega)]
  generalize s.drop 2 = d at hdl ⊢
  by_cases h5 : d = []
  · rw [if_pos h5, if_pos h5]; rfl
  rw [if_neg h5, if_neg h5]
  by_cases h6 : 0 ≤ badK isDig 0 d
  · rw [if_pos h6, if_pos h6]
    have := badK_hi isDig 0 d
    have e : (!((14 : Int) == 0 && badK isDig 0 d == 0)) = true := rfl
    simp only [e, cond_true, fault_eq, some_bind']
    rw [wrap_in (by omega)]
    rfl
  rw [if_neg h6, if_neg h6]
  simp only [e2, cond_false]
  have hd := digs_of_bad h6
  by_cases h7 : 6 < d.length
  · rw [bif_pos (by omega), if_pos h7]; rfl
  rw [bif_neg (by omega), if_neg h7]
  have := rate_digs_loop n _ (fun e12_b0_0 e12_b0_1 e12_b1_0 e12_b1_1 e12_b2_0 e12_b2_1 e12_b3_0 =>
                    bif e12_b3_0 == (0 : Int) then
                      (F.num_fault n (10 : Int) (0 : Int)).bind fun y13 =>
                        some ((y13.1, (y13.2.1.1, y13.2.1.2.1, ()), ()))
                    else
                      some ((e12_b3_0, ((0 : Int), (0 : Int), ()), ()))) d hd (by omega) 0 0 0 0 0 0 6 0 n (by omega) (by omega)
  refine this.trans ?_
  have hpp : 0 < 10 ^ (6 - d.length) := Nat.pow_pos (by omega)
  by_cases h8 : val d = 0
  · rw [if_pos h8, h8, Nat.zero_mul]; rfl
  · rw [if_neg h8]
    have : ¬ ((val d * 10 ^ (6 - d.length) : Nat) : Int) = 0 := by
      have := Nat.mul_pos (Nat.pos_of_ne_zero h8) hpp
      omega
    have e : (((val d * 10 ^ (6 - d.length) : Nat) : Int) == 0) = false := by simpa using this
    rw [e, cond_false]
    rfl
end Go.AM
set_option linter.unusedVariables false
set_option linter.unusedSimpArgs false
namespace Go.AM
theorem rate_form (d : List UInt8) : rateR (48 :: 46 :: d) = if d = [] then numR 0 13 2 else if 0 ≤ badK isDig 0 d then numR 0 14 (2 + badK isDig 0 d) else if 6 < d.length then numR 0 12 8
    else if val d = 0 then numR 0 10 0 else numR ((val d * 10 ^ (6 - d.length) : Nat) : Int) 0 0 := by
  unfold rateR
  rw [if_neg (by simp), if_neg (by simp), if_neg (by simp), if_neg (by simp)]
  rfl
theorem rateText_form {k : Int} (hk : 1 ≤ k ∧ k < 1000000) : rateText k = (48 :: 46 :: trz (pad6 k.toNat), 0, ()) := by
  unfold rateText
  rw [if_neg (by omega), if_neg (by omega)]; rfl
theorem rate_ok {s : List UInt8} (h : (rateR s).2.1.1 = 0) : (rateR s).2.1.2.1 = 0 ∧ 1 ≤ (rateR s).1 ∧ (rateR s).1 ≤ 1000000 ∧ (rateText (rateR s).1).2.1 = 0 ∧
    ∃ a j, s = a ++ List.replicate j 48 ∧ (rateText (rateR s).1).1 = a ∧ a ≠ [] ∧ (∀ x, a.getLast? = some x → x ≠ 48) := by
  by_cases h1 : s = [49]
  · subst h1
    exact ⟨rfl, by decide, by decide, rfl, [49], 0, rfl, rfl, by simp, by simp⟩
  have e := h
  unfold rateR at e
  rw [if_neg h1] at e
  by_cases h2 : s = []
  · rw [if_pos h2] at e; cases e
  rw [if_neg h2] at e
  by_cases h3 : s.head? ≠ some 48
  · rw [if_pos h3] at e; cases e
  rw [if_neg h3] at e
  by_cases h4 : (s.drop 1).head? ≠ some 46
  · rw [if_pos h4] at e; cases e
  clear e
  obtain ⟨d, rfl⟩ : ∃ d, s = 48 :: 46 :: d := by
    cases s with
    | nil => exact absurd rfl h2
    | cons b r => cases r with
      | nil => simp at h4
      | cons c r =>
        simp at h3 h4
        exact ⟨r, by rw [h3, h4]⟩
  rw [rate_form] at h ⊢
  by_cases g1 : d = []
  · rw [if_pos g1] at h; cases h
  rw [if_neg g1] at h ⊢
  by_cases g2 : 0 ≤ badK isDig 0 d
  · rw [if_pos g2] at h; cases h
  rw [if_neg g2] at h ⊢
  by_cases g3 : 6 < d.length
  · rw [if_pos g3] at h; cases h
  rw [if_neg g3] at h ⊢
  by_cases g4 : val d = 0
  · rw [if_pos g4] at h; cases h
  rw [if_neg g4]
  have hd := digs_of_bad g2
  have hp : 0 < 10 ^ (6 - d.length) := Nat.pow_pos (by omega)
  have hpos := Nat.mul_pos (Nat.pos_of_ne_zero g4) hp
  have hub : val d * 10 ^ (6 - d.length) < 1000000 := by
    have h5 := val_lt (digs_append.2 ⟨hd, digs_rep (6 - d.length)⟩)
    rw [val_zeros_right, List.length_append, List.length_replicate, show d.length + (6 - d.length) = 6 from by omega] at h5
    exact h5
  have hk : 1 ≤ ((val d * 10 ^ (6 - d.length) : Nat) : Int) ∧ ((val d * 10 ^ (6 - d.length) : Nat) : Int) < 1000000 := by omega
  have hf := rateText_form hk
  obtain ⟨p1, p2, p3, p4⟩ := pad6_all hub
  have hpd : pad6 (val d * 10 ^ (6 - d.length)) = d ++ List.replicate (6 - d.length) 48 :=
    val_inj p3 (digs_append.2 ⟨hd, digs_rep _⟩) (by simp; omega) (by rw [p4, val_zeros_right])
  have ht : trz (pad6 (val d * 10 ^ (6 - d.length))) = trz d := by rw [hpd, trz_zeros]
  have hne : trz d ≠ [] := fun hh => g4 ((trz_nil hd).1 hh)
  show (0 : Int) = 0 ∧ _ ∧ _ ∧ (rateText ((val d * 10 ^ (6 - d.length) : Nat) : Int)).2.1 = 0 ∧ ∃ a j, _ ∧ (rateText ((val d * 10 ^ (6 - d.length) : Nat) : Int)).1 = a ∧ _
  rw [hf]
  refine ⟨rfl, hk.1, by show ((val d * 10 ^ (6 - d.length) : Nat) : Int) ≤ 1000000; omega, rfl, 48 :: 46 :: trz d, d.length - (trz d).length, ?_, ?_, by simp, ?_⟩
  · rw [List.cons_append, List.cons_append, ← trz_pad]
  · show 48 :: 46 :: trz (pad6 (val d * 10 ^ (6 - d.length))) = _
    rw [ht]
  · intro x hx
    refine trz_last (l := d) ?_
    rw [← hx]
    cases e : trz d with
    | nil => exact absurd e hne
    | cons b r => simp [List.getLast?_cons]
end Go.AM
set_option linter.unusedVariables false
set_option linter.unusedSimpArgs false
namespace Go.AM
def TagS (t : TagL) : Prop := t.1.length ≤ 1000 ∧ t.2.length ≤ 1000
theorem textF_zero {c : Int} {s : List UInt8} {lo hi : Int} (h : (textF c s lo hi).1 = 0) : lo ≤ (s.length : Int) ∧ (s.length : Int) ≤ hi ∧ s.all (cls c) = true := by
  unfold textF at h
  split at h
  · cases h
  · split at h
    · cases h
    · split at h
      · cases h
      · split at h
        · cases h
        · rename_i h1 h2 h3 h4
          exact ⟨by omega, by omega, Classical.byContradiction fun hh => h4 ((badK_ge _ _ _).2 hh)⟩
theorem tagGood_le {t : TagL} (h : tagGood t = true) : TagS t := by
  unfold tagGood at h
  simp only [Bool.and_eq_true, beq_iff_eq] at h
  have h1 := textF_zero h.1
  have h2 := textF_zero h.2
  exact ⟨by omega, by omega⟩
theorem growS {X : Type} {a b : Nat} (h : a + b ≤ 1000000) (y : Option X) : (bif decide (a + b ≤ strMax) then y else none) = y := by
  rw [decide_eq_true (by rw [strMax_eq]; omega)]; rfl
theorem growB {X : Type} {a b : Nat} (h : a + b ≤ 1000000) (y : Option X) : (bif decide ((a + b) * 1 ≤ 2 ^ 46) && decide (0 < 1 ∧ 1 ≤ 2 ^ 20) then y else none) = y := by
  rw [decide_eq_true (by omega)]; rfl
theorem growL {X : Type} {a : Nat} (h : a ≤ 1000000) (y : Option X) : (bif decide ((a + 1) * 16 ≤ 2 ^ 46) && decide (0 < 16 ∧ 16 ≤ 2 ^ 20) then y else none) = y := by
  rw [decide_eq_true (by omega)]; rfl
def wordT (k : Int) : List UInt8 := if k = 1 then [99] else if k = 2 then [103] else if k = 3 then [109, 115] else if k = 4 then [104] else if k = 5 then [100] else []
theorem kind_five {k : Int} (h : kindB k = true) : k = 1 ∨ k = 2 ∨ k = 3 ∨ k = 4 ∨ k = 5 := by
  unfold kindB at h
  simp only [Bool.and_eq_true, decide_eq_true_eq] at h
  omega
theorem word_eq (n : Nat) (k : Int) : F.dog_Word n k = some (if kindB k then (wordT k, 0, ()) else ([], 16, ())) := by
  unfold F.dog_Word
  by_cases h1 : k < 1
  · have : kindB k = false := by unfold kindB; rw [decide_eq_false (by omega)]; rfl
    rw [bif_pos h1, this]; rfl
  · rw [bif_neg h1]
    by_cases h2 : k > 5
    · have : kindB k = false := by unfold kindB; rw [decide_eq_false (by omega : ¬ k ≤ 5), Bool.and_false]
      rw [bif_pos h2, this]; rfl
    · have hk : k = 1 ∨ k = 2 ∨ k = 3 ∨ k = 4 ∨ k = 5 := by omega
      rw [bif_neg h2]
      rcases hk with rfl | rfl | rfl | rfl | rfl <;> rfl
theorem word_short (k : Int) : (wordT k).length ≤ 2 := by
  unfold wordT; repeat' split
  all_goals decide
def textL (d : DecL) : List UInt8 := textD d.1 d.2.1.toNat d.2.2
def valsT (vs : List DecL) : List UInt8 := (vs.map fun d => 58 :: textL d).flatten
def oneT (t : TagL) : List UInt8 := if t.2 = [] then t.1 else t.1 ++ ([58] ++ t.2)
def tagText (ts : List TagL) : List UInt8 := Lib.join (ts.map oneT) [44]
def rateP (r : Int) : List UInt8 := if r = 1000000 then [] else [124, 64] ++ (rateText r).1
def tagsP (ts : List TagL) : List UInt8 := if ts = [] then [] else [124, 35] ++ tagText ts
def timeP (t : Int) : List UInt8 := if t = 0 then [] else [124, 84] ++ Lib.decDigits t.toNat
def lineD (m : MetD) : List UInt8 := m.1 ++ valsT m.2.2.1 ++ ([124] ++ wordT m.2.1) ++ rateP m.2.2.2.1 ++ tagsP m.2.2.2.2.1 ++ timeP m.2.2.2.2.2.1
theorem valsT_le {vs : List DecL} (h : ∀ d ∈ vs, DecLOK d ∧ decC d = 0) : (valsT vs).length ≤ 40 * vs.length := by
  induction vs with
  | nil => simp [valsT]
  | cons d vs ih =>
    have := textD_le (h d (by simp)).1 (h d (by simp)).2
    have h2 := ih (fun x hx => h x (List.mem_cons_of_mem _ hx))
    have e : (valsT (d :: vs)).length = (textL d).length + 1 + (valsT vs).length := by simp [valsT]; omega
    have e2 : (textL d).length ≤ 39 := this
    simp only [List.length_cons]
    omega
theorem oneT_le {t : TagL} (h : TagS t) : (oneT t).length ≤ 2001 := by
  unfold oneT
  have := h.1; have := h.2
  split <;> simp <;> omega
theorem join_le (sep : List UInt8) (b : Nat) : ∀ l : List (List UInt8), (∀ x ∈ l, x.length ≤ b) → (Lib.join l sep).length ≤ l.length * (b + sep.length) := by
  intro l h
  cases l with
  | nil => simp [Lib.join]
  | cons x l =>
    rw [Lib.join_cons]
    have : ∀ l : List (List UInt8), (∀ x ∈ l, x.length ≤ b) → (Lib.joinTail sep l).length ≤ l.length * (b + sep.length) := by
      intro l
      induction l with
      | nil => intro _; simp [Lib.joinTail]
      | cons y l ih =>
        intro h
        have h1 := ih (fun x hx => h x (List.mem_cons_of_mem _ hx))
        have h2 := h y (by simp)
        have : Lib.joinTail sep (y :: l) = sep ++ y ++ Lib.joinTail sep l := by simp [Lib.joinTail]
        rw [this, List.length_append, List.length_append, List.length_cons, Nat.add_mul]
        omega
    have h1 := this l (fun x hx => h x (List.mem_cons_of_mem _ hx))
    have h2 := h x (by simp)
    rw [List.length_append, List.length_cons, Nat.add_mul]
    omega
theorem tagText_le {ts : List TagL} (h : ∀ t ∈ ts, TagS t) (hl : ts.length ≤ 32) : (tagText ts).length ≤ 70000 := by
  unfold tagText
  have := join_le [44] 2001 (ts.map oneT) (fun x hx => by
    obtain ⟨t, ht, rfl⟩ := List.mem_map.1 hx
    exact oneT_le (h t ht))
  rw [List.length_map] at this
  have h2 : ts.length * (2001 + [(44 : UInt8)].length) ≤ 32 * 2002 := Nat.mul_le_mul_right _ hl
  omega
theorem tagText_loop (n : Nat) (hn : 200000 ≤ n) (X : Type) (k0 : List (List UInt8) → Nat → Option X) (kr : List UInt8 → Int → Int → Option X) (ts : List TagL) (hl : ts.length ≤ 1000) (hok : ∀ t ∈ ts, TagS t ∧ tagGood t = true) : ∀ (r : List TagL) (acc : List (List UInt8)) (i m : Nat), ts.drop i = r → acc.length ≤ i → i ≤ ts.length → r.length < m →
    F.tag_Text.L3 n k0 kr m acc ts (ts.length : Int) (i : Int) acc.length = k0 (acc ++ r.map oneT) (acc ++ r.map oneT).length := by
  intro r
  induction r with
  | nil =>
    intro acc i m h1 h2 hi hm
    obtain ⟨m, rfl⟩ : ∃ q, m = q + 1 := ⟨m - 1, by omega⟩
    rw [F.tag_Text.L3]
    unfold F.tag_Text.L3.step
    dsimp only
    rw [bif_neg (by have := drop_nil' h1; omega)]
    simp
  | cons t r ih =>
    intro acc i m h1 h2 hi hm
    obtain ⟨m, rfl⟩ : ∃ q, m = q + 1 := ⟨m - 1, by simp at hm; omega⟩
    obtain ⟨l1, g1, t1⟩ := drop_cons h1
    simp only [List.length_cons] at hm
    obtain ⟨ht, hg⟩ := hok t (List.mem_of_getElem? g1)
    have a1 := ht.1
    have a2 := ht.2
    have hih := ih (acc ++ [oneT t]) (i + 1) m t1 (by simp; omega) (by omega) (by omega)
    have e : acc ++ [oneT t] ++ r.map oneT = acc ++ (t :: r).map oneT := by simp
    rw [e] at hih
    rw [F.tag_Text.L3]
    unfold F.tag_Text.L3.step
    dsimp only
    rw [bif_pos (by omega), idx_nat, g1, some_bind', tag_chk n hn ⟨by omega, by omega⟩, some_bind', hg, cond_true]
    rw [wrap_succ (by omega), Nat.beq_refl, growL (by omega), growL (by omega)]
    simp only [beq_self_eq_true, Bool.not_true, cond_false, cond_true]
    by_cases h0 : t.2 = []
    · rw [h0, beq_self_eq_true, Bool.not_true, cond_false]
      have e1 : oneT t = t.1 := by unfold oneT; rw [if_pos h0]
      rw [e1] at hih
      exact hih
    · rw [beq_eq_false_iff_ne.2 h0, Bool.not_false, cond_true, growS (by omega), growS (by simp only [List.length_append, List.length_cons, List.length_nil]; omega)]
      have e1 : oneT t = t.1 ++ ([58] ++ t.2) := by unfold oneT; rw [if_neg h0]
      rw [e1] at hih
      exact hih
theorem tagText_eq (n : Nat) (hn : 200000 ≤ n) (ts : List TagL) (hl : ts.length ≤ 32) (hok : ∀ t ∈ ts, TagS t ∧ tagGood t = true) : F.tag_Text n ts = some (tagText ts, 0, 0, ()) := by
  unfold F.tag_Text
  refine (tagText_loop n hn _ _ _ ts (by omega) hok ts [] 0 n rfl (by simp) (by omega) (by omega)).trans ?_
  have e1 : O.join n (ts.map oneT) [44] = some (tagText ts) := by
    unfold O.join
    have h2 := tagText_le (fun t ht => (hok t ht).1) hl
    unfold tagText at h2
    have : (Nat.ble (ts.map oneT).length big47 && Nat.ble (Lib.join (ts.map oneT) [44]).length big47) = true := by
      simp only [Bool.and_eq_true, nble, big47, List.length_map]
      omega
    rw [this, cond_true]; rfl
  show (O.join n (ts.map oneT) [44]).bind _ = _
  rw [e1]; rfl
theorem one_ref (n : Nat) {t : TagL} (h : TagS t) : F.ref06_One n (t.1, t.2, ()) = some (oneT t) := by
  unfold F.ref06_One oneT
  have a1 := h.1
  have a2 := h.2
  dsimp only
  by_cases h0 : t.2 = []
  · rw [h0, beq_self_eq_true, cond_true, if_pos rfl]
  · rw [beq_eq_false_iff_ne.2 h0, cond_false, growS (by omega), growS (by simp only [List.length_append, List.length_cons, List.length_nil]; omega), if_neg h0]
    simp
theorem refText_loop (n : Nat) (X : Type) (k0 : List UInt8 → Option X) (ts : List TagL) (hl : ts.length ≤ 32) (hok : ∀ t ∈ ts, TagS t) : ∀ (r : List TagL) (acc : List UInt8) (i m : Nat), ts.drop i = r → 0 < i → acc.length ≤ i * 3000 → i ≤ ts.length → r.length < m →
    F.ref06_Text.L3 n k0 m ts acc (i : Int) = k0 (acc ++ Lib.joinTail [44] (r.map oneT)) := by
  intro r
  induction r with
  | nil =>
    intro acc i m h1 h0 h2 hi hm
    obtain ⟨m, rfl⟩ : ∃ q, m = q + 1 := ⟨m - 1, by omega⟩
    rw [F.ref06_Text.L3]
    unfold F.ref06_Text.L3.step
    dsimp only
    rw [bif_neg (by have := drop_nil' h1; omega)]
    simp [Lib.joinTail]
  | cons t r ih =>
    intro acc i m h1 h0 h2 hi hm
    obtain ⟨m, rfl⟩ : ∃ q, m = q + 1 := ⟨m - 1, by simp at hm; omega⟩
    obtain ⟨l1, g1, t1⟩ := drop_cons h1
    simp only [List.length_cons] at hm
    have ht := hok t (List.mem_of_getElem? g1)
    have hlen := oneT_le ht
    rw [F.ref06_Text.L3]
    unfold F.ref06_Text.L3.step
    dsimp only
    rw [bif_pos (by omega), bif_pos (by omega), growS (by omega), idx_nat, g1, some_bind', one_ref n ht, some_bind', growS (by simp only [List.length_append, List.length_cons, List.length_nil]; omega), wrap_succ (by omega)]
    rw [ih (acc ++ [44] ++ oneT t) (i + 1) m t1 (by omega) (by simp only [List.length_append, List.length_cons, List.length_nil]; omega) (by omega) (by omega)]
    simp [Lib.joinTail]
theorem refText_eq (n : Nat) (hn : 200000 ≤ n) (ts : List TagL) (hl : ts.length ≤ 32) (hok : ∀ t ∈ ts, TagS t) : F.ref06_Text n ts = some (tagText ts) := by
  unfold F.ref06_Text
  cases ts with
  | nil =>
    obtain ⟨m, rfl⟩ : ∃ q, n = q + 1 := ⟨n - 1, by omega⟩
    rfl
  | cons t r =>
    obtain ⟨m, hm⟩ : ∃ q, n = q + 1 := ⟨n - 1, by omega⟩
    have ht := hok t (by simp)
    have hlen := oneT_le ht
    have h1 : ∀ k0 : List UInt8 → Option (List UInt8), F.ref06_Text.L3 n k0 (m + 1) (t :: r) [] (0 : Int) = k0 (tagText (t :: r)) := by
      intro k0
      rw [F.ref06_Text.L3]
      unfold F.ref06_Text.L3.step
      dsimp only
      rw [bif_pos (by simp), bif_neg (by omega), show (0 : Int) = ((0 : Nat) : Int) from rfl, idx_nat, List.getElem?_cons_zero, some_bind', one_ref n ht, some_bind', growS (by simp only [List.length_nil]; omega), wrap_succ (by omega)]
      rw [refText_loop n _ k0 (t :: r) hl hok r ([] ++ oneT t) 1 m rfl (by omega) (by simp only [List.length_append, List.length_nil]; omega) (by simp) (by simp at hl; omega)]
      unfold tagText
      rw [List.map_cons, Lib.join_cons, List.nil_append]
    rw [hm] at h1 ⊢
    exact h1 _
end Go.AM
set_option linter.unusedVariables false
set_option linter.unusedSimpArgs false
namespace Go.AM
theorem rateP_le {k r : Int} (h : rateB k r = true) : (rateP r).length ≤ 20 ∧ (rateText r).2.1 = 0 ∧ 1 ≤ r ∧ r ≤ 1000000 := by
  have hr : 1 ≤ r ∧ r ≤ 1000000 := by
    unfold rateB at h
    simp only [Bool.and_eq_true, decide_eq_true_eq] at h
    exact ⟨h.1, h.2.1⟩
  by_cases e : r = 1000000
  · subst e; exact ⟨by decide, by decide, by omega, by omega⟩
  · have hf := rateText_form (k := r) ⟨hr.1, by omega⟩
    have h6 := (pad6_all (k := r.toNat) (by omega)).2.1
    have ht := trz_le (pad6 r.toNat)
    unfold rateP
    rw [if_neg e, hf]
    refine ⟨?_, rfl, hr⟩
    simp only [List.length_append, List.length_cons, List.length_nil]
    omega
theorem timeP_le {t : Int} (h : timeB t = true) : (timeP t).length ≤ 24 ∧ 0 ≤ t ∧ t ≤ 1099511627776 := by
  have hr : 0 ≤ t ∧ t ≤ 1099511627776 := by
    unfold timeB at h
    simpa only [Bool.and_eq_true, decide_eq_true_eq] using h
  refine ⟨?_, hr⟩
  have := dd_len64 (c := t.toNat) (by rw [two64_eq]; omega)
  unfold timeP
  split
  · simp
  · simp only [List.length_append, List.length_cons, List.length_nil]; omega
theorem refvals_loop (n : Nat) (hn : 200000 ≤ n) (X : Type) (k0 : List UInt8 → List UInt8 → Int → List DecL → Int → List TagL → Int → Option X) (b0 : List UInt8) (b1 : Int) (vs : List DecL) (b3 : Int) (b4 : List TagL) (b5 : Int) (hl : vs.length ≤ 100) (hok : ∀ d ∈ vs, DecLOK d ∧ decC d = 0) : ∀ (r : List DecL) (acc : List UInt8) (i m : Nat), vs.drop i = r → acc.length ≤ 1000 + i * 40 → i ≤ vs.length → r.length < m →
    F.ref11_Line.L3 n k0 m acc (i : Int) b0 b1 vs b3 b4 b5 = k0 (acc ++ valsT r) b0 b1 vs b3 b4 b5 := by
  intro r
  induction r with
  | nil =>
    intro acc i m h1 h2 hi hm
    obtain ⟨m, rfl⟩ : ∃ q, m = q + 1 := ⟨m - 1, by omega⟩
    rw [F.ref11_Line.L3]
    unfold F.ref11_Line.L3.step
    dsimp only
    rw [bif_neg (by have := drop_nil' h1; omega)]
    simp [valsT]
  | cons d r ih =>
    intro acc i m h1 h2 hi hm
    obtain ⟨m, rfl⟩ : ∃ q, m = q + 1 := ⟨m - 1, by simp at hm; omega⟩
    obtain ⟨l1, g1, t1⟩ := drop_cons h1
    simp only [List.length_cons] at hm
    obtain ⟨hd, h0⟩ := hok d (List.mem_of_getElem? g1)
    have hlen : (textL d).length ≤ 39 := textD_le hd h0
    have hT : F.ref03_Text n (d.1, d.2.1, d.2.2, ()) = some (textL d) := decText_ref n hn hd h0
    rw [F.ref11_Line.L3]
    unfold F.ref11_Line.L3.step
    dsimp only
    rw [bif_pos (by omega), growS (by omega), idx_nat, g1, some_bind', hT, some_bind', growS (by simp only [List.length_append, List.length_cons, List.length_nil]; omega), wrap_succ (by omega)]
    rw [ih (acc ++ [58] ++ textL d) (i + 1) m t1 (by simp only [List.length_append, List.length_cons, List.length_nil]; omega) (by omega) (by omega)]
    simp [valsT]
structure RightM (m : MetD) : Prop where
  ok : MetOK m
  chk : chkM m = 0
theorem right_vals {m : MetD} (h : RightM m) : (∀ d ∈ m.2.2.1, DecLOK d ∧ decC d = 0) ∧ 1 ≤ m.2.2.1.length ∧ m.2.2.1.length ≤ 64 := by
  have := (chk_zero h.chk).2.2.1
  unfold valsB at this
  simp only [Bool.and_eq_true, decide_eq_true_eq] at this
  refine ⟨fun d hd => ⟨h.ok.2.1.2 d hd, ?_⟩, this.1, this.2.1⟩
  simpa using List.all_eq_true.1 this.2.2 d hd
theorem right_tags {m : MetD} (h : RightM m) : (∀ t ∈ m.2.2.2.2.1, TagS t ∧ tagGood t = true) ∧ m.2.2.2.2.1.length ≤ 32 := by
  have := (chk_zero h.chk).2.2.2.2.1
  unfold tagsB at this
  simp only [Bool.and_eq_true, decide_eq_true_eq] at this
  exact ⟨fun t ht => ⟨tagGood_le (List.all_eq_true.1 this.2 t ht), List.all_eq_true.1 this.2 t ht⟩, this.1⟩
theorem nameOK_le {s : List UInt8} (h : nameOK s = true) : 1 ≤ s.length ∧ s.length ≤ 200 := by
  rw [nameOK_eq] at h
  simp only [Bool.and_eq_true, decide_eq_true_eq] at h
  exact h.2
theorem line_ref (n : Nat) (hn : 200000 ≤ n) (m : MetD) (h : RightM m) : F.ref11_Line n m = some (lineD m) := by
  obtain ⟨hv, hv1, hv2⟩ := right_vals h
  obtain ⟨ht, ht2⟩ := right_tags h
  obtain ⟨c1, c2, c3, c4, c5, c6⟩ := chk_zero h.chk
  have hnm := nameOK_le c1
  have hvl := valsT_le hv
  have hk := kind_five c2
  obtain ⟨r1, r2, r3, r4⟩ := rateP_le c4
  obtain ⟨t1, t2, t3⟩ := timeP_le c6
  have htl := tagText_le (fun t ht' => (ht t ht').1) ht2
  obtain ⟨nm, k, vs, r, ts, t, _⟩ := m
  simp only at hv hv1 hv2 ht ht2 hnm hvl hk r1 r2 r3 r4 t1 t2 t3 htl
  unfold F.ref11_Line
  refine (refvals_loop n hn _ _ nm k vs r ts t (by omega) hv vs nm 0 n rfl (by omega) (by omega) (by omega)).trans ?_
  have hw : idx [[99], [103], [109, 115], [104], [100]] (IntKind.wrap .i64 (k - 1)) = some (wordT k) := by
    rcases hk with rfl | rfl | rfl | rfl | rfl <;> rfl
  have hws := word_short k
  have hd : F.ref05_Text n t = some (Lib.decDigits t.toNat) := by
    unfold F.ref05_Text
    have : F.ref05_Digits n (IntKind.wrap .u64 t) = some (Lib.decDigits t.toNat) := by
      have e : IntKind.wrap .u64 t = ((t.toNat : Nat) : Int) := by
        rw [show IntKind.wrap .u64 t = t from IntWalk.u64_in t (by omega)]; omega
      rw [e]
      exact digits_ref n (by omega) t.toNat (by omega)
    rw [this]; rfl
  have hdl := dd_len64 (c := t.toNat) (by rw [two64_eq]; omega)
  have hr : F.ref05_RateText n r = some (rateText r).1 := rateText_ref n (by omega) r ⟨r3, r4⟩
  have htt : F.ref06_Text n ts = some (tagText ts) := refText_eq n hn ts ht2 (fun t ht' => (ht t ht').1)
  have hrl : (rateText r).1.length ≤ 20 := by
    by_cases e : r = 1000000
    · subst e; decide
    · unfold rateP at r1; rw [if_neg e] at r1; simp only [List.length_append, List.length_cons, List.length_nil] at r1; omega
  rw [show F.ref11_Words n = some [[99], [103], [109, 115], [104], [100]] from rfl]
  simp only [some_bind', hw, hr, htt, hd]
  rw [growS (by simp only [List.length_append, List.length_cons, List.length_nil]; omega), growS (by simp only [List.length_append, List.length_cons, List.length_nil]; omega)]
  unfold lineD rateP tagsP timeP
  have lenT : decide ((ts.length : Int) > 0) = !decide (ts = []) := by cases ts <;> simp <;> omega
  have f1 : (r == (1000000 : Int)) = decide (r = 1000000) := by by_cases e : r = 1000000 <;> simp [e]
  have f3 : (t == (0 : Int)) = decide (t = 0) := by by_cases e : t = 0 <;> simp [e]
  rw [lenT, f1, f3]
  by_cases e1 : r = 1000000 <;> by_cases e2 : ts = [] <;> by_cases e3 : t = 0
  all_goals
    simp only [e1, e2, e3, Bool.not_true, Bool.not_false, cond_true, cond_false, decide_true, decide_false, if_true, if_false]
    repeat rw [growS (by simp only [List.length_append, List.length_cons, List.length_nil]; omega)]
    simp
theorem line_loop (n : Nat) (hn : 200000 ≤ n) (X : Type) (k0 : List UInt8 → Int → List DecL → Int → List TagL → Int → (Nat × List UInt8) → (Nat × Nat) → Int → Option X) (b0 : List UInt8) (b1 : Int) (b2 : List DecL) (b3 : Int) (b4 : List TagL) (b5 : Int) (vs : List DecL) (hl : vs.length ≤ 100) (hok : ∀ d ∈ vs, DecLOK d ∧ decC d = 0) : ∀ (r : List DecL) (acc : List UInt8) (v i m : Nat), vs.drop i = r → acc.length ≤ 1000 + i * 40 → i ≤ vs.length → r.length < m →
    ∃ v', F.dog_Line.L9 n k0 m vs (vs.length : Int) (i : Int) b0 b1 b2 b3 b4 b5 (v, acc) (v, acc.length) 0 = k0 b0 b1 b2 b3 b4 b5 (v', acc ++ valsT r) (v', (acc ++ valsT r).length) 0 := by
  intro r
  induction r with
  | nil =>
    intro acc v i m h1 h2 hi hm
    obtain ⟨m, rfl⟩ : ∃ q, m = q + 1 := ⟨m - 1, by omega⟩
    refine ⟨v, ?_⟩
    rw [F.dog_Line.L9]
    unfold F.dog_Line.L9.step
    dsimp only
    rw [bif_neg (by have := drop_nil' h1; omega)]
    simp [valsT]
  | cons d r ih =>
    intro acc v i m h1 h2 hi hm
    obtain ⟨m, rfl⟩ : ∃ q, m = q + 1 := ⟨m - 1, by simp at hm; omega⟩
    obtain ⟨l1, g1, t1⟩ := drop_cons h1
    simp only [List.length_cons] at hm
    obtain ⟨hd, h0⟩ := hok d (List.mem_of_getElem? g1)
    have hlen : (textL d).length ≤ 39 := textD_le hd h0
    have hT : F.dec_Text n (d.1, d.2.1, d.2.2, ()) = some (textL d, 0, ()) := decText_eq n hn hd h0
    obtain ⟨v', hv⟩ := ih (acc ++ ([58] ++ textL d)) (v + 1) (i + 1) m t1 (by simp only [List.length_append, List.length_cons, List.length_nil]; omega) (by omega) (by omega)
    refine ⟨v', ?_⟩
    rw [F.dog_Line.L9]
    unfold F.dog_Line.L9.step
    dsimp only
    rw [bif_pos (by omega), idx_nat, g1, some_bind', hT, some_bind', wrap_succ (by omega)]
    dsimp only
    rw [beq_self_eq_true, cond_true, growS (by omega), Nat.beq_refl, cond_true, growB (by simp only [List.length_append, List.length_cons, List.length_nil]; omega)]
    rw [hv]
    simp [valsT]
theorem c25_eq (n : Nat) (X : Type) (kr : List UInt8 → Int → Option X) (b0 : List UInt8) (b1 : Int) (b2 : List DecL) (b3 : Int) (b4 : List TagL) (b5 : Int) (B : List UInt8) (v l : Nat) (hB : B ≠ []) : F.dog_Line.C25 n kr b0 b1 b2 b3 b4 b5 (v, B) (v, l) 0 = kr B 0 := by
  unfold F.dog_Line.C25
  dsimp only
  rw [beq_self_eq_true, Bool.not_true, cond_false, Nat.beq_refl, cond_true]
  cases B with
  | nil => exact absurd rfl hB
  | cons x B => rfl
theorem c22_eq (n : Nat) (X : Type) (kr : List UInt8 → Int → Option X) (b0 : List UInt8) (b1 : Int) (b2 : List DecL) (b3 : Int) (b4 : List TagL) (b5 : Int) (h5 : timeB b5 = true) (B : List UInt8) (v : Nat) (hB : B ≠ []) (hl : B.length ≤ 200000) : F.dog_Line.C22 n kr b0 b1 b2 b3 b4 b5 (v, B) (v, B.length) 0 = kr (B ++ timeP b5) 0 := by
  obtain ⟨t1, t2, t3⟩ := timeP_le h5
  unfold F.dog_Line.C22 timeP
  by_cases e : b5 = 0
  · rw [e, beq_self_eq_true, Bool.not_true, cond_false, if_pos rfl, List.append_nil]
    exact c25_eq n X _ b0 b1 b2 b3 b4 0 B v _ hB
  · have hd : F.num_Text n b5 = some (Lib.decDigits b5.toNat, 0, ()) := by
      rw [text_num n b5 (by omega)]; unfold numText; rw [if_neg (by omega)]
    have hdl := dd_len64 (c := b5.toNat) (by rw [two64_eq]; omega)
    rw [beq_eq_false_iff_ne.2 e, Bool.not_false, cond_true, hd, some_bind', if_neg e]
    dsimp only
    rw [beq_self_eq_true, cond_true, growS (by omega), Nat.beq_refl, cond_true, growB (by simp only [List.length_append, List.length_cons, List.length_nil]; omega)]
    exact c25_eq n X _ b0 b1 b2 b3 b4 b5 _ _ _ (by simp)
theorem c19_eq (n : Nat) (hn : 200000 ≤ n) (X : Type) (kr : List UInt8 → Int → Option X) (b0 : List UInt8) (b1 : Int) (b2 : List DecL) (b3 : Int) (b4 : List TagL) (b5 : Int) (h5 : timeB b5 = true) (hts : b4.length ≤ 32) (ht : ∀ t ∈ b4, TagS t ∧ tagGood t = true) (B : List UInt8) (v : Nat) (hB : B ≠ []) (hl : B.length ≤ 100000) : F.dog_Line.C19 n kr b0 b1 b2 b3 b4 b5 (v, B) (v, B.length) 0 = kr (B ++ tagsP b4 ++ timeP b5) 0 := by
  have htl := tagText_le (fun t ht' => (ht t ht').1) hts
  unfold F.dog_Line.C19 tagsP
  by_cases e : b4 = []
  · rw [e, bif_neg (by simp), if_pos rfl, List.append_nil]
    exact c22_eq n X _ b0 b1 b2 b3 [] b5 h5 B v hB (by omega)
  · have hlen : 0 < b4.length := List.length_pos_iff.2 e
    rw [bif_pos (by omega), tagText_eq n hn b4 hts ht, some_bind', if_neg e]
    dsimp only
    rw [beq_self_eq_true, cond_true, growS (by omega), Nat.beq_refl, cond_true, growB (by simp only [List.length_append, List.length_cons, List.length_nil]; omega)]
    exact c22_eq n X _ b0 b1 b2 b3 b4 b5 h5 _ _ (by simp) (by simp only [List.length_append, List.length_cons, List.length_nil]; omega)
theorem c16_eq (n : Nat) (hn : 200000 ≤ n) (X : Type) (kr : List UInt8 → Int → Option X) (b0 : List UInt8) (b1 : Int) (b2 : List DecL) (b3 : Int) (b4 : List TagL) (b5 : Int) (k : Int) (h3 : rateB k b3 = true) (h5 : timeB b5 = true) (hts : b4.length ≤ 32) (ht : ∀ t ∈ b4, TagS t ∧ tagGood t = true) (B : List UInt8) (v : Nat) (hB : B ≠ []) (hl : B.length ≤ 50000) : F.dog_Line.C16 n kr b0 b1 b2 b3 b4 b5 (v, B) (v, B.length) 0 = kr (B ++ rateP b3 ++ tagsP b4 ++ timeP b5) 0 := by
  obtain ⟨r1, r2, r3, r4⟩ := rateP_le h3
  unfold F.dog_Line.C16
  by_cases e : b3 = 1000000
  · have : rateP b3 = [] := by unfold rateP; rw [if_pos e]
    rw [this, List.append_nil, e, beq_self_eq_true, Bool.not_true, cond_false]
    exact c19_eq n hn X _ b0 b1 b2 1000000 b4 b5 h5 hts ht B v hB (by omega)
  · have hP : rateP b3 = [124, 64] ++ (rateText b3).1 := by unfold rateP; rw [if_neg e]
    have hrl : (rateText b3).1.length ≤ 20 := by rw [hP] at r1; simp only [List.length_append, List.length_cons, List.length_nil] at r1; omega
    rw [hP, beq_eq_false_iff_ne.2 e, Bool.not_false, cond_true, rateText_num, some_bind', beq_self_eq_true, cond_true, growS (by omega)]
    dsimp only
    rw [Nat.beq_refl, cond_true, growB (by simp only [List.length_append, List.length_cons, List.length_nil]; omega), r2]
    exact c19_eq n hn X _ b0 b1 b2 b3 b4 b5 h5 hts ht _ _ (by simp) (by simp only [List.length_append, List.length_cons, List.length_nil]; omega)
def lineM (m : MetD) : List UInt8 × Int × Unit := if (normM m).2.1 = 0 then (lineD (normM m).1, 0, ()) else ([], (normM m).2.1, ())
theorem normM_cases {m : MetD} (hm : MetOK m) : (normM m = (formM m, 0, ()) ∧ RightM (formM m)) ∨ (∃ e, e ≠ 0 ∧ normM m = (zeroM, e, ())) := by
  unfold normM
  by_cases h : chkM (valsM m) = 0
  · refine Or.inl ⟨if_pos h, ?_, ?_⟩
    · have hv := valsM_ok hm
      refine ⟨hm.1, hv.2.1, ?_, ?_⟩
      · have h1 := normT_len m.2.2.2.2.1
        have h2 := hm.2.2.1
        show (normT m.2.2.2.2.1).length ≤ 10000
        omega
      · intro t ht
        exact hm.2.2.2 t ((normT_mem _ _).1 ht)
    · obtain ⟨c1, c2, c3, c4, c5, c6⟩ := chk_zero h
      have c5' : tagsB (formM m).2.2.2.2.1 = true := by
        unfold tagsB at c5 ⊢
        simp only [Bool.and_eq_true, decide_eq_true_eq] at c5 ⊢
        have h1 := normT_len m.2.2.2.2.1
        have h2 : m.2.2.2.2.1.length ≤ 32 := c5.1
        refine ⟨?_, List.all_eq_true.2 (fun t ht => List.all_eq_true.1 c5.2 t ((normT_mem _ _).1 ht))⟩
        show (normT m.2.2.2.2.1).length ≤ 32
        omega
      unfold chkM
      have d1 : nameOK (formM m).1 = true := c1
      have d2 : kindB (formM m).2.1 = true := c2
      have d3 : valsB (formM m).2.2.1 = true := c3
      have d4 : rateB (formM m).2.1 (formM m).2.2.2.1 = true := c4
      have d6 : timeB (formM m).2.2.2.2.2.1 = true := c6
      rw [d1, d2, d3, d4, c5', d6]
      rfl
  · exact Or.inr ⟨_, h, if_neg h⟩
theorem line_eq (n : Nat) (hn : 200000 ≤ n) (m : MetD) (hm : MetOK m) : F.dog_Line n m = some (lineM m) := by
  unfold F.dog_Line lineM
  have hN : F.metric_Normal n (m.1, m.2.1, m.2.2.1, m.2.2.2.1, m.2.2.2.2.1, m.2.2.2.2.2.1, ()) = some (normM m) := metNormal_eq n hn m hm
  rw [hN, some_bind']
  rcases normM_cases hm with ⟨h1, hR⟩ | ⟨e, he, h1⟩
  · rw [h1]
    generalize formM m = f at hR
    obtain ⟨hv, hv1, hv2⟩ := right_vals hR
    obtain ⟨ht, ht2⟩ := right_tags hR
    obtain ⟨c1, c2, c3, c4, c5, c6⟩ := chk_zero hR.chk
    have hnm := nameOK_le c1
    have hvl := valsT_le hv
    obtain ⟨nm, k, vs, r, ts, t, _⟩ := f
    dsimp only at hv hv1 hv2 ht ht2 c1 c2 c3 c4 c5 c6 hnm hvl ⊢
    rw [beq_self_eq_true, Bool.not_true, cond_false, if_pos rfl, growS (by omega), growB (by simp only [List.length_append, List.length_nil]; omega)]
    obtain ⟨v', hloop⟩ := line_loop n hn _ (fun e4_b0_0 e4_b0_1 e4_b0_2 e4_b0_3 e4_b0_4 e4_b0_5 e4_b1_0 e4_b2_1 e4_b3_0 =>
            (F.dog_Word n e4_b0_1).bind fun y5 =>
              bif e4_b3_0 == (0 : Int) then
                bif decide (1 + y5.1.length ≤ strMax) then
                  bif Nat.beq e4_b2_1.1 e4_b1_0.1 then
                    bif decide ((e4_b1_0.2.length + ((([124]) ++ y5.1).length)) * 1 ≤ 2 ^ 46) && decide (0 < 1 ∧ 1 ≤ 2 ^ 20) then
                      F.dog_Line.C16 n
                        (fun e30_2 e30_3 =>
                          some ((e30_2, e30_3, ()))) e4_b0_0 e4_b0_1 e4_b0_2 e4_b0_3 e4_b0_4 e4_b0_5 (e4_b2_1.1 + 1, e4_b1_0.2 ++ (([124]) ++ y5.1)) (e4_b2_1.1 + 1, (e4_b1_0.2 ++ (([124]) ++ y5.1)).length) y5.2.1
                    else
                      none
                  else
                    none
                else
                  none
              else
              bif decide (1 + y5.1.length ≤ strMax) then
                bif Nat.beq e4_b2_1.1 e4_b1_0.1 then
                  bif decide ((e4_b1_0.2.length + ((([124]) ++ y5.1).length)) * 1 ≤ 2 ^ 46) && decide (0 < 1 ∧ 1 ≤ 2 ^ 20) then
                    F.dog_Line.C16 n
                      (fun e31_2 e31_3 =>
                        some ((e31_2, e31_3, ()))) e4_b0_0 e4_b0_1 e4_b0_2 e4_b0_3 e4_b0_4 e4_b0_5 (e4_b2_1.1 + 1, e4_b1_0.2 ++ (([124]) ++ y5.1)) (e4_b2_1.1 + 1, (e4_b1_0.2 ++ (([124]) ++ y5.1)).length) e4_b3_0
                  else
                    none
                else
                  none
              else
                none) nm k vs r ts t vs (by omega) hv vs nm 2 0 n rfl (by omega) (by omega) (by omega)
    refine hloop.trans ?_
    dsimp only
    have hws := word_short k
    rw [word_eq, c2, if_pos rfl, some_bind']
    dsimp only
    rw [beq_self_eq_true, cond_true, growS (by omega), Nat.beq_refl, cond_true, growB (by simp only [List.length_append, List.length_cons, List.length_nil]; omega)]
    exact c16_eq n hn _ _ nm k vs r ts t k c4 c6 ht2 ht _ _ (by simp) (by simp only [List.length_append, List.length_cons, List.length_nil]; omega)
  · rw [h1]
    dsimp only
    rw [if_neg he, beq_eq_false_iff_ne.2 he, Bool.not_false, cond_true]
end Go.AM
set_option linter.unusedVariables false
set_option linter.unusedSimpArgs false
namespace Go.AM
abbrev Res (α : Type) := Except (Int × Int) α
def kindR (s : List UInt8) : Int := if s = [99] then 1 else if s = [103] then 2 else if s = [109, 115] then 3 else if s = [104] then 4 else if s = [100] then 5 else 0
theorem kind_eq (n : Nat) (hn : 100 ≤ n) (s : List UInt8) : F.dog_Kind n s = some (if kindR s = 0 then (0, 16, ()) else (kindR s, 0, ())) := by
  obtain ⟨m, hm⟩ : ∃ q, n = q + 7 := ⟨n - 7, by omega⟩
  unfold F.dog_Kind
  rw [show F.dog_words n = some ([], [99], [103], [109, 115], [104], [100], ()) from rfl, some_bind']
  have L : ∀ (k0 : Unit → Option (Int × Int × Unit)) (kr : Int → Int → Option (Int × Int × Unit)), F.dog_Kind.L2 n k0 kr (m + 7) s ([], [99], [103], [109, 115], [104], [100], ()) (0 : Int) = if s = [99] then kr 1 0 else if s = [103] then kr 2 0 else if s = [109, 115] then kr 3 0 else if s = [104] then kr 4 0 else if s = [100] then kr 5 0 else k0 () := by
    intro k0 kr
    have e1 : ([99] == s) = decide (s = [99]) := by by_cases h : s = [99] <;> simp [h]; exact fun h' => h h'.symm
    have e2 : ([103] == s) = decide (s = [103]) := by by_cases h : s = [103] <;> simp [h]; exact fun h' => h h'.symm
    have e3 : ([109, 115] == s) = decide (s = [109, 115]) := by by_cases h : s = [109, 115] <;> simp [h]; exact fun h' => h h'.symm
    have e4 : ([104] == s) = decide (s = [104]) := by by_cases h : s = [104] <;> simp [h]; exact fun h' => h h'.symm
    have e5 : ([100] == s) = decide (s = [100]) := by by_cases h : s = [100] <;> simp [h]; exact fun h' => h h'.symm
    show (bif [99] == s then kr 1 0 else bif [103] == s then kr 2 0 else bif [109, 115] == s then kr 3 0 else bif [104] == s then kr 4 0 else bif [100] == s then kr 5 0 else k0 ()) = _
    rw [e1, e2, e3, e4, e5]
    simp only [bdec]
  rw [hm] at L ⊢
  refine (L _ _).trans ?_
  unfold kindR
  repeat' split
  all_goals first | rfl | (simp_all)
def readVals : List (List UInt8) → List DecL → Int → Except Int (List DecL)
  | [], acc, _ => .ok acc
  | v :: r, acc, at_ => if (parseR v).2.1.1 = 0 ∧ acc.length ≠ 64 then readVals r (acc ++ [((parseR v).1.1, (parseR v).1.2.1, (parseR v).1.2.2.1)]) (at_ + v.length + 1) else .error at_
def restN (c : UInt8) (s : List UInt8) : List UInt8 := if c ∈ s then s.drop ((seg c s).length + 1) else []
def firstR (s : List UInt8) : Res (List UInt8 × List DecL) :=
  if nameOK (seg 58 s) = false then .error (15, 0)
  else if 58 ∉ s then .error (11, (s.length : Int))
  else match readVals (splitL 58 (restN 58 s)) [] ((seg 58 s).length + 1) with
    | .ok vs => .ok (seg 58 s, vs)
    | .error at_ => .error (17, at_)
def tagsR : List (List UInt8) → List TagL → Int → Except Int (List TagL)
  | [], acc, _ => .ok acc
  | p :: r, acc, at_ => if tagGood (seg 58 p, restN 58 p) = true ∧ ¬ (58 ∈ p ∧ restN 58 p = []) then tagsR r (acc ++ [(seg 58 p, restN 58 p)]) (at_ + p.length + 1) else .error at_
def moreR (m : MetD) (last : Int) : List UInt8 → Except Int (MetD × Int)
  | [] => .error 11
  | x :: s =>
    if x = 64 then (if 0 < last then .error 11 else if (rateR s).2.1.1 ≠ 0 ∨ (m.2.1 = 2 ∧ (rateR s).1 ≠ 1000000) then .error 18 else .ok ((m.1, m.2.1, m.2.2.1, (rateR s).1, m.2.2.2.2.1, m.2.2.2.2.2.1, ()), 1))
    else if x = 35 then (if 1 < last then .error 11 else match tagsR (splitL 44 s) [] 0 with
      | .error _ => .error 19
      | .ok l => if 32 < l.length then .error 19 else .ok ((m.1, m.2.1, m.2.2.1, m.2.2.2.1, normT l, m.2.2.2.2.2.1, ()), 2))
    else if x = 84 then (if 2 < last then .error 11 else if (parseNum s 1 1099511627776).2.1.1 ≠ 0 then .error 20 else .ok ((m.1, m.2.1, m.2.2.1, m.2.2.2.1, m.2.2.2.2.1, (parseNum s 1 1099511627776).1, ()), 3))
    else .error 11
def restR : List (List UInt8) → Int → MetD → Int → Res MetD
  | [], _, m, _ => .ok m
  | p :: r, at_, m, last => match moreR m last p with
    | .error e => .error (e, at_)
    | .ok (m', last') => restR r (at_ + p.length + 1) m' last'
def secondR (s p : List UInt8) (nm : List UInt8) (vs : List DecL) : List (List UInt8) → Res MetD
  | [] => .error (11, (s.length : Int))
  | q :: r => if kindR q = 0 then .error (16, (p.length : Int) + 1) else restR r ((p.length : Int) + 1 + (q.length + 1)) (nm, kindR q, vs, 1000000, [], 0, ()) 0
def linesR (s : List UInt8) : List (List UInt8) → Res MetD
  | [] => .error (11, 0)
  | p :: r => match firstR p with
    | .error e => .error e
    | .ok x => secondR s p x.1 x.2 r
abbrev ParseD := MetD × (Int × Int × Unit) × Unit
def outP : Res MetD → ParseD
  | .ok m => (m, (0, 0, ()), ())
  | .error e => (zeroM, (e.1, e.2, ()), ())
def parseD (s : List UInt8) : ParseD := if 8192 < s.length then (zeroM, (12, 0, ()), ()) else outP (linesR s (splitL 124 s))
theorem restN_le (c : UInt8) (s : List UInt8) : (restN c s).length ≤ s.length := by
  unfold restN; split <;> simp
def sumL (l : List (List UInt8)) : Nat := (l.map fun p => p.length + 1).sum
theorem splitL_sum (c : UInt8) (s : List UInt8) : sumL (splitL c s) = s.length + 1 := by
  induction s with
  | nil => rfl
  | cons x s ih =>
    rw [splitL]
    split
    · simp only [sumL, List.map_cons, List.sum_cons, List.length_nil, List.length_cons] at ih ⊢
      omega
    · have hne := splitL_ne c s
      revert ih hne
      cases splitL c s with
      | nil => intro _ h; exact absurd rfl h
      | cons p l =>
        intro ih _
        simp only [sumL, List.map_cons, List.sum_cons, List.length_cons] at ih ⊢
        omega
theorem sumL_len (l : List (List UInt8)) : l.length ≤ sumL l := by
  induction l with
  | nil => simp [sumL]
  | cons p l ih => simp only [sumL, List.map_cons, List.sum_cons, List.length_cons] at ih ⊢; omega
theorem sumL_mem {l : List (List UInt8)} {p : List UInt8} (h : p ∈ l) : p.length + 1 ≤ sumL l := by
  induction l with
  | nil => cases h
  | cons q l ih =>
    simp only [sumL, List.map_cons, List.sum_cons] at ih ⊢
    rcases List.mem_cons.1 h with rfl | h
    · omega
    · have := ih h; omega
theorem split_eq (n : Nat) (c : UInt8) {s : List UInt8} (hs : s.length ≤ 1000000) : O.split1 n s [c] = some (splitL c s) := by
  unfold O.split1
  dsimp only
  rw [decide_eq_true (by omega)]; rfl
theorem parseR_bad (s : List UInt8) : ((parseR s).2.1.1 == 0 && (parseR s).2.1.2.1 == 0) = decide ((parseR s).2.1.1 = 0) := by
  by_cases h : (parseR s).2.1.1 = 0
  · rw [decide_eq_true h, h, parseR_at h]; rfl
  · rw [decide_eq_false h, beq_eq_false_iff_ne.2 h]; rfl
theorem tagsR_loop (n : Nat) (hn : 200000 ≤ n) (X : Type) (k0 kr : List TagL → Int → Int → Nat → Option X) (ps : List (List UInt8)) (hs : sumL ps ≤ 10000) (b0 b1 : Int) : ∀ (r : List (List UInt8)) (acc : List TagL) (a : Int) (i m : Nat), ps.drop i = r → acc.length ≤ i → i ≤ ps.length → r.length < m → 0 ≤ a → a + sumL r ≤ 10000 →
    F.tag_Parse.L4 n k0 kr m acc a ps (ps.length : Int) (i : Int) b0 b1 acc.length = match tagsR r acc a with
      | .ok l => k0 l b0 b1 l.length
      | .error e => kr [] 19 e 0 := by
  intro r
  have hpl := sumL_len ps
  induction r with
  | nil =>
    intro acc a i m h1 h2 hi hm ha has
    obtain ⟨m, rfl⟩ : ∃ q, m = q + 1 := ⟨m - 1, by omega⟩
    rw [F.tag_Parse.L4]
    unfold F.tag_Parse.L4.step
    dsimp only
    rw [bif_neg (by have := drop_nil' h1; omega)]
    rfl
  | cons p r ih =>
    intro acc a i m h1 h2 hi hm ha has
    obtain ⟨m, rfl⟩ : ∃ q, m = q + 1 := ⟨m - 1, by simp at hm; omega⟩
    obtain ⟨l1, g1, t1⟩ := drop_cons h1
    simp only [List.length_cons] at hm
    simp only [sumL, List.map_cons, List.sum_cons] at has
    have hp := sumL_mem (List.mem_of_getElem? g1)
    have hsl := seg_le 58 p
    have hrl := restN_le 58 p
    have hih := ih (acc ++ [(seg 58 p, restN 58 p)]) (a + p.length + 1) (i + 1) m t1 (by simp; omega) (by omega) (by omega) (by omega) (by simp only [sumL]; omega)
    have hcut : F.strings_Cut n p [58] = some (seg 58 p, restN 58 p, decide (58 ∈ p), ()) := cut_eq n 58 (by omega)
    have hw : IntKind.wrap .i64 (a + IntKind.wrap .i64 ((p.length : Int) + 1)) = a + p.length + 1 := by
      rw [wrap_succ (by omega), wrap_in (by omega)]; omega
    have hg : (decide ((acc.length + 1) * 32 ≤ 2 ^ 46) && decide (0 < 32 ∧ 32 ≤ 2 ^ 20)) = true := by rw [decide_eq_true (by omega)]; rfl
    rw [F.tag_Parse.L4]
    unfold F.tag_Parse.L4.step
    dsimp only
    rw [bif_pos (by omega), idx_nat, g1, some_bind', hcut, some_bind']
    dsimp only
    have hc := tag_chk n hn (t := (seg 58 p, restN 58 p)) ⟨by show (seg 58 p).length ≤ 10000; omega, by show (restN 58 p).length ≤ 10000; omega⟩
    dsimp only at hc
    rw [hc, some_bind', hw, wrap_succ (by omega), hg, Nat.beq_refl, cond_true, cond_true, tagsR]
    cases tagGood (seg 58 p, restN 58 p)
    · rw [if_neg (by simp)]; rfl
    · rw [cond_true, beq_self_eq_true, Bool.not_true, cond_false, bdec]
      by_cases hin : (58 : UInt8) ∈ p
      · rw [if_pos hin]
        by_cases h0 : restN 58 p = []
        · rw [h0, beq_self_eq_true, cond_true, if_neg (by simp [hin])]
        · rw [beq_eq_false_iff_ne.2 h0, cond_false, if_pos ⟨rfl, by simp [h0]⟩]
          exact hih
      · rw [if_neg hin, if_pos ⟨rfl, by simp [hin]⟩]
        exact hih
theorem tagParse_eq (n : Nat) (hn : 200000 ≤ n) (s : List UInt8) (hs : s.length ≤ 9000) : F.tag_Parse n s = some (match tagsR (splitL 44 s) [] 0 with | .ok l => (l, (0, 0, ()), ()) | .error e => ([], (19, e, ()), ())) := by
  unfold F.tag_Parse
  have h1 := splitL_sum 44 s
  have h2 := sumL_len (splitL 44 s)
  rw [split_eq n 44 (by omega), some_bind']
  refine (tagsR_loop n hn _ _ _ (splitL 44 s) (by omega) 0 0 (splitL 44 s) [] 0 0 n rfl (by simp) (by omega) (by omega) (by omega) (by omega)).trans ?_
  cases tagsR (splitL 44 s) [] 0 <;> rfl
end Go.AM
set_option linter.unusedVariables false
set_option linter.unusedSimpArgs false
namespace Go.AM
abbrev KR := List UInt8 → Int → List DecL → Int → List TagL → Int → Int → Int → List UInt8 → Int → List DecL → Int → List TagL → Int → Int → Int → Int → Int → Int → Int → Nat → Nat → Nat → Option ParseD
abbrev K8 := List UInt8 → List (List UInt8) → List UInt8 → Int → List DecL → Int → List TagL → Int → Int → Int → List UInt8 → Int → List DecL → Int → List TagL → Int → Int → Int → Int → Int → Nat → Nat → Nat → Option ParseD
def badP (e a : Int) : ParseD := (zeroM, (e, a, ()), ())
theorem first_loop (n : Nat) (hn : 200000 ≤ n) (k1 kr : KR) (ps : List (List UInt8)) (hs : sumL ps ≤ 9000)
    (c0 : List UInt8) (c1 : Int) (c2 : List DecL) (c3 : Int) (c4 : List TagL) (c5 d0 d1 : Int) (e0 : List UInt8) (e1 : Int) (e3 : Int) (e4 : List TagL) (e5 e7 f0 f1 : Int) (q0 q1 : Nat)
    (hbad : ∀ acc a l, kr c0 c1 c2 c3 c4 c5 d0 d1 e0 e1 acc e3 e4 e5 0 e7 f0 f1 17 a q0 q1 l = some (badP 17 a)) :
    ∀ (r : List (List UInt8)) (acc : List DecL) (a : Int) (i m : Nat), ps.drop i = r → acc.length ≤ i → i ≤ ps.length → r.length < m → 0 ≤ a → a + sumL r ≤ 10000 →
    F.dog_Parse.L9_dog_reader_first n k1 kr m a ps (ps.length : Int) (i : Int) c0 c1 c2 c3 c4 c5 d0 d1 e0 e1 acc e3 e4 e5 0 e7 f0 f1 0 0 q0 q1 acc.length = match readVals r acc a with
      | .ok vs => k1 c0 c1 c2 c3 c4 c5 d0 d1 e0 e1 vs e3 e4 e5 0 e7 f0 f1 0 0 q0 q1 vs.length
      | .error b => some (badP 17 b) := by
  intro r
  have hpl := sumL_len ps
  induction r with
  | nil =>
    intro acc a i m h1 h2 hi hm ha has
    obtain ⟨m, rfl⟩ : ∃ q, m = q + 1 := ⟨m - 1, by omega⟩
    rw [F.dog_Parse.L9_dog_reader_first]
    unfold F.dog_Parse.L9_dog_reader_first.step
    dsimp only
    rw [bif_neg (by have := drop_nil' h1; omega)]
    rfl
  | cons p r ih =>
    intro acc a i m h1 h2 hi hm ha has
    obtain ⟨m, rfl⟩ : ∃ q, m = q + 1 := ⟨m - 1, by simp at hm; omega⟩
    obtain ⟨l1, g1, t1⟩ := drop_cons h1
    simp only [List.length_cons] at hm
    simp only [sumL, List.map_cons, List.sum_cons] at has
    have hp := sumL_mem (List.mem_of_getElem? g1)
    have hih := ih (acc ++ [((parseR p).1.1, (parseR p).1.2.1, (parseR p).1.2.2.1)]) (a + p.length + 1) (i + 1) m t1 (by simp; omega) (by omega) (by omega) (by omega) (by simp only [sumL]; omega)
    have hw : IntKind.wrap .i64 (a + IntKind.wrap .i64 ((p.length : Int) + 1)) = a + p.length + 1 := by
      rw [wrap_succ (by omega), wrap_in (by omega)]; omega
    have hw0 : IntKind.wrap .i64 (0 + a) = a := by rw [Int.zero_add, wrap_in (by omega)]
    have hg : (decide ((acc.length + 1) * 24 ≤ 2 ^ 46) && decide (0 < 24 ∧ 24 ≤ 2 ^ 20)) = true := by rw [decide_eq_true (by omega)]; rfl
    have h64 : ((acc.length : Int) == 64) = decide (acc.length = 64) := by
      by_cases h : acc.length = 64
      · rw [h]; rfl
      · rw [decide_eq_false h, beq_eq_false_iff_ne]; omega
    rw [F.dog_Parse.L9_dog_reader_first]
    unfold F.dog_Parse.L9_dog_reader_first.step
    dsimp only
    rw [bif_pos (by omega), idx_nat, g1, some_bind', decparse_eq n hn p (by omega), some_bind', parseR_bad, hw, hw0, wrap_succ (by omega), hg, Nat.beq_refl, cond_true, cond_true, h64, readVals]
    by_cases h0 : (parseR p).2.1.1 = 0
    · rw [decide_eq_true h0, Bool.not_true, cond_false]
      by_cases h6 : acc.length = 64
      · rw [decide_eq_true h6, cond_true, if_neg (by simp [h6])]
        exact hbad _ _ _
      · rw [decide_eq_false h6, cond_false, if_pos ⟨h0, h6⟩]
        exact hih
    · rw [decide_eq_false h0, Bool.not_false, cond_true, if_neg (by simp [h0])]
      exact hbad _ _ _
theorem prefix_eq (n : Nat) (c x : UInt8) (s : List UInt8) : F.strings_CutPrefix n (x :: s) [c] = some (if x = c then (s, true, ()) else (x :: s, false, ())) := by
  unfold F.strings_CutPrefix F.stringslite_CutPrefix F.stringslite_HasPrefix
  have h1 : sub (x :: s) 0 (([c] : List UInt8).length : Int) = some [x] := by
    rw [show (0 : Int) = ((0 : Nat) : Int) from rfl, show (([c] : List UInt8).length : Int) = ((1 : Nat) : Int) from rfl, sub_nat (x :: s) 0 1 (by omega) (by simp)]; rfl
  have h2 : sub (x :: s) (([c] : List UInt8).length : Int) ((x :: s).length : Int) = some s := by
    rw [show (([c] : List UInt8).length : Int) = ((1 : Nat) : Int) from rfl, sub_nat (x :: s) 1 _ (by simp) (by omega), List.take_length]; rfl
  rw [bif_pos (by simp; omega), h1, h2]
  by_cases h : x = c
  · subst h
    simp
  · rw [if_neg h]
    have : ([x] == [c]) = false := by simpa using h
    simp [this]
theorem prefix_nil (n : Nat) (c : UInt8) : F.strings_CutPrefix n [] [c] = some ([], false, ()) := rfl
theorem rate_bad (s : List UInt8) : ((rateR s).2.1.1 == 0 && (rateR s).2.1.2.1 == 0) = decide ((rateR s).2.1.1 = 0) := by
  by_cases h : (rateR s).2.1.1 = 0
  · rw [decide_eq_true h, h, (rate_ok h).1]; rfl
  · rw [decide_eq_false h, beq_eq_false_iff_ne.2 h]; rfl
theorem time_bad (s : List UInt8) : ((parseNum s 1 1099511627776).2.1.1 == 0 && (parseNum s 1 1099511627776).2.1.2.1 == 0) = decide ((parseNum s 1 1099511627776).2.1.1 = 0) := by
  by_cases h : (parseNum s 1 1099511627776).2.1.1 = 0
  · rw [decide_eq_true h, h, (parse_back h).1]; rfl
  · rw [decide_eq_false h, beq_eq_false_iff_ne.2 h]; rfl
theorem tagsR_len : ∀ (r : List (List UInt8)) (acc : List TagL) (a : Int) (l : List TagL), tagsR r acc a = .ok l → l.length = acc.length + r.length
  | [], acc, a, l, h => by cases h; simp
  | p :: r, acc, a, l, h => by
    rw [tagsR] at h
    split at h
    · have := tagsR_len r _ _ _ h
      simp at this ⊢; omega
    · cases h
theorem more_eq (n : Nat) (hn : 200000 ≤ n) (k0 kr : KR) (p : List UInt8) (hs : p.length ≤ 9000)
    (c0 : List UInt8) (c1 : Int) (c2 : List DecL) (c3 : Int) (c4 : List TagL) (c5 d0 d1 : Int) (e0 : List UInt8) (e1 : Int) (e2 : List DecL) (e3 : Int) (e4 : List TagL) (e5 a last f0 f1 : Int) (q0 q1 q2 : Nat) (ha : 0 ≤ a ∧ a ≤ 100000)
    (hk0 : k0 c0 c1 c2 c3 c4 c5 d0 d1 e0 e1 e2 e3 e4 e5 a last f0 f1 0 0 q0 q1 q2 = some (badP 11 a))
    (hbad : ∀ l e, e ≠ 0 → kr c0 c1 c2 c3 c4 c5 d0 d1 e0 e1 e2 e3 e4 e5 a l f0 f1 e a q0 q1 q2 = some (badP e a)) (m : Nat) (hm : 5 ≤ m) :
    F.dog_Parse.L2_dog_reader_more n k0 kr m p ([64], (), [35], (), [84], (), ()) (0 : Int) c0 c1 c2 c3 c4 c5 d0 d1 e0 e1 e2 e3 e4 e5 a last f0 f1 0 0 q0 q1 q2 = match moreR (e0, e1, e2, e3, e4, e5, ()) last p with
      | .error e => some (badP e a)
      | .ok (w, l) => kr c0 c1 c2 c3 c4 c5 d0 d1 w.1 w.2.1 w.2.2.1 w.2.2.2.1 w.2.2.2.2.1 w.2.2.2.2.2.1 a l f0 f1 0 0 q0 q1 q2 := by
  obtain ⟨m, rfl⟩ : ∃ q, m = q + 4 := ⟨m - 4, by omega⟩
  have hw0 : IntKind.wrap .i64 (a + 0) = a := by rw [Int.add_zero, wrap_in (by omega)]
  have w1 : IntKind.wrap .i64 ((0 : Int) + 1) = 1 := rfl
  have w2 : IntKind.wrap .i64 ((1 : Int) + 1) = 2 := rfl
  have w3 : IntKind.wrap .i64 ((2 : Int) + 1) = 3 := rfl
  have b1 : ((1 : Int) == 0) = false := rfl
  have b2 : ((2 : Int) == 0) = false := rfl
  have b3 : ((2 : Int) == 1) = false := rfl
  cases p with
  | nil =>
    rw [moreR]
    rw [F.dog_Parse.L2_dog_reader_more]
    unfold F.dog_Parse.L2_dog_reader_more.step
    dsimp only
    rw [bif_pos (by omega), beq_self_eq_true, cond_true, prefix_nil, some_bind', Bool.not_false, cond_true, w1, F.dog_Parse.L2_dog_reader_more]
    unfold F.dog_Parse.L2_dog_reader_more.step
    dsimp only
    rw [bif_pos (by omega), b1, beq_self_eq_true, cond_true, cond_false, prefix_nil, some_bind', Bool.not_false, cond_true, w2, F.dog_Parse.L2_dog_reader_more]
    unfold F.dog_Parse.L2_dog_reader_more.step
    dsimp only
    rw [bif_pos (by omega), b2, b3, beq_self_eq_true, cond_true, cond_false, cond_false, prefix_nil, some_bind', Bool.not_false, cond_true, w3, F.dog_Parse.L2_dog_reader_more]
    unfold F.dog_Parse.L2_dog_reader_more.step
    dsimp only
    rw [bif_neg (by omega)]
    exact hk0
  | cons x s =>
    simp only [List.length_cons] at hs
    rw [moreR]
    rw [F.dog_Parse.L2_dog_reader_more]
    unfold F.dog_Parse.L2_dog_reader_more.step
    dsimp only
    rw [bif_pos (by omega), beq_self_eq_true, cond_true, prefix_eq, some_bind', w1, hw0]
    by_cases h64 : x = 64
    · rw [if_pos h64, if_pos h64]
      dsimp only
      rw [Bool.not_true, cond_false, bdec]
      by_cases hl : 0 < last
      · rw [if_pos hl, if_pos hl]; exact hk0
      · rw [if_neg hl, if_neg hl, rate_num n (by omega) s (by omega) (by omega), some_bind', rate_bad]
        by_cases h0 : (rateR s).2.1.1 = 0
        · rw [decide_eq_true h0, Bool.not_true, cond_false]
          by_cases h2 : e1 = 2
          · rw [h2, beq_self_eq_true, cond_true]
            by_cases h1 : (rateR s).1 = 1000000
            · rw [h1, beq_self_eq_true, Bool.not_true, cond_false, if_neg (by simp [h0])]
            · rw [beq_eq_false_iff_ne.2 h1, Bool.not_false, cond_true, if_pos (by simp [h1])]
              rw [h2] at hbad
              exact hbad _ _ (by decide)
          · rw [beq_eq_false_iff_ne.2 h2, cond_false, if_neg (by simp [h0, h2])]
        · rw [decide_eq_false h0, Bool.not_false, cond_true, if_pos (by simp [h0])]
          exact hbad _ _ (by decide)
    rw [if_neg h64, if_neg h64]
    dsimp only
    rw [Bool.not_false, cond_true]
    rw [F.dog_Parse.L2_dog_reader_more]
    unfold F.dog_Parse.L2_dog_reader_more.step
    dsimp only
    rw [bif_pos (by omega), b1, beq_self_eq_true, cond_false, cond_true, prefix_eq, some_bind', w2, hw0]
    by_cases h35 : x = 35
    · rw [if_pos h35, if_pos h35]
      dsimp only
      rw [Bool.not_true, cond_false, bdec]
      by_cases hl : 1 < last
      · rw [if_pos hl, if_pos hl]; exact hk0
      · have hsl := splitL_sum 44 s
        have hsn := sumL_len (splitL 44 s)
        rw [if_neg hl, if_neg hl, tagParse_eq n hn s (by omega), some_bind']
        cases hT : tagsR (splitL 44 s) [] 0 with
        | error e =>
          dsimp only
          rw [show ((19 : Int) == 0) = false from rfl, Bool.false_and, Bool.not_false, cond_true]
          exact hbad _ _ (by decide)
        | ok l =>
          have hll := tagsR_len _ _ _ _ hT
          simp only [List.length_nil, Nat.zero_add] at hll
          dsimp only
          rw [beq_self_eq_true, Bool.and_self, Bool.not_true, cond_false, bdec]
          by_cases h32 : 32 < l.length
          · rw [if_pos (by omega), if_pos h32]
            exact hbad _ _ (by decide)
          · rw [if_neg (by omega), if_neg h32, tagNormal_eq n hn l (by omega), some_bind']
    rw [if_neg h35, if_neg h35]
    dsimp only
    rw [Bool.not_false, cond_true]
    rw [F.dog_Parse.L2_dog_reader_more]
    unfold F.dog_Parse.L2_dog_reader_more.step
    dsimp only
    rw [bif_pos (by omega), b2, b3, beq_self_eq_true, cond_false, cond_false, cond_true, prefix_eq, some_bind', w3, hw0]
    by_cases h84 : x = 84
    · rw [if_pos h84, if_pos h84]
      dsimp only
      rw [Bool.not_true, cond_false, bdec]
      by_cases hl : 2 < last
      · rw [if_pos hl, if_pos hl]; exact hk0
      · rw [if_neg hl, if_neg hl, time_eq n s (by omega) (by omega), some_bind', time_bad]
        by_cases h0 : (parseNum s 1 1099511627776).2.1.1 = 0
        · rw [decide_eq_true h0, Bool.not_true, cond_false, if_neg (by simp [h0])]
        · rw [decide_eq_false h0, Bool.not_false, cond_true, if_pos h0]
          exact hbad _ _ (by decide)
    rw [if_neg h84, if_neg h84]
    dsimp only
    rw [Bool.not_false, cond_true]
    rw [F.dog_Parse.L2_dog_reader_more]
    unfold F.dog_Parse.L2_dog_reader_more.step
    dsimp only
    rw [bif_neg (by omega)]
    exact hk0
structure K8OK (s : List UInt8) (ps : List (List UInt8)) (k0 : K8) : Prop where
  bad : ∀ c0 c1 c2 c3 c4 c5 d0 d1 e0 e1 e2 e3 e4 e5 e6 e7 e a q0 q1 q2, e ≠ 0 → k0 s ps c0 c1 c2 c3 c4 c5 d0 d1 e0 e1 e2 e3 e4 e5 e6 e7 e a q0 q1 q2 = some (badP e a)
  ok : 2 ≤ ps.length → ∀ c0 c1 c2 c3 c4 c5 d0 d1 e0 e1 e2 e3 e4 e5 e6 e7 q0 q1 q2, k0 s ps c0 c1 c2 c3 c4 c5 d0 d1 e0 e1 e2 e3 e4 e5 e6 e7 0 0 q0 q1 q2 = some ((e0, e1, e2, e3, e4, e5, ()), (0, 0, ()), ())
  one : ps.length < 2 → ∀ c0 c1 c2 c3 c4 c5 d0 d1 e0 e1 e2 e3 e4 e5 e6 e7 q0 q1 q2, k0 s ps c0 c1 c2 c3 c4 c5 d0 d1 e0 e1 e2 e3 e4 e5 e6 e7 0 0 q0 q1 q2 = some (badP 11 (s.length : Int))
theorem at_step {a : Int} (p : List UInt8) (h : 0 ≤ a ∧ a + p.length + 1 ≤ 100000) : IntKind.wrap .i64 (a + IntKind.wrap .i64 ((p.length : Int) + 1)) = a + p.length + 1 := by
  rw [wrap_succ (by omega), wrap_in (by omega)]; omega
theorem drest_loop (n : Nat) (hn : 200000 ≤ n) (k0 : K8) (s : List UInt8) (ps : List (List UInt8)) (hs : sumL ps ≤ 9000) (hk : K8OK s ps k0) (h2 : 2 ≤ ps.length)
    (c0 : List UInt8) (c1 : Int) (c2 : List DecL) (c3 : Int) (c4 : List TagL) (c5 d0 d1 : Int) (q0 q1 q2 : Nat) :
    ∀ (r : List (List UInt8)) (a : Int) (w : MetD) (last : Int) (i m : Nat), ps.drop i = r → 2 ≤ i → i ≤ ps.length → r.length < m → 0 ≤ a → a + sumL r ≤ 10000 →
    F.dog_Parse.L8 n k0 m s ps ps (ps.length : Int) (i : Int) c0 c1 c2 c3 c4 c5 d0 d1 w.1 w.2.1 w.2.2.1 w.2.2.2.1 w.2.2.2.2.1 w.2.2.2.2.2.1 a last 0 0 q0 q1 q2 = some (outP (restR r a w last)) := by
  intro r
  have hpl := sumL_len ps
  induction r with
  | nil =>
    intro a w last i m h1 hi2 hi hm ha has
    obtain ⟨m, rfl⟩ : ∃ q, m = q + 1 := ⟨m - 1, by omega⟩
    rw [F.dog_Parse.L8]
    unfold F.dog_Parse.L8.step
    dsimp only
    rw [bif_neg (by have := drop_nil' h1; omega), restR]
    exact hk.ok h2 _ _ _ _ _ _ _ _ _ _ _ _ _ _ _ _ _ _ _
  | cons p r ih =>
    intro a w last i m h1 hi2 hi hm ha has
    obtain ⟨m, rfl⟩ : ∃ q, m = q + 1 := ⟨m - 1, by simp at hm; omega⟩
    obtain ⟨l1, g1, t1⟩ := drop_cons h1
    simp only [List.length_cons] at hm
    simp only [sumL, List.map_cons, List.sum_cons] at has
    have hp := sumL_mem (List.mem_of_getElem? g1)
    have hw0 : IntKind.wrap .i64 (a + 0) = a := by rw [Int.add_zero, wrap_in (by omega)]
    rw [F.dog_Parse.L8]
    unfold F.dog_Parse.L8.step
    dsimp only
    rw [bif_pos (by omega), idx_nat, g1, some_bind', bif_neg (by omega : ¬ (i : Int) < 2)]
    refine (more_eq n hn _ _ p (by omega) c0 c1 c2 c3 c4 c5 d0 d1 w.1 w.2.1 w.2.2.1 w.2.2.2.1 w.2.2.2.2.1 w.2.2.2.2.2.1 a last 0 0 q0 q1 q2 (by omega) ?_ ?_ n (by omega)).trans ?_
    · rw [hw0, Bool.false_and, Bool.not_false, cond_true]
      exact hk.bad _ _ _ _ _ _ _ _ _ _ _ _ _ _ _ _ _ _ _ _ _ (by decide)
    · intro l e he
      rw [beq_eq_false_iff_ne.2 he, Bool.false_and, Bool.not_false, cond_true]
      exact hk.bad _ _ _ _ _ _ _ _ _ _ _ _ _ _ _ _ _ _ _ _ _ he
    · have hww : (w.1, w.2.1, w.2.2.1, w.2.2.2.1, w.2.2.2.2.1, w.2.2.2.2.2.1, ()) = w := rfl
      rw [hww, restR]
      cases moreR w last p with
      | error e => rfl
      | ok x =>
        obtain ⟨w', l'⟩ := x
        dsimp only
        rw [at_step p (by omega), wrap_succ (by omega)]
        exact ih (a + p.length + 1) w' l' (i + 1) m t1 (by omega) (by omega) (by omega) (by omega) (by simp only [sumL]; omega)
theorem nameB (s : List UInt8) : (((textF 1 s 1 200).1 == 0) && ((textF 1 s 1 200).2.1 == 0)) = nameOK s := textF_both 1 s 1 200
theorem lines_eq (n : Nat) (hn : 200000 ≤ n) (k0 : K8) (s : List UInt8) (ps : List (List UInt8)) (hne : ps ≠ []) (hs : sumL ps ≤ 9000) (hsl : s.length ≤ 9000) (hk : K8OK s ps k0) (c0 : List UInt8) (c1 : Int) (c2 : List DecL) (c3 : Int) (c4 : List TagL) (c5 d0 d1 : Int) (q0 q1 : Nat) :
    F.dog_Parse.L8 n k0 n s ps ps (ps.length : Int) (0 : Int) c0 c1 c2 c3 c4 c5 d0 d1 [] 0 [] 1000000 [] 0 0 0 0 0 q0 q1 0 = some (outP (linesR s ps)) := by
  have hpl := sumL_len ps
  cases ps with
  | nil => exact absurd rfl hne
  | cons p r =>
    obtain ⟨m, hm⟩ : ∃ q, n = q + 2 := ⟨n - 2, by omega⟩
    have hp := sumL_mem (show p ∈ p :: r by simp)
    have hseg := seg_le 58 p
    have hrn := restN_le 58 p
    have hcut : F.strings_Cut n p [58] = some (seg 58 p, restN 58 p, decide (58 ∈ p), ()) := cut_eq n 58 (by omega)
    have hw0 : ∀ x : Int, 0 ≤ x ∧ x ≤ 100000 → IntKind.wrap .i64 (0 + x) = x := fun x hx => by rw [Int.zero_add, wrap_in (by omega)]
    have key : ∀ m, 20001 ≤ m + 1 → F.dog_Parse.L8 n k0 (m + 1) s (p :: r) (p :: r) ((p :: r).length : Int) (0 : Int) c0 c1 c2 c3 c4 c5 d0 d1 [] 0 [] 1000000 [] 0 0 0 0 0 q0 q1 0 = match firstR p with
        | .error e => some (badP e.1 e.2)
        | .ok x => F.dog_Parse.L8 n k0 m s (p :: r) (p :: r) ((p :: r).length : Int) ((1 : Nat) : Int) c0 c1 c2 c3 c4 c5 d0 d1 x.1 0 x.2 1000000 [] 0 ((p.length : Int) + 1) 0 0 0 q0 q1 x.2.length := by
      intro m hm
      rw [F.dog_Parse.L8]
      unfold F.dog_Parse.L8.step
      dsimp only
      rw [bif_pos (by simp only [List.length_cons]; omega), show idx (p :: r) 0 = some p from rfl, some_bind', bif_pos (by omega : (0 : Int) < 2), beq_self_eq_true, cond_true, hcut, some_bind']
      dsimp only
      rw [text_cls n 1 _ 1 200 (by omega) (by omega), some_bind', nameB]
      unfold firstR
      cases hnm : nameOK (seg 58 p)
      · rw [Bool.not_false, cond_true, if_pos rfl, hw0 0 (by omega), Bool.false_and, Bool.not_false, cond_true]
        exact hk.bad _ _ _ _ _ _ _ _ _ _ _ _ _ _ _ _ _ _ _ _ _ (by decide)
      · rw [Bool.not_true, cond_false, if_neg (by simp)]
        by_cases hin : (58 : UInt8) ∈ p
        · rw [decide_eq_true hin, Bool.not_true, cond_false, if_neg (by simp [hin]), split_eq n 58 (by omega), some_bind']
          have hsum := splitL_sum 58 (restN 58 p)
          have hsn := sumL_len (splitL 58 (restN 58 p))
          have hrl : (seg 58 p).length + 1 + (restN 58 p).length ≤ p.length := by
            unfold restN
            rw [if_pos hin, List.length_drop]
            have := seg_lt hin
            omega
          have hA : IntKind.wrap .i64 (((seg 58 p).length : Int) + 1) = ((seg 58 p).length : Int) + 1 := wrap_in (by omega)
          have hP : IntKind.wrap .i64 ((p.length : Int) + 1) = (p.length : Int) + 1 := wrap_in (by omega)
          rw [hA, hP]
          refine (first_loop n hn _ _ (splitL 58 (restN 58 p)) (by omega) c0 c1 c2 c3 c4 c5 d0 d1 (seg 58 p) 0 1000000 [] 0 0 0 0 q0 q1 ?_ (splitL 58 (restN 58 p)) [] _ 0 n rfl (by simp) (by omega) (by omega) (by omega) (by omega)).trans ?_
          · intro acc a l
            rw [show ((17 : Int) == 0) = false from rfl, Bool.false_and, Bool.not_false, cond_true]
            exact hk.bad _ _ _ _ _ _ _ _ _ _ _ _ _ _ _ _ _ _ _ _ _ (by decide)
          · cases readVals (splitL 58 (restN 58 p)) [] (((seg 58 p).length : Int) + 1) with
            | error b => rfl
            | ok vs =>
              dsimp only
              rw [Bool.and_self, Bool.not_true, cond_false, hw0 ((p.length : Int) + 1) (by omega)]
              rfl
        · rw [decide_eq_false hin, Bool.not_false, cond_true, if_pos hin, hw0 _ (by omega), Bool.false_and, Bool.not_false, cond_true]
          exact hk.bad _ _ _ _ _ _ _ _ _ _ _ _ _ _ _ _ _ _ _ _ _ (by decide)
    have key2 : ∀ m, 20001 ≤ m + 1 → ∀ nm (vs : List DecL) (a : Int) (l : Nat), a = (p.length : Int) + 1 → F.dog_Parse.L8 n k0 (m + 1) s (p :: r) (p :: r) ((p :: r).length : Int) ((1 : Nat) : Int) c0 c1 c2 c3 c4 c5 d0 d1 nm 0 vs 1000000 [] 0 a 0 0 0 q0 q1 l = some (outP (secondR s p nm vs r)) := by
      intro m hm nm vs a l hA
      rw [F.dog_Parse.L8]
      unfold F.dog_Parse.L8.step
      dsimp only
      cases r with
      | nil =>
        rw [bif_neg (by simp), secondR]
        exact hk.one (by simp) _ _ _ _ _ _ _ _ _ _ _ _ _ _ _ _ _ _ _
      | cons q r =>
        have hq := sumL_mem (show q ∈ p :: q :: r by simp)
        rw [bif_pos (by simp only [List.length_cons]; omega), show idx (p :: q :: r) ((1 : Nat) : Int) = some q from rfl, some_bind', bif_pos (by omega), show (((1 : Nat) : Int) == 0) = false from rfl, cond_false, show (((1 : Nat) : Int) == 1) = true from rfl, cond_true, kind_eq n (by omega), some_bind']
        have hwa : IntKind.wrap .i64 (a + 0) = a := by rw [Int.add_zero, wrap_in (by omega)]
        rw [secondR]
        by_cases h0 : kindR q = 0
        · rw [if_pos h0, if_pos h0]
          dsimp only
          rw [show ((16 : Int) == 0) = false from rfl, Bool.not_false, cond_true, Bool.false_and, Bool.not_false, cond_true, hwa, hA]
          exact hk.bad _ _ _ _ _ _ _ _ _ _ _ _ _ _ _ _ _ _ _ _ _ (by decide)
        · rw [if_neg h0, if_neg h0]
          dsimp only
          rw [beq_self_eq_true, Bool.not_true, cond_false, Bool.and_self, Bool.not_true, cond_false]
          simp only [sumL, List.map_cons, List.sum_cons, List.length_cons] at hs hpl
          rw [at_step q (by omega), show IntKind.wrap .i64 (((1 : Nat) : Int) + 1) = ((2 : Nat) : Int) from rfl, hA]
          have := drest_loop n hn k0 s (p :: q :: r) (by simp only [sumL, List.map_cons, List.sum_cons]; omega) hk (by simp) c0 c1 c2 c3 c4 c5 d0 d1 q0 q1 l r ((p.length : Int) + 1 + (q.length + 1)) (nm, kindR q, vs, 1000000, [], 0, ()) 0 2 m rfl (by omega) (by simp) (by omega) (by omega) (by simp only [sumL]; omega)
          rw [show (p.length : Int) + 1 + (q.length + 1) = (p.length : Int) + 1 + q.length + 1 by omega] at this ⊢
          exact this
    have k1 := key (m + 1) (by omega)
    have k2 := key2 m (by omega)
    have hmm : n = m + 1 + 1 := hm
    rw [linesR]
    have goal : ∀ j, j = m + 1 + 1 → F.dog_Parse.L8 n k0 j s (p :: r) (p :: r) ((p :: r).length : Int) (0 : Int) c0 c1 c2 c3 c4 c5 d0 d1 [] 0 [] 1000000 [] 0 0 0 0 0 q0 q1 0 = some (outP (match firstR p with
      | .error e => .error e
      | .ok x => secondR s p x.1 x.2 r)) := by
      intro j hj
      rw [hj, k1]
      cases firstR p with
      | error e => rfl
      | ok x => exact k2 x.1 x.2 _ _ rfl
    exact goal n hmm
theorem parse_eq (n : Nat) (hn : 200000 ≤ n) (s : List UInt8) (hs : s.length ≤ 1000000) : F.dog_Parse n s = some (parseD s) := by
  unfold F.dog_Parse parseD
  rw [bdec]
  by_cases h : 8192 < s.length
  · rw [if_pos (by omega), if_pos h]; rfl
  · rw [if_neg (by omega), if_neg h, split_eq n 124 hs, some_bind']
    have hsum := splitL_sum 124 s
    refine lines_eq n hn _ s (splitL 124 s) (splitL_ne 124 s) (by omega) (by omega) ⟨?_, ?_, ?_⟩ [] 0 [] 0 [] 0 0 0 0 0
    · intro c0 c1 c2 c3 c4 c5 d0 d1 e0 e1 e2 e3 e4 e5 e6 e7 e a q0 q1 q2 he
      rw [beq_eq_false_iff_ne.2 he, Bool.false_and, cond_false, Bool.not_false, cond_true]
      rfl
    · intro h2 c0 c1 c2 c3 c4 c5 d0 d1 e0 e1 e2 e3 e4 e5 e6 e7 q0 q1 q2
      rw [beq_self_eq_true, Bool.and_self, cond_true, bif_neg (by omega), Bool.not_true, cond_false]
    · intro h2 c0 c1 c2 c3 c4 c5 d0 d1 e0 e1 e2 e3 e4 e5 e6 e7 q0 q1 q2
      rw [beq_self_eq_true, Bool.and_self, cond_true, bif_pos (by omega), Bool.false_and, Bool.not_false, cond_true]
      rfl
end Go.AM
set_option linter.unusedVariables false
set_option linter.unusedSimpArgs false
namespace Go.AM
theorem right_id {m : MetD} (h : RightM m) (hs : StrictT m.2.2.2.2.1) : normM m = (m, 0, ()) := by
  have hv := (right_vals h).1
  have e1 : m.2.2.1.map normV = m.2.2.1 := by
    have : m.2.2.1.map normV = m.2.2.1.map id := List.map_congr_left (fun d hd => (normV_id (hv d hd).1 (hv d hd).2).2)
    rw [this, List.map_id]
  have e2 : valsM m = m := by unfold valsM; rw [e1]
  unfold normM
  rw [e2, if_pos h.chk]
  unfold formM
  rw [e1, normT_id hs]
theorem line_right (n : Nat) (hn : 200000 ≤ n) {m : MetD} (h : RightM m) (hs : StrictT m.2.2.2.2.1) : F.dog_Line n m = some (lineD m, 0, ()) := by
  rw [line_eq n hn m h.ok]
  unfold lineM
  rw [right_id h hs, if_pos rfl]
theorem refkind_eq (n : Nat) (hn : 100 ≤ n) (s : List UInt8) : F.ref11_Kind n s = some (kindR s) := by
  obtain ⟨m, hm⟩ : ∃ q, n = q + 6 := ⟨n - 6, by omega⟩
  unfold F.ref11_Kind
  rw [show F.ref11_Words n = some [[99], [103], [109, 115], [104], [100]] from rfl, some_bind']
  have L : ∀ (k0 : Unit → Option Int) (kr : Int → Option Int), F.ref11_Kind.L3 n k0 kr (m + 6) s [[99], [103], [109, 115], [104], [100]] (0 : Int) = if s = [99] then kr 1 else if s = [103] then kr 2 else if s = [109, 115] then kr 3 else if s = [104] then kr 4 else if s = [100] then kr 5 else k0 () := by
    intro k0 kr
    have e1 : ([99] == s) = decide (s = [99]) := by by_cases h : s = [99] <;> simp [h]; exact fun h' => h h'.symm
    have e2 : ([103] == s) = decide (s = [103]) := by by_cases h : s = [103] <;> simp [h]; exact fun h' => h h'.symm
    have e3 : ([109, 115] == s) = decide (s = [109, 115]) := by by_cases h : s = [109, 115] <;> simp [h]; exact fun h' => h h'.symm
    have e4 : ([104] == s) = decide (s = [104]) := by by_cases h : s = [104] <;> simp [h]; exact fun h' => h h'.symm
    have e5 : ([100] == s) = decide (s = [100]) := by by_cases h : s = [100] <;> simp [h]; exact fun h' => h h'.symm
    show (bif [99] == s then kr 1 else bif [103] == s then kr 2 else bif [109, 115] == s then kr 3 else bif [104] == s then kr 4 else bif [100] == s then kr 5 else k0 ()) = _
    rw [e1, e2, e3, e4, e5]
    simp only [bdec]
  rw [hm] at L ⊢
  refine (L _ _).trans ?_
  unfold kindR
  repeat' split
  all_goals rfl
def exM : MetD := ([97], 3, [(false, 1, 0), (false, 25, -1)], 500000, [([97], [120]), ([98], [])], 7, ())
theorem ex_right : RightM exM ∧ StrictT exM.2.2.2.2.1 ∧ lineD exM = [97, 58, 49, 58, 50, 46, 53, 124, 109, 115, 124, 64, 48, 46, 53, 124, 35, 97, 58, 120, 44, 98, 124, 84, 55] := by
  have d1 : Lib.decDigits 1 = [49] := dd_small (by omega)
  have d7 : Lib.decDigits 7 = [55] := dd_small (by omega)
  have d25 : Lib.decDigits 25 = [50, 53] := dd_inv (l := [50, 53]) rfl ⟨by simp, by simp⟩
  have d15 : Lib.decDigits 1500000 = [49, 53, 48, 48, 48, 48, 48] := dd_inv (l := [49, 53, 48, 48, 48, 48, 48]) rfl ⟨by simp, by simp⟩
  have c1 : decC (false, 1, 0) = 0 := by
    show checkR false 1 0 = 0
    unfold checkR; rw [d1]; rfl
  have c25 : decC (false, 25, -1) = 0 := by
    show checkR false 25 (-1) = 0
    unfold checkR; rw [d25]; rfl
  have t1 : textL (false, 1, 0) = [49] := by
    show textD false 1 0 = _
    unfold textD; rw [d1]; rfl
  have t25 : textL (false, 25, -1) = [50, 46, 53] := by
    show textD false 25 (-1) = _
    unfold textD wideW; rw [d25]; rfl
  have rt : (rateText 500000).1 = [48, 46, 53] := by
    unfold rateText pad6
    rw [if_neg (by decide), if_neg (by decide), show 1000000 + (500000 : Int).toNat = 1500000 from rfl, d15]; rfl
  refine ⟨⟨⟨by decide, ⟨by decide, fun d hd => ?_⟩, by decide, fun t ht => ?_⟩, ?_⟩, ?_, ?_⟩
  · have : d = (false, 1, 0) ∨ d = (false, 25, -1) := by simpa [exM] using hd
    rcases this with rfl | rfl
    · exact ⟨trivial, by decide, by decide⟩
    · exact ⟨trivial, by decide, by decide⟩
  · have : t = ([97], [120]) ∨ t = ([98], []) := by simpa [exM] using ht
    rcases this with rfl | rfl
    · exact ⟨by decide, by decide⟩
    · exact ⟨by decide, by decide⟩
  · have hv : valsB exM.2.2.1 = true := by
      show valsB [(false, 1, 0), (false, 25, -1)] = true
      unfold valsB
      simp [c1, c25]
    unfold chkM
    rw [hv]
    rfl
  · refine List.pairwise_cons.2 ⟨fun x hx => ?_, List.pairwise_singleton _ _⟩
    have : x = ([98], []) := by simpa using hx
    subst this
    rfl
  · show [97] ++ valsT [(false, 1, 0), (false, 25, -1)] ++ ([124] ++ wordT 3) ++ rateP 500000 ++ tagsP [([97], [120]), ([98], [])] ++ timeP 7 = _
    have v : valsT [(false, 1, 0), (false, 25, -1)] = [58, 49, 58, 50, 46, 53] := by
      unfold valsT
      simp [t1, t25]
    have r : rateP 500000 = [124, 64, 48, 46, 53] := by unfold rateP; rw [rt]; rfl
    have t : timeP 7 = [124, 84, 55] := by
      unfold timeP
      rw [show (7 : Int).toNat = 7 from rfl, d7]; rfl
    rw [v, r, t]
    rfl
theorem awake11 (n : Nat) (hn : 200000 ≤ n) : F.law11_awake n = some true := by
  unfold F.law11_awake
  obtain ⟨h1, h2, h3⟩ := ex_right
  have q1 : parseD [97, 58, 49, 58, 50, 46, 53, 48, 124, 109, 115, 124, 64, 48, 46, 53, 124, 35, 98, 44, 97, 58, 120, 124, 84, 55] = (exM, (0, 0, ()), ()) := by kernel_rfl
  have q2 : parseD [97, 58, 49, 124, 103, 124, 64, 48, 46, 53] = (zeroM, (18, 6, ()), ()) := by kernel_rfl
  have q3 : parseD [97, 58, 49, 124, 99, 124, 84, 55, 124, 64, 49] = (zeroM, (11, 9, ()), ()) := by kernel_rfl
  rw [parse_eq n hn _ (by simp), parse_eq n hn _ (by simp), parse_eq n hn _ (by simp), q1, q2, q3]
  have hl : F.dog_Line n (exM.1, exM.2.1, exM.2.2.1, exM.2.2.2.1, exM.2.2.2.2.1, exM.2.2.2.2.2.1, ()) = some (lineD exM, 0, ()) := line_right n hn h1 h2
  have he : F.ref07_Equal n (exM.1, exM.2.1, exM.2.2.1, exM.2.2.2.1, exM.2.2.2.2.1, exM.2.2.2.2.2.1, ()) ([97], (3 : Int), [(false, 1, 0), (false, 25, -1)], (500000 : Int), [([97], [120]), ([98], [])], (7 : Int), ()) = some true := refequal_refl n hn exM (by decide) (by decide)
  simp only [some_bind', hl, he, h3]
  rfl
theorem dog_words (n : Nat) (hn : 200000 ≤ n) (k : Int) (s : List UInt8) : F.law11_DogWords n k s = some true := by
  unfold F.law11_DogWords
  rw [awake11 n hn, word_eq, kind_eq n (by omega), refkind_eq n (by omega)]
  simp only [some_bind']
  by_cases h : 100 < s.length
  · rw [bif_pos (by omega)]
  rw [bif_neg (by omega)]
  have K : (bif kindR s == (0 : Int) then (bif (if kindR s = 0 then ((0 : Int), (16 : Int), ()) else (kindR s, 0, ())).1 == (0 : Int) then (bif (if kindR s = 0 then ((0 : Int), (16 : Int), ()) else (kindR s, 0, ())).2.1 == (16 : Int) then some true else some false) else some false) else (bif (if kindR s = 0 then ((0 : Int), (16 : Int), ()) else (kindR s, 0, ())).1 == kindR s then (bif (if kindR s = 0 then ((0 : Int), (16 : Int), ()) else (kindR s, 0, ())).2.1 == (0 : Int) then some true else some false) else some false)) = some true := by
    by_cases h0 : kindR s = 0
    · rw [if_pos h0, h0]; rfl
    · rw [if_neg h0, beq_eq_false_iff_ne.2 h0, cond_false]
      simp
  by_cases h1 : k < 1
  · have hk : kindB k = false := by unfold kindB; rw [decide_eq_false (by omega)]; rfl
    rw [bif_pos h1, hk]
    simp only [Bool.false_eq_true, if_false]
    exact K
  · rw [bif_neg h1]
    by_cases h2 : k > 5
    · have hk : kindB k = false := by unfold kindB; rw [decide_eq_false (by omega : ¬ k ≤ 5), Bool.and_false]
      rw [bif_pos h2, hk]
      simp only [Bool.false_eq_true, if_false]
      exact K
    · rw [bif_neg h2]
      have hk : k = 1 ∨ k = 2 ∨ k = 3 ∨ k = 4 ∨ k = 5 := by omega
      rcases hk with rfl | rfl | rfl | rfl | rfl <;> exact K
theorem few_loop (n : Nat) (X : Type) (k0 : List UInt8 → Int → List DecL → Int → List TagL → Int → Option X) (kr : Bool → List UInt8 → Int → List DecL → Int → List TagL → Int → Option X) (ts : List TagL) (hs : ts.length ≤ 1000) (b0 : List UInt8) (b1 : Int) (b2 : List DecL) (b3 : Int) (b5 : Int) : ∀ (r : List TagL) (k m : Nat), ts.drop k = r → r.length < m →
    F.law07_Few.L4 n k0 kr m (k : Int) b0 b1 b2 b3 ts b5 = bif r.all (fun t => decide (t.1.length ≤ 150) && decide (t.2.length ≤ 150)) then k0 b0 b1 b2 b3 ts b5 else kr false b0 b1 b2 b3 ts b5 := by
  intro r
  induction r with
  | nil =>
    intro k m h1 hm
    obtain ⟨m, rfl⟩ : ∃ q, m = q + 1 := ⟨m - 1, by omega⟩
    rw [F.law07_Few.L4]
    unfold F.law07_Few.L4.step
    dsimp only
    rw [bif_neg (by have := drop_nil' h1; omega)]
    rfl
  | cons t r ih =>
    intro k m h1 hm
    obtain ⟨m, rfl⟩ : ∃ q, m = q + 1 := ⟨m - 1, by simp at hm; omega⟩
    obtain ⟨l1, g1, t1⟩ := drop_cons h1
    rw [F.law07_Few.L4]
    unfold F.law07_Few.L4.step
    dsimp only
    rw [bif_pos (by omega), idx_nat, g1, some_bind', some_bind', wrap_succ (by omega), ih (k + 1) m t1 (by simp at hm; omega), List.all_cons]
    by_cases e1 : t.1.length ≤ 150
    · rw [bif_neg (by omega), decide_eq_true e1]
      by_cases e2 : t.2.length ≤ 150
      · rw [bif_neg (by omega), decide_eq_true e2]; rfl
      · rw [bif_pos (by omega), decide_eq_false e2]; rfl
    · rw [bif_pos (by omega), decide_eq_false e1]; rfl
def fewB (m : MetD) : Bool := decide (m.1.length ≤ 300) && (decide (m.2.2.1.length ≤ 80) && (decide (m.2.2.2.2.1.length ≤ 40) && m.2.2.2.2.1.all (fun t => decide (t.1.length ≤ 150) && decide (t.2.length ≤ 150))))
theorem few_eq (n : Nat) (hn : 200000 ≤ n) (m : MetD) : F.law07_Few n m = some (fewB m) := by
  obtain ⟨nm, k, vs, r, ts, t, _⟩ := m
  unfold F.law07_Few fewB
  dsimp only
  by_cases h1 : nm.length ≤ 300
  · rw [bif_neg (by omega), decide_eq_true h1, Bool.true_and]
    by_cases h2 : vs.length ≤ 80
    · rw [bif_neg (by omega), decide_eq_true h2, Bool.true_and]
      by_cases h3 : ts.length ≤ 40
      · rw [bif_neg (by omega), decide_eq_true h3, Bool.true_and]
        refine (few_loop n Bool _ _ ts (by omega) nm k vs r t ts 0 n rfl (by omega)).trans ?_
        exact bif_some _ _ _ |>.trans (by cases ts.all (fun t => decide (t.1.length ≤ 150) && decide (t.2.length ≤ 150)) <;> rfl)
      · rw [bif_pos (by omega), decide_eq_false h3]; rfl
    · rw [bif_pos (by omega), decide_eq_false h2]; rfl
  · rw [bif_pos (by omega), decide_eq_false h1]; rfl
theorem few_ok {m : MetD} (hw : MetWf m) (h : fewB m = true) : MetOK m := by
  unfold fewB at h
  simp only [Bool.and_eq_true, decide_eq_true_eq] at h
  obtain ⟨h1, h2, h3, h4⟩ := h
  refine ⟨by omega, ⟨by omega, hw⟩, by omega, fun t ht => ?_⟩
  have := List.all_eq_true.1 h4 t ht
  simp only [Bool.and_eq_true, decide_eq_true_eq] at this
  exact ⟨by omega, by omega⟩
theorem dog_lines (n : Nat) (hn : 200000 ≤ n) (m : MetD) (hw : MetWf m) : F.law11_DogLines n m = some true := by
  unfold F.law11_DogLines
  have hf : F.law07_Few n (m.1, m.2.1, m.2.2.1, m.2.2.2.1, m.2.2.2.2.1, m.2.2.2.2.2.1, ()) = some (fewB m) := few_eq n hn m
  rw [hf, awake11 n hn, some_bind']
  cases h : fewB m
  · rfl
  have hm := few_ok hw h
  have hl : F.dog_Line n (m.1, m.2.1, m.2.2.1, m.2.2.2.1, m.2.2.2.2.1, m.2.2.2.2.2.1, ()) = some (lineM m) := line_eq n hn m hm
  have hN : F.ref07_Normal n (m.1, m.2.1, m.2.2.1, m.2.2.2.1, m.2.2.2.2.1, m.2.2.2.2.2.1, ()) = some (normM m) := metNormal_ref n hn m hm
  rw [hl, hN]
  unfold lineM
  rcases normM_cases hm with ⟨h1, hR⟩ | ⟨e, he, h1⟩
  · rw [h1]
    have hL : F.ref11_Line n ((formM m).1, (formM m).2.1, (formM m).2.2.1, (formM m).2.2.2.1, (formM m).2.2.2.2.1, (formM m).2.2.2.2.2.1, ()) = some (lineD (formM m)) := line_ref n hn (formM m) hR
    simp only [some_bind', hL, Bool.not_true, cond_false, beq_self_eq_true, if_true, cond_true]
  · rw [h1]
    simp only [some_bind', if_neg he, Bool.not_true, cond_false, beq_eq_false_iff_ne.2 he, Bool.not_false, beq_self_eq_true, cond_true]
end Go.AM
namespace Go.Proofs.YtgkhaoohkeblfaaGreatDoor.dogLines
open Go.ChangeShapes Go.WideShapes Go.ChangeAt Go.RowKit Go.AM
theorem own : ownKnob Tryz.prog.godebug = none := by kernel_rfl
theorem goes : LawGoes Tryz.prog SI 4 [(.agg [.str, (.int .i64), (.sl (.agg [.bool, (.int .u64), (.int .i64)])), (.int .i64), (.sl (.agg [.str, .str])), (.int .i64)])] := fun x hx w vals hI hr =>
  ok4 _ ((x.1.1, x.1.2.1, x.1.2.2.1, x.1.2.2.2.1, x.1.2.2.2.2.1, x.1.2.2.2.2.2, ()), ()) true (dog_lines 200000 (by omega) (x.1.1, x.1.2.1, x.1.2.2.1, x.1.2.2.2.1, x.1.2.2.2.2.1, x.1.2.2.2.2.2, ()) hx.1.2.2.1.2) w (AllD w) vals (WOf.of hI) hr (fun b o h => h)
noncomputable def laidWorld (os : Os) : World := laidOf Tryz.prog os [layTab 4 Rows.laid_math_bits_deBruijn32tab, layTab 5 Rows.laid_math_bits_deBruijn64tab, layTab 0 Rows.laid_internal_strconv_uint64pow10, layTab 3 Rows.laid_unicode_utf8_acceptRanges, layErr 7 232 234 Rows.laid_strconv_ErrRange, layErr 6 232 234 Rows.laid_strconv_ErrSyntax, layTab 2 Rows.laid_unicode_utf8_first]
theorem laid_met (os : Os) (args : Array Value) : laidMet Tryz.prog Rows.dogLinesRow.laid ((laidWorld os).forCall (fun _ _ => 0) ⟨#[], args, []⟩).memory :=
  (LaidIn.of_run [4, 5, 0, 3, 7, 6, 2, (World.holding Tryz.prog os ⟨#[], #[], []⟩).heap.size, (World.holding Tryz.prog os ⟨#[], #[], []⟩).heap.size + 1] 8 (by kernel_rfl) (by kernel_rfl) (by kernel_rfl) (by kernel_rfl)).met
theorem witness_row (os : Os) {H : Type} (enc : TypeId × Value → H) :
    (OpenSpec.ofChange Rows.dogLinesSpec).preRow enc Tryz.prog Tryz.f4 Rows.dogLinesRow.domain false Rows.dogLinesRow.laid ((laidWorld os).forCall (fun _ _ => 0) ⟨#[], #[.agg #[.string .empty, .int .i64 0, .slice none 0 0, .int .i64 0, .slice none 0 0, .int .i64 0]], []⟩).memory #[.agg #[.string .empty, .int .i64 0, .slice none 0 0, .int .i64 0, .slice none 0 0, .int .i64 0]] := by
  have hw : (DataW.whole enc Tryz.prog ((laidWorld os).forCall (fun _ _ => 0) ⟨#[], #[.agg #[.string .empty, .int .i64 0, .slice none 0 0, .int .i64 0, .slice none 0 0, .int .i64 0]], []⟩).memory Tryz.f4.params.toList Rows.dogLinesSpec.vars false (#[.agg #[.string .empty, .int .i64 0, .slice none 0 0, .int .i64 0, .slice none 0 0, .int .i64 0]] : Array Value).toList 8).map (fun x => (x.1, x.2.1)) =
      some ([.agg [.lit (.string []), .lit (.int .i64 0), .nil, .lit (.int .i64 0), .nil, .lit (.int .i64 0)]], []) := by kernel_rfl
  obtain ⟨⟨x1, x2, x3⟩, hx, hx1⟩ := Option.map_eq_some_iff.1 hw
  simp only [Prod.mk.injEq] at hx1
  obtain ⟨rfl, rfl⟩ := hx1
  exact OpenSpec.preRow_of_cond 8 hx (by kernel_rfl) (fun k hk => by cases hk) (by kernel_rfl) (laid_met os _)
set_option maxRecDepth 100000 in
theorem lifted (os : Os) (started : os.Started) (H : Type) (enc : TypeId × Value → H) (F : Stop.Interp) :
    ReturnsInHanded {} Tryz.checked os 4 .any ((OpenSpec.ofChange Rows.dogLinesSpec).preRow enc Tryz.prog Tryz.f4 Rows.dogLinesRow.domain false Rows.dogLinesRow.laid) (((OpenSpec.ofChange Rows.dogLinesSpec).at F).post enc Tryz.prog Tryz.f4 false true false false) := by
  refine returnsInHanded_of_row (C := Tryz.checked) (s := OpenSpec.ofChange Rows.dogLinesSpec) own started (by kernel_rfl) Tryz.func4
    (witness_row_atRef (enc := enc) (C := Tryz.checked) false (laidWorld os) #[.agg #[.string .empty, .int .i64 0, .slice none 0 0, .int .i64 0, .slice none 0 0, .int .i64 0]] rfl (by kernel_rfl) (by kernel_rfl) (by kernel_rfl) (witness_row os enc)) ?_
  intro W base args ds gs before hval hW _ _ hw hL hO _
  exact law_calls (s := Rows.dogLinesSpec) (n := 8) (by kernel_rfl) Tryz.func4 (by kernel_rfl) (by decide) (by kernel_rfl) rfl Tryz.underlying4 rfl (fun ds h => by match ds, h with | [_], _ => rfl) goes hval hW hw ⟨hL, hO⟩
theorem said : Rows.DogLinesSaid :=
  OpenClaim.holds_of_cond 4 Tryz.f4 rfl rfl rfl rfl rfl rfl rfl ⟨rfl, rfl, rfl, rfl, rfl⟩ rfl rfl rfl rfl rfl (by kernel_rfl) Tryz.func4 (by kernel_rfl)
    (of_decide_eq_true (by kernel_rfl)) (by unfold Func.isWrapper; first | (rw [if_pos (by decide +kernel)]; kernel_rfl) | (rw [if_neg (by decide +kernel)]; exact ⟨rfl, rfl⟩))
    (fun os started H enc _ F => by rw [OpenClaim.pre_eq_preRow]; exact lifted os started H enc F)
theorem plain (f : FuncId) (fn : Func) (hf : Tryz.pinned.checked.prog.funcNamed "forebay/forebaylaw11.DogLines" = some f) (hfn : Tryz.pinned.checked.prog.funcs[f]? = some fn) :
    true = Tryz.pinned.checked.prog.looks [] ∧ ∀ (j : Nat) t, fn.params[j]? = some t → Tryz.pinned.checked.prog.wantsStandIn t = false := by
  obtain rfl : f = 4 := Option.some.inj ((show Tryz.prog.funcNamed "forebay/forebaylaw11.DogLines" = some 4 by kernel_rfl).symm.trans hf) |>.symm
  obtain rfl : fn = Tryz.f4 := (Option.some.inj (Tryz.func4.symm.trans hfn)).symm
  refine ⟨by kernel_rfl, fun j t ht => ?_⟩
  have hm : t ∈ ([35] : List TypeId) := by
    rw [Tryz.params4] at ht
    have := Array.mem_of_getElem? ht
    simpa using this
  have all : ∀ x ∈ ([35] : List TypeId), Tryz.prog.wantsStandIn x = false := fun x hx => by
    have h : ([35] : List TypeId).all (fun x => Tryz.prog.wantsStandIn x == false) = true := by kernel_rfl
    simpa using List.all_eq_true.1 h x hx
  exact all t hm
theorem proved : Rows.DogLinesCardSaid :=
  Claim7.holds_tied_plain_at .later [] _ _ _ _ said (fun _ h => by cases h) (by kernel_rfl) (fun _ h => by cases h) dogLines_row_tie rfl ⟨rfl, rfl⟩ (by kernel_rfl) rfl plain (by kernel_rfl)
end Go.Proofs.YtgkhaoohkeblfaaGreatDoor.dogLines
