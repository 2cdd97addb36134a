/- A batch has in each format of lines the lines, and the bytes, that the document tells, or the metric is wrong that it tells. -/
import Derived.Test.YtonhplejlfnkoaaGreatDoorQ5
import Derived.KernelRfl
import Derived.Test.YtonhplejlfnkoaaGreatDoorCards
import Derived.Test.YtonhplejlfnkoaaGreatDoorTie
import Derived.OpenShut
set_option linter.unusedVariables false
set_option linter.unusedSimpArgs false
namespace Go.AM
theorem getLast_take {α : Type} {L D : List α} {k : Nat} (h : L.take D.length = D) (hk : D.length = k + 1) : L[k]? = D.getLast? := by
  rw [List.getLast?_eq_getElem?]
  have : D[D.length - 1]? = (L.take D.length)[D.length - 1]? := by rw [h]
  rw [this, hk, List.getElem?_take]
  simp
theorem take_set {α : Type} {L D : List α} (x : α) (h : L.take D.length = D) (hk : D.length < L.length) : (L.set D.length x).take (D ++ [x]).length = D ++ [x] := by
  rw [List.length_append, List.length_singleton, List.take_add_one, List.take_set_of_le (Nat.le_refl _), h]
  simp [hk]
theorem drop_set {α : Type} (L : List α) (i k : Nat) (x : α) (h : i ≤ k) : (L.set i x).drop (k + 1) = L.drop (k + 1) := List.drop_set_of_lt (by omega)
theorem norm_loop (n : Nat) (X : Type) (k0 : (Nat × Nat) → Int → (Nat × List TagL) → (Nat × List TagL) → (Nat × List TagL) → Option X) (v N : Nat) (hN : N ≤ 100000) (b0 b1 : Nat × List TagL) :
    ∀ (r D L : List TagL) (i m : Nat), L.drop i = r → i ≤ N → r.length < m → D.length ≤ i → (i = 0 ↔ D = []) → L.length = N → L.take D.length = D →
    ∃ L', L'.take (r.foldl dedF D).length = r.foldl dedF D ∧ L'.length = N ∧ F.tag_Normal.L5 n k0 m (v, N) (D.length : Int) (v, N) (N : Int) (i : Int) b0 b1 (v, L) = k0 (v, N) ((r.foldl dedF D).length : Int) b0 b1 (v, L') := by
  intro r
  induction r with
  | nil =>
    intro D L i m hr hi hm hD h0 hL hT
    obtain ⟨m, rfl⟩ : ∃ p, m = p + 1 := ⟨m - 1, by omega⟩
    refine ⟨L, hT, hL, ?_⟩
    rw [F.tag_Normal.L5]
    unfold F.tag_Normal.L5.step
    dsimp only
    rw [bif_neg (by have := drop_nil' hr; omega)]
    rfl
  | cons x r ih =>
    intro D L i m hr hi hm hD h0 hL hT
    obtain ⟨m, rfl⟩ : ∃ p, m = p + 1 := ⟨m - 1, by simp at hm; omega⟩
    obtain ⟨l1, g1, t1⟩ := drop_cons hr
    have hw : IntKind.wrap .i64 ((D.length : Int) + 1) = ((D.length + 1 : Nat) : Int) := wrap_succ (by omega)
    have hput : ∃ L', L'.take (r.foldl dedF (D ++ [x])).length = r.foldl dedF (D ++ [x]) ∧ L'.length = N ∧ F.tag_Normal.L5 n k0 m (v, N) (((D ++ [x]).length : Nat) : Int) (v, N) (N : Int) ((i + 1 : Nat) : Int) b0 b1 (v, L.set D.length x) = k0 (v, N) ((r.foldl dedF (D ++ [x])).length : Int) b0 b1 (v, L') :=
      ih (D ++ [x]) (L.set D.length x) (i + 1) m (by rw [drop_set L D.length i x hD]; exact t1) (by omega) (by simp at hm; omega) (by simp; omega) (by simp) (by simpa using hL) (take_set x hT (by omega))
    rw [F.tag_Normal.L5]
    unfold F.tag_Normal.L5.step
    dsimp only
    rw [List.foldl_cons]
    have hb1 : (decide ((0 : Int) ≤ (i : Int)) && decide ((i : Int) < (N : Int))) = true := by simp; omega
    have hb2 : (decide ((0 : Int) ≤ (D.length : Int)) && decide ((D.length : Int) < (N : Int))) = true := by simp; omega
    have hbe : Nat.beq v v = true := Nat.beq_refl v
    rw [bif_pos (by omega : (i : Int) < (N : Int)), hb1, hbe, cond_true, cond_true, idx_nat, g1, some_bind', wrap_succ (by omega : i < 4611686018427387904)]
    by_cases hi0 : i = 0
    · have hD0 := h0.1 hi0
      have e0 : ((i : Int) == 0) = true := by simp [hi0]
      rw [e0, cond_true, hb2, cond_true, cond_true, idx_lt (by omega : D.length < L.length), some_bind', hw, Int.toNat_natCast, upd_set]
      have hd : dedF D x = D ++ [x] := by rw [hD0]; rfl
      rw [hd]
      obtain ⟨L', q1, q2, q3⟩ := hput
      refine ⟨L', q1, q2, ?_⟩
      rw [← q3, List.length_append, List.length_singleton]
    · have e0 : ((i : Int) == 0) = false := by simpa using hi0
      have hne : D ≠ [] := fun h => hi0 (h0.2 h)
      have hpos : 0 < D.length := List.length_pos_iff.2 hne
      have hwp : IntKind.wrap .i64 ((D.length : Int) - 1) = ((D.length - 1 : Nat) : Int) := by rw [wrap_in (by omega)]; omega
      have hb3 : (decide ((0 : Int) ≤ ((D.length - 1 : Nat) : Int)) && decide (((D.length - 1 : Nat) : Int) < (N : Int))) = true := by simp; omega
      obtain ⟨y, hy⟩ : ∃ y, D.getLast? = some y := ⟨_, List.getLast?_eq_some_getLast hne⟩
      have gl : L[D.length - 1]? = some y := by rw [getLast_take hT (by omega), hy]
      rw [e0, cond_false, hwp, hb3, cond_true, cond_true, idx_nat, gl, some_bind', tagL_beq]
      by_cases hxy : x = y
      · rw [decide_eq_true hxy, Bool.not_true, cond_false]
        have hd : dedF D x = D := by unfold dedF; rw [hy, hxy, if_pos rfl]
        rw [hd]
        exact ih D L (i + 1) m t1 (by omega) (by simp at hm; omega) (by omega) (by simp [hne]) hL hT
      · rw [decide_eq_false hxy, Bool.not_false, cond_true, hb2, cond_true, cond_true, idx_lt (by omega : D.length < L.length), some_bind', hw, Int.toNat_natCast, upd_set]
        have hd : dedF D x = D ++ [x] := by unfold dedF; rw [hy, if_neg (by simpa using fun h : y = x => hxy h.symm)]
        rw [hd]
        obtain ⟨L', q1, q2, q3⟩ := hput
        refine ⟨L', q1, q2, ?_⟩
        rw [← q3, List.length_append, List.length_singleton]
theorem clip_eq (n : Nat) (l : List TagL) : F.slices_Clip_api_Tag_api_Tag n l = some l := by
  unfold F.slices_Clip_api_Tag_api_Tag
  rw [beq_self_eq_true, cond_true, show (0 : Int) = ((0 : Nat) : Int) from rfl, sub_nat l 0 l.length (by omega) (by omega)]
  simp
theorem norm_out (n : Nat) (hn : 200000 ≤ n) (l : List TagL) (hl : l.length ≤ 100000) (v : Nat) (b0 b1 : Nat × List TagL) :
    F.tag_Normal.L5 n (fun (e11_3 : Nat × Nat) (e11_4 : Int) (e11_b0_0 e11_b1_0 e11_b2_0 : Nat × List TagL) =>
          bif Nat.beq e11_3.1 e11_b2_0.1 then
            (sub e11_b2_0.2 (0 : Int) e11_4).bind fun x12 =>
              (F.slices_Clip_api_Tag_api_Tag n x12).bind fun y13 =>
                some (y13)
          else
            none) n (v, l.length) (0 : Int) (v, l.length) (l.length : Int) (0 : Int) b0 b1 (v, sortTags l) = some (normT l) := by
  obtain ⟨L', q1, q2, q3⟩ := norm_loop n _ (fun (e11_3 : Nat × Nat) (e11_4 : Int) (e11_b0_0 e11_b1_0 e11_b2_0 : Nat × List TagL) =>
          bif Nat.beq e11_3.1 e11_b2_0.1 then
            (sub e11_b2_0.2 (0 : Int) e11_4).bind fun x12 =>
              (F.slices_Clip_api_Tag_api_Tag n x12).bind fun y13 =>
                some (y13)
          else
            none) v l.length hl b0 b1 (sortTags l) [] (sortTags l) 0 n rfl (by omega) (by rw [sortTags_length]; omega) (by simp) (by simp) (sortTags_length l) rfl
  refine q3.trans ?_
  rw [ded_norm] at q1 ⊢
  dsimp only
  rw [Nat.beq_refl, cond_true, show (0 : Int) = ((0 : Nat) : Int) from rfl, sub_nat L' 0 _ (by omega) (by rw [q2]; exact normT_len l), q1]
  simp only [some_bind', List.drop_zero, clip_eq]
theorem tagNormal_eq (n : Nat) (hn : 200000 ≤ n) (l : List TagL) (hl : l.length ≤ 100000) : F.tag_Normal n l = some (normT l) := by
  have e1 : (decide ((0 + l.length) * 32 ≤ 2 ^ 46) && decide (0 < 32 ∧ 32 ≤ 2 ^ 20)) = true := by
    rw [decide_eq_true (by omega)]; rfl
  have e2 : ∀ l : List TagL, l.length ≤ 100000 → (Nat.beq (sortTags l).length l.length && Nat.blt l.length strMax) = true := by
    intro l hl
    rw [sortTags_length, Nat.beq_refl, Bool.true_and, strMax_eq]
    exact Nat.ble_eq ▸ (by omega : l.length + 1 ≤ 4611686018427387904)
  unfold F.tag_Normal
  rw [List.nil_append, e1, cond_true, e2 l hl, cond_true]
  cases l with
  | nil =>
    have h1 := norm_out n hn [] (by simp) 1 (1, []) (1, [])
    have h2 := norm_out n hn [] (by simp) 2 (1, []) (1, [])
    refine Eq.trans (b := both (some (normT [])) (some (normT []))) ?_ (both_same _)
    rw [List.isEmpty_nil, cond_true]
    congr 1
  | cons t l =>
    exact norm_out n hn (t :: l) hl 2 (1, []) (1, [])
theorem refn_grow {X : Type} {v : List TagL} (h : v.length ≤ 100000) (y : Option X) : (bif decide ((v.length + 1) * 32 ≤ 2 ^ 46) && decide (0 < 32 ∧ 32 ≤ 2 ^ 20) then y else none) = y := by
  rw [decide_eq_true (by omega)]; rfl
theorem ins_true (n : Nat) (X : Type) (k2 : List TagL → Int → List TagL → Bool → Nat → Option X) (l out : List TagL) (i : Int) (hl : out.length ≤ 100000) (vk0 : Nat) : ∀ (r more : List TagL) (k m : Nat), out.drop k = r → r.length < m → more.length + r.length ≤ 50000 →
    F.ref06_Normal.L8 n k2 m l out i more true (k : Int) vk0 more.length = k2 l i (more ++ r) true (more ++ r).length := by
  intro r
  induction r with
  | nil =>
    intro more k m h1 hm hs
    obtain ⟨m, rfl⟩ : ∃ p, m = p + 1 := ⟨m - 1, by omega⟩
    rw [F.ref06_Normal.L8]
    unfold F.ref06_Normal.L8.step
    dsimp only
    rw [bif_neg (by have := drop_nil' h1; omega), List.append_nil]
  | cons x r ih =>
    intro more k m h1 hm hs
    obtain ⟨m, rfl⟩ : ∃ p, m = p + 1 := ⟨m - 1, by simp at hm; omega⟩
    obtain ⟨l1, g1, t1⟩ := drop_cons h1
    simp only [List.length_cons] at hs hm
    rw [F.ref06_Normal.L8]
    unfold F.ref06_Normal.L8.step
    dsimp only
    rw [bif_pos (by omega), Bool.not_true, cond_false, idx_nat, g1, some_bind', refn_grow (by omega), Nat.beq_refl, cond_true, wrap_succ (by omega)]
    rw [ih (more ++ [x]) (k + 1) m t1 (by omega) (by simp; omega)]
    simp
theorem ins_false (n : Nat) (hn : 200000 ≤ n) (X : Type) (k2 : List TagL → Int → List TagL → Bool → Nat → Option X) (l out : List TagL) (i : Nat) (t : TagL) (hi : l[i]? = some t) (ht : TagLOK t) (ho : ∀ x ∈ out, TagLOK x) (hl : out.length ≤ 100000) (vk0 : Nat) : ∀ (r more : List TagL) (k m : Nat), out.drop k = r → r.length < m → more.length + r.length ≤ 40000 →
    ∃ p M, F.ref06_Normal.L8 n k2 m l out (i : Int) more false (k : Int) vk0 more.length = k2 l (i : Int) M p M.length ∧ (bif p then M else M ++ [t]) = more ++ insD t r ∧ M.length ≤ more.length + r.length + 1 := by
  intro r
  induction r with
  | nil =>
    intro more k m h1 hm hs
    obtain ⟨m, rfl⟩ : ∃ p, m = p + 1 := ⟨m - 1, by omega⟩
    refine ⟨false, more, ?_, rfl, by simp⟩
    rw [F.ref06_Normal.L8]
    unfold F.ref06_Normal.L8.step
    dsimp only
    rw [bif_neg (by have := drop_nil' h1; omega)]
  | cons x r ih =>
    intro more k m h1 hm hs
    obtain ⟨m, rfl⟩ : ∃ p, m = p + 1 := ⟨m - 1, by simp at hm; omega⟩
    obtain ⟨l1, g1, t1⟩ := drop_cons h1
    simp only [List.length_cons] at hs hm
    have hx : TagLOK x := ho x (List.mem_of_getElem? g1)
    rw [F.ref06_Normal.L8]
    unfold F.ref06_Normal.L8.step
    dsimp only
    rw [bif_pos (by omega), Bool.not_false, cond_true, idx_nat, idx_nat, g1, hi]
    simp only [some_bind', less_eq n x t hx ht hn]
    cases hlt : ltT x t
    · rw [Bool.not_false, cond_true, tagL_beq, wrap_succ (by omega)]
      unfold insD
      rw [hlt, if_neg (by simp)]
      by_cases e : x = t
      · rw [decide_eq_true e, Bool.not_true, cond_false, refn_grow (by omega), Nat.beq_refl, cond_true, if_pos e]
        refine ⟨true, _, ins_true n X k2 l out i hl vk0 r (more ++ [x]) (k + 1) m t1 (by omega) (by simp; omega), by simp, by simp⟩
      · rw [decide_eq_false e, Bool.not_false, cond_true, refn_grow (by omega), Nat.beq_refl, cond_true, refn_grow (by simp; omega), Nat.beq_refl, cond_true, if_neg e]
        refine ⟨true, _, ins_true n X k2 l out i hl vk0 r ((more ++ [t]) ++ [x]) (k + 1) m t1 (by omega) (by simp; omega), by simp, by simp; omega⟩
    · rw [Bool.not_true, cond_false, refn_grow (by omega), Nat.beq_refl, cond_true, wrap_succ (by omega)]
      obtain ⟨p, M, q1, q2, q3⟩ := ih (more ++ [x]) (k + 1) m t1 (by omega) (by simp; omega)
      refine ⟨p, M, q1, ?_, by simp only [List.length_append, List.length_cons, List.length_nil] at q3 ⊢; omega⟩
      rw [q2, insD, hlt, if_pos rfl]
      simp
theorem refn_loop (n : Nat) (hn : 200000 ≤ n) (X : Type) (k0 : List TagL → Nat → Option X) (l : List TagL) (hl : l.length ≤ 10000) (hok : ∀ t ∈ l, TagLOK t) : ∀ (r out : List TagL) (i m : Nat), l.drop i = r → r.length < m → out.length ≤ i → (∀ x ∈ out, x ∈ l) →
    F.ref06_Normal.L3 n k0 m l out (i : Int) out.length = k0 (r.foldl (fun o t => insD t o) out) (r.foldl (fun o t => insD t o) out).length := by
  intro r
  induction r with
  | nil =>
    intro out i m h1 hm ho hmem
    obtain ⟨m, rfl⟩ : ∃ p, m = p + 1 := ⟨m - 1, by omega⟩
    rw [F.ref06_Normal.L3]
    unfold F.ref06_Normal.L3.step
    dsimp only
    rw [bif_neg (by have := drop_nil' h1; omega)]
    rfl
  | cons t r ih =>
    intro out i m h1 hm ho hmem
    obtain ⟨m, rfl⟩ : ∃ p, m = p + 1 := ⟨m - 1, by simp at hm; omega⟩
    obtain ⟨l1, g1, t1⟩ := drop_cons h1
    have ht : t ∈ l := List.mem_of_getElem? g1
    rw [F.ref06_Normal.L3]
    unfold F.ref06_Normal.L3.step
    dsimp only
    rw [bif_pos (by omega)]
    obtain ⟨p, M, q1, q2, q3⟩ := ins_false n (by omega) X _ l out i t g1 (hok t ht) (fun x hx => hok x (hmem x hx)) (by omega) out.length out [] 0 n rfl (by omega) (by simp; omega)
    refine q1.trans ?_
    simp only [List.length_nil, Nat.zero_add, List.nil_append] at q2 q3
    have hwi : IntKind.wrap .i64 ((i : Int) + 1) = ((i + 1 : Nat) : Int) := wrap_succ (by omega)
    have hin : ∀ x ∈ insD t out, x ∈ l := fun x hx => by
      rcases (insD_mem t out x).1 hx with rfl | h
      · exact ht
      · exact hmem x h
    rw [List.foldl_cons, hwi]
    cases p
    · rw [Bool.not_false, cond_true, idx_nat, g1, some_bind', refn_grow (by omega), Nat.beq_refl, cond_true]
      have q2 : M ++ [t] = insD t out := q2
      have e : M ++ [(t.1, t.2)] = insD t out := q2
      rw [e]
      exact ih (insD t out) (i + 1) m t1 (by simp at hm; omega) (by have := insD_len t out; omega) hin
    · rw [Bool.not_true, cond_false]
      have q2 : M = insD t out := q2
      rw [q2]
      exact ih (insD t out) (i + 1) m t1 (by simp at hm; omega) (by have := insD_len t out; omega) hin
theorem refNormal_eq (n : Nat) (hn : 200000 ≤ n) (l : List TagL) (hl : l.length ≤ 10000) (hok : ∀ t ∈ l, TagLOK t) : F.ref06_Normal n l = some (normT l) := by
  unfold F.ref06_Normal
  exact refn_loop n hn _ _ l hl hok l [] 0 n rfl (by omega) (by simp) (fun x hx => by cases hx)
end Go.AM
set_option linter.unusedVariables false
set_option linter.unusedSimpArgs false
namespace Go.AM
theorem valR_cases {d : List UInt8} (hD : Digs d) (neg : Bool) (E : Int) : ((valR neg d E).2.1 = 10 ∧ (valR neg d E).1 = (false, 0, 0, ())) ∨
    (∃ (neg' : Bool) (c : Nat) (e : Int), valR neg d E = ((neg', (c : Int), e, ()), 0, ()) ∧ c < two64 ∧ (-9223372036854775808 ≤ e ∧ e ≤ 9223372036854775807) ∧ checkR neg' c e = 0) := by
  by_cases hv : val d = 0
  · refine Or.inr ⟨false, 0, 0, ?_, by decide, by omega, ?_⟩
    · have : valR neg d E = zeroD := by unfold valR; rw [if_pos hv]
      rw [this]; rfl
    · have d0 : Lib.decDigits 0 = [48] := dd_small (by omega)
      unfold checkR
      rw [d0]; rfl
  · obtain ⟨c0, z, h1, h2⟩ := ten_split (val d) (by omega)
    rw [valR_core hD h2 h1]
    generalize E + (z : Int) = Y
    by_cases hY : Y < -18
    · refine Or.inl ?_
      have : normR neg c0 Y = ((false, 0, 0, ()), 10, ()) := by unfold normR; rw [if_pos hY]
      rw [this]
      exact ⟨rfl, rfl⟩
    · by_cases hf : c0 * 10 ^ (Y - 18).toNat < two64
      · have e1 : normR neg c0 Y = ((neg, ((c0 * 10 ^ (Y - 18).toNat : Nat) : Int), (if Y ≤ 18 then Y else 18), ()), 0, ()) := by unfold normR; rw [if_neg hY, if_pos hf]
        rw [e1]
        have hE : -18 ≤ (if Y ≤ 18 then Y else 18) ∧ (if Y ≤ 18 then Y else 18) ≤ 18 := by split <;> omega
        refine Or.inr ⟨neg, c0 * 10 ^ (Y - 18).toNat, (if Y ≤ 18 then Y else 18), rfl, hf, by omega, ?_⟩
        unfold checkR
        rw [if_neg (by omega), valR_core (dd_digs _) h2 (dd_val _)]
        have e2 : (if Y ≤ 18 then Y else 18) + (((Y - 18).toNat : Nat) : Int) = Y := by split <;> omega
        rw [e2, e1, if_pos ⟨rfl, rfl⟩]
      · refine Or.inl ?_
        have : normR neg c0 Y = ((false, 0, 0, ()), 10, ()) := by unfold normR; rw [if_neg hY, if_neg hf]
        rw [this]
        exact ⟨rfl, rfl⟩
def decV (d : DecL) : DecR := valR d.1 (Lib.decDigits d.2.1.toNat) d.2.2
def valOK (d : DecL) : Bool := (decV d).2.1 == 0
def refV (d : DecL) : DecL := ((decV d).1.1, (decV d).1.2.1, (decV d).1.2.2.1)
def normV (d : DecL) : DecL := if valOK d then refV d else d
theorem decV_eq (n : Nat) (hn : 100 ≤ n) {d : DecL} (h : DecLOK d) : F.dec_Normal n (d.1, d.2.1, d.2.2, ()) = some (decV d) := by
  obtain ⟨neg, c, e, rfl, hc, he⟩ := decL_nat h
  exact normal_eq n hn neg c hc e he
theorem decV_ref (n : Nat) (hn : 200000 ≤ n) {d : DecL} (h : DecLOK d) : F.ref03_Normal n (d.1, d.2.1, d.2.2, ()) = some (decV d) := by
  obtain ⟨neg, c, e, rfl, hc, he⟩ := decL_nat h
  unfold F.ref03_Normal decV
  have hl := dd_len64 hc
  simp only [digits03 n (by omega) c hc, make_eq n hn neg _ (dd_digs c) (by omega) e, some_bind', Int.toNat_natCast]
  rcases valR_code neg (Lib.decDigits c) e with h | ⟨h1, h2⟩
  · rw [h]
    generalize valR neg (Lib.decDigits c) e = r at h ⊢
    obtain ⟨r1, r2, _⟩ := r
    simp only at h
    subst h
    rfl
  · rw [h1]
    generalize valR neg (Lib.decDigits c) e = r at h1 h2 ⊢
    obtain ⟨r1, r2, _⟩ := r
    simp only at h1 h2
    subst h1 h2
    rfl
theorem normV_pos {d : DecL} (h : valOK d = true) : normV d = refV d ∧ decC (normV d) = 0 ∧ DecLOK (normV d) := by
  have e : normV d = refV d := by unfold normV; rw [if_pos h]
  refine ⟨e, ?_⟩
  rw [e]
  unfold refV
  unfold valOK at h
  rcases valR_cases (dd_digs d.2.1.toNat) d.1 d.2.2 with ⟨h1, _⟩ | ⟨neg, c, e, h1, h2, h3, h4⟩
  · exfalso
    have h1 : (decV d).2.1 = 10 := h1
    rw [h1] at h; cases h
  · have h1 : decV d = ((neg, (c : Int), e, ()), 0, ()) := h1
    rw [h1]
    refine ⟨h4, trivial, ⟨by simp, ?_⟩, h3⟩
    have := two64_eq; simp only; omega
theorem normV_neg {d : DecL} (hd : DecLOK d) (h : valOK d = false) : normV d = d ∧ decC d ≠ 0 := by
  refine ⟨by unfold normV; rw [if_neg (by rw [h]; simp)], fun h0 => ?_⟩
  obtain ⟨neg, c, e, rfl, hc, he⟩ := decL_nat hd
  have hh : decV (neg, (c : Int), e) = ((neg, (c : Int), e, ()), 0, ()) := (check_zero h0).1
  unfold valOK at h
  rw [hh] at h
  cases h
theorem normV_id {d : DecL} (hd : DecLOK d) (h0 : decC d = 0) : valOK d = true ∧ normV d = d := by
  obtain ⟨neg, c, e, rfl, hc, he⟩ := decL_nat hd
  have hv := (check_zero h0).1
  have h1 : decV (neg, (c : Int), e) = ((neg, (c : Int), e, ()), 0, ()) := hv
  have h2 : valOK (neg, (c : Int), e) = true := by unfold valOK; rw [h1]; rfl
  refine ⟨h2, ?_⟩
  unfold normV refV
  rw [if_pos h2, h1]
theorem normV_ok {d : DecL} (hd : DecLOK d) : DecLOK (normV d) := by
  cases h : valOK d
  · rw [(normV_neg hd h).1]; exact hd
  · exact (normV_pos h).2.2
theorem normV_all {vs : List DecL} (h : ∀ d ∈ vs, DecLOK d) : ((vs.map normV).all fun d => decC d == 0) = vs.all valOK := by
  induction vs with
  | nil => rfl
  | cons d vs ih =>
    rw [List.map_cons, List.all_cons, List.all_cons, ih (fun x hx => h x (List.mem_cons_of_mem _ hx))]
    congr 1
    cases hv : valOK d
    · obtain ⟨h1, h2⟩ := normV_neg (h d (by simp)) hv
      rw [h1]; exact beq_eq_false_iff_ne.2 h2
    · rw [(normV_pos hv).2.1]; rfl
def zeroM : MetD := ([], (0 : Int), [], (0 : Int), [], (0 : Int), ())
def valsM (m : MetD) : MetD := (m.1, m.2.1, m.2.2.1.map normV, m.2.2.2.1, m.2.2.2.2.1, m.2.2.2.2.2.1, ())
def formM (m : MetD) : MetD := (m.1, m.2.1, m.2.2.1.map normV, m.2.2.2.1, normT m.2.2.2.2.1, m.2.2.2.2.2.1, ())
def normM (m : MetD) : MetD × Int × Unit := if chkM (valsM m) = 0 then (formM m, 0, ()) else (zeroM, chkM (valsM m), ())
theorem valsM_ok {m : MetD} (hm : MetOK m) : MetOK (valsM m) := by
  refine ⟨hm.1, ⟨by rw [valsM]; simpa using hm.2.1.1, fun d hd => ?_⟩, hm.2.2⟩
  obtain ⟨x, hx, rfl⟩ := List.mem_map.1 hd
  exact normV_ok (hm.2.1.2 x hx)
theorem chk_vals (m : MetD) (h : ∀ d ∈ m.2.2.1, DecLOK d) : chkM (valsM m) = restM m (m.2.2.1.all valOK) := by
  rw [chk_rest, ← normV_all h]
  unfold restM valsM
  simp only [List.length_map]
theorem upd_at {α : Type} (p r : List α) (x y : α) : upd (p ++ x :: r) p.length y = p ++ y :: r := by
  rw [upd_set, List.set_append_right _ _ (Nat.le_refl _), Nat.sub_self]; rfl
theorem metn_loop (n : Nat) (hn : 200000 ≤ n) (X : Type) (k0 : (Nat × Nat) → List UInt8 → Int → List DecL → Int → List TagL → Int → List UInt8 → Int → List DecL → Int → List TagL → Int → (Nat × List DecL) → (Nat × List DecL) → Nat → Nat → Option X)
    (b00 : List UInt8) (b01 : Int) (b02 : List DecL) (b03 : Int) (b04 : List TagL) (b05 : Int) (b10 : List UInt8) (b11 : Int) (b12 : List DecL) (b13 : Int) (b14 : List TagL) (b15 : Int) (b2 : Nat × List DecL) (k1 k2 : Nat) (v N : Nat) (hN : N ≤ 10000) :
    ∀ (r p : List DecL) (i m : Nat), i + r.length = N → p.length = i → r.length < m → (∀ d ∈ r, DecLOK d) →
    F.metric_Normal.L3 n k0 m (v, N) (v, N) (N : Int) (i : Int) b00 b01 b02 b03 b04 b05 b10 b11 b12 b13 b14 b15 b2 (v, p ++ r) k1 k2 = k0 (v, N) b00 b01 b02 b03 b04 b05 b10 b11 b12 b13 b14 b15 b2 (v, p ++ r.map normV) k1 k2 := by
  intro r
  induction r with
  | nil =>
    intro p i m h1 h2 hm hok
    obtain ⟨m, rfl⟩ : ∃ q, m = q + 1 := ⟨m - 1, by omega⟩
    rw [F.metric_Normal.L3]
    unfold F.metric_Normal.L3.step
    dsimp only
    rw [bif_neg (by simp at h1; omega)]
    rfl
  | cons x r ih =>
    intro p i m h1 h2 hm hok
    obtain ⟨m, rfl⟩ : ∃ q, m = q + 1 := ⟨m - 1, by simp at hm; omega⟩
    simp only [List.length_cons] at h1 hm
    have hx := hok x (by simp)
    have hp : (p ++ x :: r)[i]? = some x := by rw [← h2]; simp
    have hb1 : (decide ((0 : Int) ≤ (i : Int)) && decide ((i : Int) < (N : Int))) = true := by simp; omega
    rw [F.metric_Normal.L3]
    unfold F.metric_Normal.L3.step
    dsimp only
    rw [bif_pos (by omega : (i : Int) < (N : Int)), hb1, Nat.beq_refl, cond_true, cond_true, idx_nat, hp, some_bind', decV_eq n (by omega) hx, some_bind', wrap_succ (by omega)]
    have step : ∀ y, y = normV x → F.metric_Normal.L3 n k0 m (v, N) (v, N) (N : Int) ((i + 1 : Nat) : Int) b00 b01 b02 b03 b04 b05 b10 b11 b12 b13 b14 b15 b2 (v, p ++ y :: r) k1 k2 = k0 (v, N) b00 b01 b02 b03 b04 b05 b10 b11 b12 b13 b14 b15 b2 (v, p ++ (x :: r).map normV) k1 k2 := by
      intro y hy
      have := ih (p ++ [y]) (i + 1) m (by omega) (by simp; omega) (by omega) (fun d hd => hok d (List.mem_cons_of_mem _ hd))
      rw [List.append_assoc, List.append_assoc, List.singleton_append, List.singleton_append] at this
      rw [this, hy, List.map_cons]
    cases hv : valOK x
    · have hv' : ((decV x).2.1 == 0) = false := hv
      rw [hv', cond_false]
      exact step x (normV_neg hx hv).1.symm
    · have hv' : ((decV x).2.1 == 0) = true := hv
      rw [hv', cond_true, cond_true, cond_true, some_bind', Int.toNat_natCast, ← h2, upd_at, h2]
      exact step _ (normV_pos hv).1.symm
theorem metn_out (n : Nat) (hn : 200000 ≤ n) (m : MetD) (hm : MetOK m) (v : Nat) (b10 : List UInt8) (b11 : Int) (b12 : List DecL) (b13 : Int) (b14 : List TagL) (b15 : Int) (b2 : Nat × List DecL) (k1 k2 : Nat) :
    F.metric_Normal.L3 n
          (fun e4_4 e4_b0_0 e4_b0_1 e4_b0_2 e4_b0_3 e4_b0_4 e4_b0_5 e4_b1_0 e4_b1_1 e4_b1_2 e4_b1_3 e4_b1_4 e4_b1_5 e4_b2_0 e4_b3_0 e4_k0 e4_k1 =>
            bif Nat.beq e4_4.1 e4_b3_0.1 then
              (F.metric_Check n (e4_b0_0, e4_b0_1, e4_b3_0.2, e4_b0_3, e4_b0_4, e4_b0_5, ())).bind fun y5 =>
                bif !(y5 == (0 : Int)) then
                  some ((([], (0 : Int), [], (0 : Int), [], (0 : Int), ()), y5, ()))
                else
                  (F.tag_Normal n e4_b0_4).bind fun y6 =>
                    some (((e4_b0_0, e4_b0_1, e4_b3_0.2, e4_b0_3, y6, e4_b0_5, ()), (0 : Int), ()))
            else
              none) n (v, m.2.2.1.length) (v, m.2.2.1.length) (m.2.2.1.length : Int) (0 : Int) m.1 m.2.1 m.2.2.1 m.2.2.2.1 m.2.2.2.2.1 m.2.2.2.2.2.1 b10 b11 b12 b13 b14 b15 b2 (v, m.2.2.1) k1 k2 = some (normM m) := by
  refine (metn_loop n hn _ _ m.1 m.2.1 m.2.2.1 m.2.2.2.1 m.2.2.2.2.1 m.2.2.2.2.2.1 b10 b11 b12 b13 b14 b15 b2 k1 k2 v m.2.2.1.length (by have := hm.2.1.1; omega) m.2.2.1 [] 0 n (by omega) rfl (by have := hm.2.1.1; omega) hm.2.1.2).trans ?_
  dsimp only
  rw [Nat.beq_refl, cond_true]
  have hc : F.metric_Check n (m.1, m.2.1, [] ++ m.2.2.1.map normV, m.2.2.2.1, m.2.2.2.2.1, m.2.2.2.2.2.1, ()) = some (chkM (valsM m)) := metcheck_eq n hn (valsM m) (valsM_ok hm)
  rw [hc, some_bind']
  unfold normM
  by_cases h : chkM (valsM m) = 0
  · rw [if_pos h, h, tagNormal_eq n hn _ (by have := hm.2.2.1; omega)]
    rfl
  · rw [if_neg h, beq_eq_false_iff_ne.2 h]
    rfl
theorem metNormal_eq (n : Nat) (hn : 200000 ≤ n) (m : MetD) (hm : MetOK m) : F.metric_Normal n m = some (normM m) := by
  have hl := hm.2.1.1
  have e1 : (decide ((0 + m.2.2.1.length) * 24 ≤ 2 ^ 46) && decide (0 < 24 ∧ 24 ≤ 2 ^ 20)) = true := by
    rw [decide_eq_true (by omega)]; rfl
  unfold F.metric_Normal
  rw [e1, cond_true]
  have h2 := metn_out n hn m hm 2 [] 0 [] 0 [] 0 (1, []) 0 0
  cases hv : m.2.2.1 with
  | nil =>
    have h1 := metn_out n hn m hm 1 [] 0 [] 0 [] 0 (1, []) 0 0
    rw [hv] at h1 h2
    refine Eq.trans (b := both (some (normM m)) (some (normM m))) ?_ (both_same _)
    rw [List.isEmpty_nil, cond_true]
    exact congr (congrArg both h1) h2
  | cons d vs =>
    rw [hv] at h2
    exact h2
theorem refn_growD {X : Type} {v : List DecL} (h : v.length ≤ 100000) (y : Option X) : (bif decide ((v.length + 1) * 24 ≤ 2 ^ 46) && decide (0 < 24 ∧ 24 ≤ 2 ^ 20) then y else none) = y := by
  rw [decide_eq_true (by omega)]; rfl
theorem refm_loop (n : Nat) (hn : 200000 ≤ n) (X : Type) (k0 : Bool → List DecL → List UInt8 → Int → List DecL → Int → List TagL → Int → List UInt8 → Int → List DecL → Int → List TagL → Int → Nat → Nat → Nat → Option X)
    (b00 : List UInt8) (b01 : Int) (b02 : List DecL) (hl : b02.length ≤ 10000) (b03 : Int) (b04 : List TagL) (b05 : Int) (b10 : List UInt8) (b11 : Int) (b12 : List DecL) (b13 : Int) (b14 : List TagL) (b15 : Int) (k1 k2 : Nat) :
    ∀ (r : List DecL) (ok : Bool) (acc : List DecL) (i m : Nat), b02.drop i = r → acc.length = i → i ≤ b02.length → r.length < m → (∀ d ∈ r, DecLOK d) →
    F.ref07_Normal.L4 n k0 m ok acc (i : Int) b00 b01 b02 b03 b04 b05 b10 b11 b12 b13 b14 b15 acc.length k1 k2 = k0 (ok && r.all valOK) (acc ++ r.map refV) b00 b01 b02 b03 b04 b05 b10 b11 b12 b13 b14 b15 (acc ++ r.map refV).length k1 k2 := by
  intro r
  induction r with
  | nil =>
    intro ok acc i m h1 h2 hi hm hok
    obtain ⟨m, rfl⟩ : ∃ q, m = q + 1 := ⟨m - 1, by omega⟩
    rw [F.ref07_Normal.L4]
    unfold F.ref07_Normal.L4.step
    dsimp only
    rw [bif_neg (by have := drop_nil' h1; omega)]
    simp
  | cons x r ih =>
    intro ok acc i m h1 h2 hi hm hok
    obtain ⟨m, rfl⟩ : ∃ q, m = q + 1 := ⟨m - 1, by simp at hm; omega⟩
    obtain ⟨l1, g1, t1⟩ := drop_cons h1
    simp only [List.length_cons] at hm
    have hx := hok x (by simp)
    have hih := fun ok' => ih ok' (acc ++ [refV x]) (i + 1) m t1 (by simp; omega) (by omega) (by omega) (fun d hd => hok d (List.mem_cons_of_mem _ hd))
    rw [F.ref07_Normal.L4]
    unfold F.ref07_Normal.L4.step
    dsimp only
    rw [bif_pos (by omega), idx_nat, g1, some_bind', decV_ref n hn hx, some_bind', wrap_succ (by omega), List.all_cons, List.map_cons, Nat.beq_refl]
    rw [refn_growD (by omega), refn_growD (by omega), cond_true, cond_true]
    have e : ∀ k : List DecL, acc ++ [refV x] ++ k = acc ++ refV x :: k := fun k => by simp
    cases ok
    · rw [cond_false]
      have := hih false
      rw [e] at this
      refine this.trans ?_
      rw [Bool.false_and, Bool.false_and]
    · rw [cond_true]
      have := hih (valOK x)
      rw [e] at this
      refine this.trans ?_
      rw [Bool.true_and]
theorem metNormal_ref (n : Nat) (hn : 200000 ≤ n) (m : MetD) (hm : MetOK m) : F.ref07_Normal n m = some (normM m) := by
  unfold F.ref07_Normal
  refine (refm_loop n hn _ _ m.1 m.2.1 m.2.2.1 (by have := hm.2.1.1; omega) m.2.2.2.1 m.2.2.2.2.1 m.2.2.2.2.2.1 [] 0 [] 0 [] 0 0 0 m.2.2.1 true [] 0 n rfl rfl (by omega) (by have := hm.2.1.1; omega) hm.2.1.2).trans ?_
  rw [Bool.true_and, List.nil_append]
  have hc : F.ref07_Rest n (m.1, m.2.1, m.2.2.1, m.2.2.2.1, m.2.2.2.2.1, m.2.2.2.2.2.1, ()) (m.2.2.1.all valOK) = some (restM m (m.2.2.1.all valOK)) := rest_ref n hn m hm.1 hm.2.2.1 hm.2.2.2 _
  rw [hc, some_bind']
  unfold normM
  rw [chk_vals m hm.2.1.2]
  by_cases h : restM m (m.2.2.1.all valOK) = 0
  · rw [if_pos h, h, refNormal_eq n hn _ (by have := hm.2.2.1; omega) hm.2.2.2, some_bind']
    have ha : m.2.2.1.all valOK = true := by
      rw [← chk_vals m hm.2.1.2] at h
      have := (chk_zero h).2.2.1
      unfold valsB valsM at this
      simp only [Bool.and_eq_true] at this
      rw [← normV_all hm.2.1.2]
      exact this.2.2
    have he : m.2.2.1.map refV = m.2.2.1.map normV := by
      apply List.map_congr_left
      intro d hd
      exact (normV_pos (List.all_eq_true.1 ha d hd)).1.symm
    rw [he]
    rfl
  · rw [if_neg h, beq_eq_false_iff_ne.2 h]
    rfl
end Go.AM
set_option linter.unusedVariables false
set_option linter.unusedSimpArgs false
namespace Go.AM
def TagS (t : TagL) : Prop := t.1.length ≤ 1000 ∧ t.2.length ≤ 1000
theorem textF_zero {c : Int} {s : List UInt8} {lo hi : Int} (h : (textF c s lo hi).1 = 0) : lo ≤ (s.length : Int) ∧ (s.length : Int) ≤ hi ∧ s.all (cls c) = true := by
  unfold textF at h
  split at h
  · cases h
  · split at h
    · cases h
    · split at h
      · cases h
      · split at h
        · cases h
        · rename_i h1 h2 h3 h4
          exact ⟨by omega, by omega, Classical.byContradiction fun hh => h4 ((badK_ge _ _ _).2 hh)⟩
theorem tagGood_le {t : TagL} (h : tagGood t = true) : TagS t := by
  unfold tagGood at h
  simp only [Bool.and_eq_true, beq_iff_eq] at h
  have h1 := textF_zero h.1
  have h2 := textF_zero h.2
  exact ⟨by omega, by omega⟩
theorem growS {X : Type} {a b : Nat} (h : a + b ≤ 1000000) (y : Option X) : (bif decide (a + b ≤ strMax) then y else none) = y := by
  rw [decide_eq_true (by rw [strMax_eq]; omega)]; rfl
theorem growB {X : Type} {a b : Nat} (h : a + b ≤ 1000000) (y : Option X) : (bif decide ((a + b) * 1 ≤ 2 ^ 46) && decide (0 < 1 ∧ 1 ≤ 2 ^ 20) then y else none) = y := by
  rw [decide_eq_true (by omega)]; rfl
theorem growL {X : Type} {a : Nat} (h : a ≤ 1000000) (y : Option X) : (bif decide ((a + 1) * 16 ≤ 2 ^ 46) && decide (0 < 16 ∧ 16 ≤ 2 ^ 20) then y else none) = y := by
  rw [decide_eq_true (by omega)]; rfl
def wordT (k : Int) : List UInt8 := if k = 1 then [99] else if k = 2 then [103] else if k = 3 then [109, 115] else if k = 4 then [104] else if k = 5 then [100] else []
theorem kind_five {k : Int} (h : kindB k = true) : k = 1 ∨ k = 2 ∨ k = 3 ∨ k = 4 ∨ k = 5 := by
  unfold kindB at h
  simp only [Bool.and_eq_true, decide_eq_true_eq] at h
  omega
theorem word_eq (n : Nat) (k : Int) : F.dog_Word n k = some (if kindB k then (wordT k, 0, ()) else ([], 16, ())) := by
  unfold F.dog_Word
  by_cases h1 : k < 1
  · have : kindB k = false := by unfold kindB; rw [decide_eq_false (by omega)]; rfl
    rw [bif_pos h1, this]; rfl
  · rw [bif_neg h1]
    by_cases h2 : k > 5
    · have : kindB k = false := by unfold kindB; rw [decide_eq_false (by omega : ¬ k ≤ 5), Bool.and_false]
      rw [bif_pos h2, this]; rfl
    · have hk : k = 1 ∨ k = 2 ∨ k = 3 ∨ k = 4 ∨ k = 5 := by omega
      rw [bif_neg h2]
      rcases hk with rfl | rfl | rfl | rfl | rfl <;> rfl
theorem word_short (k : Int) : (wordT k).length ≤ 2 := by
  unfold wordT; repeat' split
  all_goals decide
def textL (d : DecL) : List UInt8 := textD d.1 d.2.1.toNat d.2.2
def valsT (vs : List DecL) : List UInt8 := (vs.map fun d => 58 :: textL d).flatten
def oneT (t : TagL) : List UInt8 := if t.2 = [] then t.1 else t.1 ++ ([58] ++ t.2)
def tagText (ts : List TagL) : List UInt8 := Lib.join (ts.map oneT) [44]
def rateP (r : Int) : List UInt8 := if r = 1000000 then [] else [124, 64] ++ (rateText r).1
def tagsP (ts : List TagL) : List UInt8 := if ts = [] then [] else [124, 35] ++ tagText ts
def timeP (t : Int) : List UInt8 := if t = 0 then [] else [124, 84] ++ Lib.decDigits t.toNat
def lineD (m : MetD) : List UInt8 := m.1 ++ valsT m.2.2.1 ++ ([124] ++ wordT m.2.1) ++ rateP m.2.2.2.1 ++ tagsP m.2.2.2.2.1 ++ timeP m.2.2.2.2.2.1
theorem valsT_le {vs : List DecL} (h : ∀ d ∈ vs, DecLOK d ∧ decC d = 0) : (valsT vs).length ≤ 40 * vs.length := by
  induction vs with
  | nil => simp [valsT]
  | cons d vs ih =>
    have := textD_le (h d (by simp)).1 (h d (by simp)).2
    have h2 := ih (fun x hx => h x (List.mem_cons_of_mem _ hx))
    have e : (valsT (d :: vs)).length = (textL d).length + 1 + (valsT vs).length := by simp [valsT]; omega
    have e2 : (textL d).length ≤ 39 := this
    simp only [List.length_cons]
    omega
theorem oneT_le {t : TagL} (h : TagS t) : (oneT t).length ≤ 2001 := by
  unfold oneT
  have := h.1; have := h.2
  split <;> simp <;> omega
theorem join_le (sep : List UInt8) (b : Nat) : ∀ l : List (List UInt8), (∀ x ∈ l, x.length ≤ b) → (Lib.join l sep).length ≤ l.length * (b + sep.length) := by
  intro l h
  cases l with
  | nil => simp [Lib.join]
  | cons x l =>
    rw [Lib.join_cons]
    have : ∀ l : List (List UInt8), (∀ x ∈ l, x.length ≤ b) → (Lib.joinTail sep l).length ≤ l.length * (b + sep.length) := by
      intro l
      induction l with
      | nil => intro _; simp [Lib.joinTail]
      | cons y l ih =>
        intro h
        have h1 := ih (fun x hx => h x (List.mem_cons_of_mem _ hx))
        have h2 := h y (by simp)
        have : Lib.joinTail sep (y :: l) = sep ++ y ++ Lib.joinTail sep l := by simp [Lib.joinTail]
        rw [this, List.length_append, List.length_append, List.length_cons, Nat.add_mul]
        omega
    have h1 := this l (fun x hx => h x (List.mem_cons_of_mem _ hx))
    have h2 := h x (by simp)
    rw [List.length_append, List.length_cons, Nat.add_mul]
    omega
theorem tagText_le {ts : List TagL} (h : ∀ t ∈ ts, TagS t) (hl : ts.length ≤ 32) : (tagText ts).length ≤ 70000 := by
  unfold tagText
  have := join_le [44] 2001 (ts.map oneT) (fun x hx => by
    obtain ⟨t, ht, rfl⟩ := List.mem_map.1 hx
    exact oneT_le (h t ht))
  rw [List.length_map] at this
  have h2 : ts.length * (2001 + [(44 : UInt8)].length) ≤ 32 * 2002 := Nat.mul_le_mul_right _ hl
  omega
theorem tagText_loop (n : Nat) (hn : 200000 ≤ n) (X : Type) (k0 : List (List UInt8) → Nat → Option X) (kr : List UInt8 → Int → Int → Option X) (ts : List TagL) (hl : ts.length ≤ 1000) (hok : ∀ t ∈ ts, TagS t ∧ tagGood t = true) : ∀ (r : List TagL) (acc : List (List UInt8)) (i m : Nat), ts.drop i = r → acc.length ≤ i → i ≤ ts.length → r.length < m →
    F.tag_Text.L3 n k0 kr m acc ts (ts.length : Int) (i : Int) acc.length = k0 (acc ++ r.map oneT) (acc ++ r.map oneT).length := by
  intro r
  induction r with
  | nil =>
    intro acc i m h1 h2 hi hm
    obtain ⟨m, rfl⟩ : ∃ q, m = q + 1 := ⟨m - 1, by omega⟩
    rw [F.tag_Text.L3]
    unfold F.tag_Text.L3.step
    dsimp only
    rw [bif_neg (by have := drop_nil' h1; omega)]
    simp
  | cons t r ih =>
    intro acc i m h1 h2 hi hm
    obtain ⟨m, rfl⟩ : ∃ q, m = q + 1 := ⟨m - 1, by simp at hm; omega⟩
    obtain ⟨l1, g1, t1⟩ := drop_cons h1
    simp only [List.length_cons] at hm
    obtain ⟨ht, hg⟩ := hok t (List.mem_of_getElem? g1)
    have a1 := ht.1
    have a2 := ht.2
    have hih := ih (acc ++ [oneT t]) (i + 1) m t1 (by simp; omega) (by omega) (by omega)
    have e : acc ++ [oneT t] ++ r.map oneT = acc ++ (t :: r).map oneT := by simp
    rw [e] at hih
    rw [F.tag_Text.L3]
    unfold F.tag_Text.L3.step
    dsimp only
    rw [bif_pos (by omega), idx_nat, g1, some_bind', tag_chk n hn ⟨by omega, by omega⟩, some_bind', hg, cond_true]
    rw [wrap_succ (by omega), Nat.beq_refl, growL (by omega), growL (by omega)]
    simp only [beq_self_eq_true, Bool.not_true, cond_false, cond_true]
    by_cases h0 : t.2 = []
    · rw [h0, beq_self_eq_true, Bool.not_true, cond_false]
      have e1 : oneT t = t.1 := by unfold oneT; rw [if_pos h0]
      rw [e1] at hih
      exact hih
    · rw [beq_eq_false_iff_ne.2 h0, Bool.not_false, cond_true, growS (by omega), growS (by simp only [List.length_append, List.length_cons, List.length_nil]; omega)]
      have e1 : oneT t = t.1 ++ ([58] ++ t.2) := by unfold oneT; rw [if_neg h0]
      rw [e1] at hih
      exact hih
theorem tagText_eq (n : Nat) (hn : 200000 ≤ n) (ts : List TagL) (hl : ts.length ≤ 32) (hok : ∀ t ∈ ts, TagS t ∧ tagGood t = true) : F.tag_Text n ts = some (tagText ts, 0, 0, ()) := by
  unfold F.tag_Text
  refine (tagText_loop n hn _ _ _ ts (by omega) hok ts [] 0 n rfl (by simp) (by omega) (by omega)).trans ?_
  have e1 : O.join n (ts.map oneT) [44] = some (tagText ts) := by
    unfold O.join
    have h2 := tagText_le (fun t ht => (hok t ht).1) hl
    unfold tagText at h2
    have : (Nat.ble (ts.map oneT).length big47 && Nat.ble (Lib.join (ts.map oneT) [44]).length big47) = true := by
      simp only [Bool.and_eq_true, nble, big47, List.length_map]
      omega
    rw [this, cond_true]; rfl
  show (O.join n (ts.map oneT) [44]).bind _ = _
  rw [e1]; rfl
theorem one_ref (n : Nat) {t : TagL} (h : TagS t) : F.ref06_One n (t.1, t.2, ()) = some (oneT t) := by
  unfold F.ref06_One oneT
  have a1 := h.1
  have a2 := h.2
  dsimp only
  by_cases h0 : t.2 = []
  · rw [h0, beq_self_eq_true, cond_true, if_pos rfl]
  · rw [beq_eq_false_iff_ne.2 h0, cond_false, growS (by omega), growS (by simp only [List.length_append, List.length_cons, List.length_nil]; omega), if_neg h0]
    simp
theorem refText_loop (n : Nat) (X : Type) (k0 : List UInt8 → Option X) (ts : List TagL) (hl : ts.length ≤ 32) (hok : ∀ t ∈ ts, TagS t) : ∀ (r : List TagL) (acc : List UInt8) (i m : Nat), ts.drop i = r → 0 < i → acc.length ≤ i * 3000 → i ≤ ts.length → r.length < m →
    F.ref06_Text.L3 n k0 m ts acc (i : Int) = k0 (acc ++ Lib.joinTail [44] (r.map oneT)) := by
  intro r
  induction r with
  | nil =>
    intro acc i m h1 h0 h2 hi hm
    obtain ⟨m, rfl⟩ : ∃ q, m = q + 1 := ⟨m - 1, by omega⟩
    rw [F.ref06_Text.L3]
    unfold F.ref06_Text.L3.step
    dsimp only
    rw [bif_neg (by have := drop_nil' h1; omega)]
    simp [Lib.joinTail]
  | cons t r ih =>
    intro acc i m h1 h0 h2 hi hm
    obtain ⟨m, rfl⟩ : ∃ q, m = q + 1 := ⟨m - 1, by simp at hm; omega⟩
    obtain ⟨l1, g1, t1⟩ := drop_cons h1
    simp only [List.length_cons] at hm
    have ht := hok t (List.mem_of_getElem? g1)
    have hlen := oneT_le ht
    rw [F.ref06_Text.L3]
    unfold F.ref06_Text.L3.step
    dsimp only
    rw [bif_pos (by omega), bif_pos (by omega), growS (by omega), idx_nat, g1, some_bind', one_ref n ht, some_bind', growS (by simp only [List.length_append, List.length_cons, List.length_nil]; omega), wrap_succ (by omega)]
    rw [ih (acc ++ [44] ++ oneT t) (i + 1) m t1 (by omega) (by simp only [List.length_append, List.length_cons, List.length_nil]; omega) (by omega) (by omega)]
    simp [Lib.joinTail]
theorem refText_eq (n : Nat) (hn : 200000 ≤ n) (ts : List TagL) (hl : ts.length ≤ 32) (hok : ∀ t ∈ ts, TagS t) : F.ref06_Text n ts = some (tagText ts) := by
  unfold F.ref06_Text
  cases ts with
  | nil =>
    obtain ⟨m, rfl⟩ : ∃ q, n = q + 1 := ⟨n - 1, by omega⟩
    rfl
  | cons t r =>
    obtain ⟨m, hm⟩ : ∃ q, n = q + 1 := ⟨n - 1, by omega⟩
    have ht := hok t (by simp)
    have hlen := oneT_le ht
    have h1 : ∀ k0 : List UInt8 → Option (List UInt8), F.ref06_Text.L3 n k0 (m + 1) (t :: r) [] (0 : Int) = k0 (tagText (t :: r)) := by
      intro k0
      rw [F.ref06_Text.L3]
      unfold F.ref06_Text.L3.step
      dsimp only
      rw [bif_pos (by simp), bif_neg (by omega), show (0 : Int) = ((0 : Nat) : Int) from rfl, idx_nat, List.getElem?_cons_zero, some_bind', one_ref n ht, some_bind', growS (by simp only [List.length_nil]; omega), wrap_succ (by omega)]
      rw [refText_loop n _ k0 (t :: r) hl hok r ([] ++ oneT t) 1 m rfl (by omega) (by simp only [List.length_append, List.length_nil]; omega) (by simp) (by simp at hl; omega)]
      unfold tagText
      rw [List.map_cons, Lib.join_cons, List.nil_append]
    rw [hm] at h1 ⊢
    exact h1 _
end Go.AM
set_option linter.unusedVariables false
set_option linter.unusedSimpArgs false
namespace Go.AM
theorem rateP_le {k r : Int} (h : rateB k r = true) : (rateP r).length ≤ 20 ∧ (rateText r).2.1 = 0 ∧ 1 ≤ r ∧ r ≤ 1000000 := by
  have hr : 1 ≤ r ∧ r ≤ 1000000 := by
    unfold rateB at h
    simp only [Bool.and_eq_true, decide_eq_true_eq] at h
    exact ⟨h.1, h.2.1⟩
  by_cases e : r = 1000000
  · subst e; exact ⟨by decide, by decide, by omega, by omega⟩
  · have hf := rateText_form (k := r) ⟨hr.1, by omega⟩
    have h6 := (pad6_all (k := r.toNat) (by omega)).2.1
    have ht := trz_le (pad6 r.toNat)
    unfold rateP
    rw [if_neg e, hf]
    refine ⟨?_, rfl, hr⟩
    simp only [List.length_append, List.length_cons, List.length_nil]
    omega
theorem timeP_le {t : Int} (h : timeB t = true) : (timeP t).length ≤ 24 ∧ 0 ≤ t ∧ t ≤ 1099511627776 := by
  have hr : 0 ≤ t ∧ t ≤ 1099511627776 := by
    unfold timeB at h
    simpa only [Bool.and_eq_true, decide_eq_true_eq] using h
  refine ⟨?_, hr⟩
  have := dd_len64 (c := t.toNat) (by rw [two64_eq]; omega)
  unfold timeP
  split
  · simp
  · simp only [List.length_append, List.length_cons, List.length_nil]; omega
theorem refvals_loop (n : Nat) (hn : 200000 ≤ n) (X : Type) (k0 : List UInt8 → List UInt8 → Int → List DecL → Int → List TagL → Int → Option X) (b0 : List UInt8) (b1 : Int) (vs : List DecL) (b3 : Int) (b4 : List TagL) (b5 : Int) (hl : vs.length ≤ 100) (hok : ∀ d ∈ vs, DecLOK d ∧ decC d = 0) : ∀ (r : List DecL) (acc : List UInt8) (i m : Nat), vs.drop i = r → acc.length ≤ 1000 + i * 40 → i ≤ vs.length → r.length < m →
    F.ref11_Line.L3 n k0 m acc (i : Int) b0 b1 vs b3 b4 b5 = k0 (acc ++ valsT r) b0 b1 vs b3 b4 b5 := by
  intro r
  induction r with
  | nil =>
    intro acc i m h1 h2 hi hm
    obtain ⟨m, rfl⟩ : ∃ q, m = q + 1 := ⟨m - 1, by omega⟩
    rw [F.ref11_Line.L3]
    unfold F.ref11_Line.L3.step
    dsimp only
    rw [bif_neg (by have := drop_nil' h1; omega)]
    simp [valsT]
  | cons d r ih =>
    intro acc i m h1 h2 hi hm
    obtain ⟨m, rfl⟩ : ∃ q, m = q + 1 := ⟨m - 1, by simp at hm; omega⟩
    obtain ⟨l1, g1, t1⟩ := drop_cons h1
    simp only [List.length_cons] at hm
    obtain ⟨hd, h0⟩ := hok d (List.mem_of_getElem? g1)
    have hlen : (textL d).length ≤ 39 := textD_le hd h0
    have hT : F.ref03_Text n (d.1, d.2.1, d.2.2, ()) = some (textL d) := decText_ref n hn hd h0
    rw [F.ref11_Line.L3]
    unfold F.ref11_Line.L3.step
    dsimp only
    rw [bif_pos (by omega), growS (by omega), idx_nat, g1, some_bind', hT, some_bind', growS (by simp only [List.length_append, List.length_cons, List.length_nil]; omega), wrap_succ (by omega)]
    rw [ih (acc ++ [58] ++ textL d) (i + 1) m t1 (by simp only [List.length_append, List.length_cons, List.length_nil]; omega) (by omega) (by omega)]
    simp [valsT]
structure RightM (m : MetD) : Prop where
  ok : MetOK m
  chk : chkM m = 0
theorem right_vals {m : MetD} (h : RightM m) : (∀ d ∈ m.2.2.1, DecLOK d ∧ decC d = 0) ∧ 1 ≤ m.2.2.1.length ∧ m.2.2.1.length ≤ 64 := by
  have := (chk_zero h.chk).2.2.1
  unfold valsB at this
  simp only [Bool.and_eq_true, decide_eq_true_eq] at this
  refine ⟨fun d hd => ⟨h.ok.2.1.2 d hd, ?_⟩, this.1, this.2.1⟩
  simpa using List.all_eq_true.1 this.2.2 d hd
theorem right_tags {m : MetD} (h : RightM m) : (∀ t ∈ m.2.2.2.2.1, TagS t ∧ tagGood t = true) ∧ m.2.2.2.2.1.length ≤ 32 := by
  have := (chk_zero h.chk).2.2.2.2.1
  unfold tagsB at this
  simp only [Bool.and_eq_true, decide_eq_true_eq] at this
  exact ⟨fun t ht => ⟨tagGood_le (List.all_eq_true.1 this.2 t ht), List.all_eq_true.1 this.2 t ht⟩, this.1⟩
theorem nameOK_le {s : List UInt8} (h : nameOK s = true) : 1 ≤ s.length ∧ s.length ≤ 200 := by
  rw [nameOK_eq] at h
  simp only [Bool.and_eq_true, decide_eq_true_eq] at h
  exact h.2
theorem line_ref (n : Nat) (hn : 200000 ≤ n) (m : MetD) (h : RightM m) : F.ref11_Line n m = some (lineD m) := by
  obtain ⟨hv, hv1, hv2⟩ := right_vals h
  obtain ⟨ht, ht2⟩ := right_tags h
  obtain ⟨c1, c2, c3, c4, c5, c6⟩ := chk_zero h.chk
  have hnm := nameOK_le c1
  have hvl := valsT_le hv
  have hk := kind_five c2
  obtain ⟨r1, r2, r3, r4⟩ := rateP_le c4
  obtain ⟨t1, t2, t3⟩ := timeP_le c6
  have htl := tagText_le (fun t ht' => (ht t ht').1) ht2
  obtain ⟨nm, k, vs, r, ts, t, _⟩ := m
  simp only at hv hv1 hv2 ht ht2 hnm hvl hk r1 r2 r3 r4 t1 t2 t3 htl
  unfold F.ref11_Line
  refine (refvals_loop n hn _ _ nm k vs r ts t (by omega) hv vs nm 0 n rfl (by omega) (by omega) (by omega)).trans ?_
  have hw : idx [[99], [103], [109, 115], [104], [100]] (IntKind.wrap .i64 (k - 1)) = some (wordT k) := by
    rcases hk with rfl | rfl | rfl | rfl | rfl <;> rfl
  have hws := word_short k
  have hd : F.ref05_Text n t = some (Lib.decDigits t.toNat) := by
    unfold F.ref05_Text
    have : F.ref05_Digits n (IntKind.wrap .u64 t) = some (Lib.decDigits t.toNat) := by
      have e : IntKind.wrap .u64 t = ((t.toNat : Nat) : Int) := by
        rw [show IntKind.wrap .u64 t = t from IntWalk.u64_in t (by omega)]; omega
      rw [e]
      exact digits_ref n (by omega) t.toNat (by omega)
    rw [this]; rfl
  have hdl := dd_len64 (c := t.toNat) (by rw [two64_eq]; omega)
  have hr : F.ref05_RateText n r = some (rateText r).1 := rateText_ref n (by omega) r ⟨r3, r4⟩
  have htt : F.ref06_Text n ts = some (tagText ts) := refText_eq n hn ts ht2 (fun t ht' => (ht t ht').1)
  have hrl : (rateText r).1.length ≤ 20 := by
    by_cases e : r = 1000000
    · subst e; decide
    · unfold rateP at r1; rw [if_neg e] at r1; simp only [List.length_append, List.length_cons, List.length_nil] at r1; omega
  rw [show F.ref11_Words n = some [[99], [103], [109, 115], [104], [100]] from rfl]
  simp only [some_bind', hw, hr, htt, hd]
  rw [growS (by simp only [List.length_append, List.length_cons, List.length_nil]; omega), growS (by simp only [List.length_append, List.length_cons, List.length_nil]; omega)]
  unfold lineD rateP tagsP timeP
  have lenT : decide ((ts.length : Int) > 0) = !decide (ts = []) := by cases ts <;> simp <;> omega
  have f1 : (r == (1000000 : Int)) = decide (r = 1000000) := by by_cases e : r = 1000000 <;> simp [e]
  have f3 : (t == (0 : Int)) = decide (t = 0) := by by_cases e : t = 0 <;> simp [e]
  rw [lenT, f1, f3]
  by_cases e1 : r = 1000000 <;> by_cases e2 : ts = [] <;> by_cases e3 : t = 0
  all_goals
    simp only [e1, e2, e3, Bool.not_true, Bool.not_false, cond_true, cond_false, decide_true, decide_false, if_true, if_false]
    repeat rw [growS (by simp only [List.length_append, List.length_cons, List.length_nil]; omega)]
    simp
theorem line_loop (n : Nat) (hn : 200000 ≤ n) (X : Type) (k0 : List UInt8 → Int → List DecL → Int → List TagL → Int → (Nat × List UInt8) → (Nat × Nat) → Int → Option X) (b0 : List UInt8) (b1 : Int) (b2 : List DecL) (b3 : Int) (b4 : List TagL) (b5 : Int) (vs : List DecL) (hl : vs.length ≤ 100) (hok : ∀ d ∈ vs, DecLOK d ∧ decC d = 0) : ∀ (r : List DecL) (acc : List UInt8) (v i m : Nat), vs.drop i = r → acc.length ≤ 1000 + i * 40 → i ≤ vs.length → r.length < m →
    ∃ v', F.dog_Line.L9 n k0 m vs (vs.length : Int) (i : Int) b0 b1 b2 b3 b4 b5 (v, acc) (v, acc.length) 0 = k0 b0 b1 b2 b3 b4 b5 (v', acc ++ valsT r) (v', (acc ++ valsT r).length) 0 := by
  intro r
  induction r with
  | nil =>
    intro acc v i m h1 h2 hi hm
    obtain ⟨m, rfl⟩ : ∃ q, m = q + 1 := ⟨m - 1, by omega⟩
    refine ⟨v, ?_⟩
    rw [F.dog_Line.L9]
    unfold F.dog_Line.L9.step
    dsimp only
    rw [bif_neg (by have := drop_nil' h1; omega)]
    simp [valsT]
  | cons d r ih =>
    intro acc v i m h1 h2 hi hm
    obtain ⟨m, rfl⟩ : ∃ q, m = q + 1 := ⟨m - 1, by simp at hm; omega⟩
    obtain ⟨l1, g1, t1⟩ := drop_cons h1
    simp only [List.length_cons] at hm
    obtain ⟨hd, h0⟩ := hok d (List.mem_of_getElem? g1)
    have hlen : (textL d).length ≤ 39 := textD_le hd h0
    have hT : F.dec_Text n (d.1, d.2.1, d.2.2, ()) = some (textL d, 0, ()) := decText_eq n hn hd h0
    obtain ⟨v', hv⟩ := ih (acc ++ ([58] ++ textL d)) (v + 1) (i + 1) m t1 (by simp only [List.length_append, List.length_cons, List.length_nil]; omega) (by omega) (by omega)
    refine ⟨v', ?_⟩
    rw [F.dog_Line.L9]
    unfold F.dog_Line.L9.step
    dsimp only
    rw [bif_pos (by omega), idx_nat, g1, some_bind', hT, some_bind', wrap_succ (by omega)]
    dsimp only
    rw [beq_self_eq_true, cond_true, growS (by omega), Nat.beq_refl, cond_true, growB (by simp only [List.length_append, List.length_cons, List.length_nil]; omega)]
    rw [hv]
    simp [valsT]
theorem c25_eq (n : Nat) (X : Type) (kr : List UInt8 → Int → Option X) (b0 : List UInt8) (b1 : Int) (b2 : List DecL) (b3 : Int) (b4 : List TagL) (b5 : Int) (B : List UInt8) (v l : Nat) (hB : B ≠ []) : F.dog_Line.C25 n kr b0 b1 b2 b3 b4 b5 (v, B) (v, l) 0 = kr B 0 := by
  unfold F.dog_Line.C25
  dsimp only
  rw [beq_self_eq_true, Bool.not_true, cond_false, Nat.beq_refl, cond_true]
  cases B with
  | nil => exact absurd rfl hB
  | cons x B => rfl
theorem c22_eq (n : Nat) (X : Type) (kr : List UInt8 → Int → Option X) (b0 : List UInt8) (b1 : Int) (b2 : List DecL) (b3 : Int) (b4 : List TagL) (b5 : Int) (h5 : timeB b5 = true) (B : List UInt8) (v : Nat) (hB : B ≠ []) (hl : B.length ≤ 200000) : F.dog_Line.C22 n kr b0 b1 b2 b3 b4 b5 (v, B) (v, B.length) 0 = kr (B ++ timeP b5) 0 := by
  obtain ⟨t1, t2, t3⟩ := timeP_le h5
  unfold F.dog_Line.C22 timeP
  by_cases e : b5 = 0
  · rw [e, beq_self_eq_true, Bool.not_true, cond_false, if_pos rfl, List.append_nil]
    exact c25_eq n X _ b0 b1 b2 b3 b4 0 B v _ hB
  · have hd : F.num_Text n b5 = some (Lib.decDigits b5.toNat, 0, ()) := by
      rw [text_num n b5 (by omega)]; unfold numText; rw [if_neg (by omega)]
    have hdl := dd_len64 (c := b5.toNat) (by rw [two64_eq]; omega)
    rw [beq_eq_false_iff_ne.2 e, Bool.not_false, cond_true, hd, some_bind', if_neg e]
    dsimp only
    rw [beq_self_eq_true, cond_true, growS (by omega), Nat.beq_refl, cond_true, growB (by simp only [List.length_append, List.length_cons, List.length_nil]; omega)]
    exact c25_eq n X _ b0 b1 b2 b3 b4 b5 _ _ _ (by simp)
theorem c19_eq (n : Nat) (hn : 200000 ≤ n) (X : Type) (kr : List UInt8 → Int → Option X) (b0 : List UInt8) (b1 : Int) (b2 : List DecL) (b3 : Int) (b4 : List TagL) (b5 : Int) (h5 : timeB b5 = true) (hts : b4.length ≤ 32) (ht : ∀ t ∈ b4, TagS t ∧ tagGood t = true) (B : List UInt8) (v : Nat) (hB : B ≠ []) (hl : B.length ≤ 100000) : F.dog_Line.C19 n kr b0 b1 b2 b3 b4 b5 (v, B) (v, B.length) 0 = kr (B ++ tagsP b4 ++ timeP b5) 0 := by
  have htl := tagText_le (fun t ht' => (ht t ht').1) hts
  unfold F.dog_Line.C19 tagsP
  by_cases e : b4 = []
  · rw [e, bif_neg (by simp), if_pos rfl, List.append_nil]
    exact c22_eq n X _ b0 b1 b2 b3 [] b5 h5 B v hB (by omega)
  · have hlen : 0 < b4.length := List.length_pos_iff.2 e
    rw [bif_pos (by omega), tagText_eq n hn b4 hts ht, some_bind', if_neg e]
    dsimp only
    rw [beq_self_eq_true, cond_true, growS (by omega), Nat.beq_refl, cond_true, growB (by simp only [List.length_append, List.length_cons, List.length_nil]; omega)]
    exact c22_eq n X _ b0 b1 b2 b3 b4 b5 h5 _ _ (by simp) (by simp only [List.length_append, List.length_cons, List.length_nil]; omega)
theorem dl16_eq (n : Nat) (hn : 200000 ≤ n) (X : Type) (kr : List UInt8 → Int → Option X) (b0 : List UInt8) (b1 : Int) (b2 : List DecL) (b3 : Int) (b4 : List TagL) (b5 : Int) (k : Int) (h3 : rateB k b3 = true) (h5 : timeB b5 = true) (hts : b4.length ≤ 32) (ht : ∀ t ∈ b4, TagS t ∧ tagGood t = true) (B : List UInt8) (v : Nat) (hB : B ≠ []) (hl : B.length ≤ 50000) : F.dog_Line.C16 n kr b0 b1 b2 b3 b4 b5 (v, B) (v, B.length) 0 = kr (B ++ rateP b3 ++ tagsP b4 ++ timeP b5) 0 := by
  obtain ⟨r1, r2, r3, r4⟩ := rateP_le h3
  unfold F.dog_Line.C16
  by_cases e : b3 = 1000000
  · have : rateP b3 = [] := by unfold rateP; rw [if_pos e]
    rw [this, List.append_nil, e, beq_self_eq_true, Bool.not_true, cond_false]
    exact c19_eq n hn X _ b0 b1 b2 1000000 b4 b5 h5 hts ht B v hB (by omega)
  · have hP : rateP b3 = [124, 64] ++ (rateText b3).1 := by unfold rateP; rw [if_neg e]
    have hrl : (rateText b3).1.length ≤ 20 := by rw [hP] at r1; simp only [List.length_append, List.length_cons, List.length_nil] at r1; omega
    rw [hP, beq_eq_false_iff_ne.2 e, Bool.not_false, cond_true, rateText_num, some_bind', beq_self_eq_true, cond_true, growS (by omega)]
    dsimp only
    rw [Nat.beq_refl, cond_true, growB (by simp only [List.length_append, List.length_cons, List.length_nil]; omega), r2]
    exact c19_eq n hn X _ b0 b1 b2 b3 b4 b5 h5 hts ht _ _ (by simp) (by simp only [List.length_append, List.length_cons, List.length_nil]; omega)
def lineM (m : MetD) : List UInt8 × Int × Unit := if (normM m).2.1 = 0 then (lineD (normM m).1, 0, ()) else ([], (normM m).2.1, ())
theorem normM_cases {m : MetD} (hm : MetOK m) : (normM m = (formM m, 0, ()) ∧ RightM (formM m)) ∨ (∃ e, e ≠ 0 ∧ normM m = (zeroM, e, ())) := by
  unfold normM
  by_cases h : chkM (valsM m) = 0
  · refine Or.inl ⟨if_pos h, ?_, ?_⟩
    · have hv := valsM_ok hm
      refine ⟨hm.1, hv.2.1, ?_, ?_⟩
      · have h1 := normT_len m.2.2.2.2.1
        have h2 := hm.2.2.1
        show (normT m.2.2.2.2.1).length ≤ 10000
        omega
      · intro t ht
        exact hm.2.2.2 t ((normT_mem _ _).1 ht)
    · obtain ⟨c1, c2, c3, c4, c5, c6⟩ := chk_zero h
      have c5' : tagsB (formM m).2.2.2.2.1 = true := by
        unfold tagsB at c5 ⊢
        simp only [Bool.and_eq_true, decide_eq_true_eq] at c5 ⊢
        have h1 := normT_len m.2.2.2.2.1
        have h2 : m.2.2.2.2.1.length ≤ 32 := c5.1
        refine ⟨?_, List.all_eq_true.2 (fun t ht => List.all_eq_true.1 c5.2 t ((normT_mem _ _).1 ht))⟩
        show (normT m.2.2.2.2.1).length ≤ 32
        omega
      unfold chkM
      have d1 : nameOK (formM m).1 = true := c1
      have d2 : kindB (formM m).2.1 = true := c2
      have d3 : valsB (formM m).2.2.1 = true := c3
      have d4 : rateB (formM m).2.1 (formM m).2.2.2.1 = true := c4
      have d6 : timeB (formM m).2.2.2.2.2.1 = true := c6
      rw [d1, d2, d3, d4, c5', d6]
      rfl
  · exact Or.inr ⟨_, h, if_neg h⟩
theorem line_eq (n : Nat) (hn : 200000 ≤ n) (m : MetD) (hm : MetOK m) : F.dog_Line n m = some (lineM m) := by
  unfold F.dog_Line lineM
  have hN : F.metric_Normal n (m.1, m.2.1, m.2.2.1, m.2.2.2.1, m.2.2.2.2.1, m.2.2.2.2.2.1, ()) = some (normM m) := metNormal_eq n hn m hm
  rw [hN, some_bind']
  rcases normM_cases hm with ⟨h1, hR⟩ | ⟨e, he, h1⟩
  · rw [h1]
    generalize formM m = f at hR
    obtain ⟨hv, hv1, hv2⟩ := right_vals hR
    obtain ⟨ht, ht2⟩ := right_tags hR
    obtain ⟨c1, c2, c3, c4, c5, c6⟩ := chk_zero hR.chk
    have hnm := nameOK_le c1
    have hvl := valsT_le hv
    obtain ⟨nm, k, vs, r, ts, t, _⟩ := f
    dsimp only at hv hv1 hv2 ht ht2 c1 c2 c3 c4 c5 c6 hnm hvl ⊢
    rw [beq_self_eq_true, Bool.not_true, cond_false, if_pos rfl, growS (by omega), growB (by simp only [List.length_append, List.length_nil]; omega)]
    obtain ⟨v', hloop⟩ := line_loop n hn _ (fun e4_b0_0 e4_b0_1 e4_b0_2 e4_b0_3 e4_b0_4 e4_b0_5 e4_b1_0 e4_b2_1 e4_b3_0 =>
            (F.dog_Word n e4_b0_1).bind fun y5 =>
              bif e4_b3_0 == (0 : Int) then
                bif decide (1 + y5.1.length ≤ strMax) then
                  bif Nat.beq e4_b2_1.1 e4_b1_0.1 then
                    bif decide ((e4_b1_0.2.length + ((([124]) ++ y5.1).length)) * 1 ≤ 2 ^ 46) && decide (0 < 1 ∧ 1 ≤ 2 ^ 20) then
                      F.dog_Line.C16 n
                        (fun e30_2 e30_3 =>
                          some ((e30_2, e30_3, ()))) e4_b0_0 e4_b0_1 e4_b0_2 e4_b0_3 e4_b0_4 e4_b0_5 (e4_b2_1.1 + 1, e4_b1_0.2 ++ (([124]) ++ y5.1)) (e4_b2_1.1 + 1, (e4_b1_0.2 ++ (([124]) ++ y5.1)).length) y5.2.1
                    else
                      none
                  else
                    none
                else
                  none
              else
              bif decide (1 + y5.1.length ≤ strMax) then
                bif Nat.beq e4_b2_1.1 e4_b1_0.1 then
                  bif decide ((e4_b1_0.2.length + ((([124]) ++ y5.1).length)) * 1 ≤ 2 ^ 46) && decide (0 < 1 ∧ 1 ≤ 2 ^ 20) then
                    F.dog_Line.C16 n
                      (fun e31_2 e31_3 =>
                        some ((e31_2, e31_3, ()))) e4_b0_0 e4_b0_1 e4_b0_2 e4_b0_3 e4_b0_4 e4_b0_5 (e4_b2_1.1 + 1, e4_b1_0.2 ++ (([124]) ++ y5.1)) (e4_b2_1.1 + 1, (e4_b1_0.2 ++ (([124]) ++ y5.1)).length) e4_b3_0
                  else
                    none
                else
                  none
              else
                none) nm k vs r ts t vs (by omega) hv vs nm 2 0 n rfl (by omega) (by omega) (by omega)
    refine hloop.trans ?_
    dsimp only
    have hws := word_short k
    rw [word_eq, c2, if_pos rfl, some_bind']
    dsimp only
    rw [beq_self_eq_true, cond_true, growS (by omega), Nat.beq_refl, cond_true, growB (by simp only [List.length_append, List.length_cons, List.length_nil]; omega)]
    exact dl16_eq n hn _ _ nm k vs r ts t k c4 c6 ht2 ht _ _ (by simp) (by simp only [List.length_append, List.length_cons, List.length_nil]; omega)
  · rw [h1]
    dsimp only
    rw [if_neg he, beq_eq_false_iff_ne.2 he, Bool.not_false, cond_true]
end Go.AM
set_option linter.unusedVariables false
set_option linter.unusedSimpArgs false
namespace Go.AM
end Go.AM
set_option linter.unusedVariables false
set_option linter.unusedSimpArgs false
namespace Go.AM
end Go.AM
set_option linter.unusedVariables false
set_option linter.unusedSimpArgs false
namespace Go.AM
end Go.AM
set_option linter.unusedVariables false
set_option linter.unusedSimpArgs false
namespace Go.AM
theorem right_id {m : MetD} (h : RightM m) (hs : StrictT m.2.2.2.2.1) : normM m = (m, 0, ()) := by
  have hv := (right_vals h).1
  have e1 : m.2.2.1.map normV = m.2.2.1 := by
    have : m.2.2.1.map normV = m.2.2.1.map id := List.map_congr_left (fun d hd => (normV_id (hv d hd).1 (hv d hd).2).2)
    rw [this, List.map_id]
  have e2 : valsM m = m := by unfold valsM; rw [e1]
  unfold normM
  rw [e2, if_pos h.chk]
  unfold formM
  rw [e1, normT_id hs]
theorem line_right (n : Nat) (hn : 200000 ≤ n) {m : MetD} (h : RightM m) (hs : StrictT m.2.2.2.2.1) : F.dog_Line n m = some (lineD m, 0, ()) := by
  rw [line_eq n hn m h.ok]
  unfold lineM
  rw [right_id h hs, if_pos rfl]
end Go.AM
set_option linter.unusedVariables false
set_option linter.unusedSimpArgs false
namespace Go.AM
end Go.AM
set_option linter.unusedVariables false
set_option linter.unusedSimpArgs false
namespace Go.AM
theorem tagS_ok {t : TagL} (h : TagS t) : TagLOK t := ⟨by have := h.1; omega, by have := h.2; omega⟩
end Go.AM
set_option linter.unusedVariables false
set_option linter.unusedSimpArgs false
namespace Go.AM
end Go.AM
set_option linter.unusedVariables false
set_option linter.unusedSimpArgs false
namespace Go.AM
structure InvM (m : MetD) : Prop where
  nm : nameOK m.1 = true
  kd : kindB m.2.1 = true
  vs : (∀ d ∈ m.2.2.1, DecLOK d ∧ decC d = 0) ∧ 1 ≤ m.2.2.1.length ∧ m.2.2.1.length ≤ 64
  rt : rateB m.2.1 m.2.2.2.1 = true
  tg : (∀ t ∈ m.2.2.2.2.1, tagGood t = true) ∧ m.2.2.2.2.1.length ≤ 32 ∧ StrictT m.2.2.2.2.1
  tm : timeB m.2.2.2.2.2.1 = true
theorem InvM.right {m : MetD} (h : InvM m) : RightM m := by
  have hn := nameOK_le h.nm
  refine ⟨⟨by omega, ⟨by have := h.vs.2.2; omega, fun d hd => (h.vs.1 d hd).1⟩, by have := h.tg.2.1; omega, fun t ht => tagS_ok (tagGood_le (h.tg.1 t ht))⟩, ?_⟩
  have hv : valsB m.2.2.1 = true := by
    unfold valsB
    simp only [Bool.and_eq_true, decide_eq_true_eq]
    exact ⟨h.vs.2.1, h.vs.2.2, List.all_eq_true.2 (fun d hd => by simp [(h.vs.1 d hd).2])⟩
  have ht : tagsB m.2.2.2.2.1 = true := by
    unfold tagsB
    simp only [Bool.and_eq_true, decide_eq_true_eq]
    exact ⟨h.tg.2.1, List.all_eq_true.2 h.tg.1⟩
  unfold chkM
  rw [h.nm, h.kd, hv, h.rt, ht, h.tm]
  rfl
theorem RightM.inv {m : MetD} (h : RightM m) (hs : StrictT m.2.2.2.2.1) : InvM m := by
  obtain ⟨c1, c2, c3, c4, c5, c6⟩ := chk_zero h.chk
  have ht := right_tags h
  exact ⟨c1, c2, right_vals h, c4, ⟨fun t htm => (ht.1 t htm).2, ht.2, hs⟩, c6⟩
end Go.AM
set_option linter.unusedVariables false
set_option linter.unusedSimpArgs false
namespace Go.AM
theorem oneT_le' {t : TagL} (h : tagGood t = true) : (oneT t).length ≤ 165 := by
  unfold tagGood at h
  simp only [Bool.and_eq_true, beq_iff_eq] at h
  have h1 := textF_zero h.1
  have h2 := textF_zero h.2
  unfold oneT
  split <;> simp <;> omega
theorem tagText_le' {ts : List TagL} (h : ∀ t ∈ ts, tagGood t = true) (hl : ts.length ≤ 32) : (tagText ts).length ≤ 5312 := by
  unfold tagText
  have := join_le [44] 165 (ts.map oneT) (fun x hx => by
    obtain ⟨t, ht, rfl⟩ := List.mem_map.1 hx
    exact oneT_le' (h t ht))
  rw [List.length_map] at this
  have h2 : ts.length * (165 + [(44 : UInt8)].length) ≤ 32 * 166 := Nat.mul_le_mul_right _ hl
  omega
theorem line_len {m : MetD} (h : InvM m) : (lineD m).length ≤ 8192 := by
  have h1 := nameOK_le h.nm
  have h2 := valsT_le h.vs.1
  have h3 := word_short m.2.1
  have h4 := (rateP_le h.rt).1
  have h6 := (timeP_le h.tm).1
  have h5 : (tagsP m.2.2.2.2.1).length ≤ 5314 := by
    have := tagText_le' h.tg.1 h.tg.2.1
    unfold tagsP
    split
    · simp
    · simp only [List.length_append, List.length_cons, List.length_nil]; omega
  have := h.vs.2.2
  unfold lineD
  simp only [List.length_append, List.length_cons, List.length_nil]
  omega
end Go.AM
set_option linter.unusedVariables false
set_option linter.unusedSimpArgs false
namespace Go.AM
def fmtB (f : Int) : Bool := decide (1 ≤ f) && decide (f ≤ 3)
theorem fmt_three {f : Int} (h : fmtB f = true) : f = 1 ∨ f = 2 ∨ f = 3 := by
  unfold fmtB at h
  simp only [Bool.and_eq_true, decide_eq_true_eq] at h
  omega
theorem refIs_eq (n : Nat) (f : Int) : F.ref13_Is n f = some (fmtB f) := by
  unfold F.ref13_Is fmtB
  by_cases h : 1 ≤ f
  · rw [bif_pos (by omega), decide_eq_true h]; rfl
  · rw [bif_neg (by omega), decide_eq_false h]; rfl
end Go.AM
set_option linter.unusedVariables false
set_option linter.unusedSimpArgs false
namespace Go.AM
abbrev MetL := List UInt8 × Int × List DecL × Int × List TagL × Int
def toL (m : MetD) : MetL := (m.1, m.2.1, m.2.2.1, m.2.2.2.1, m.2.2.2.2.1, m.2.2.2.2.2.1)
theorem growM {X : Type} {v : List MetL} (h : v.length ≤ 100000) (y : Option X) : (bif decide ((v.length + 1) * 88 ≤ 2 ^ 46) && decide (0 < 88 ∧ 88 ≤ 2 ^ 20) then y else none) = y := by
  rw [decide_eq_true (by omega)]; rfl
def opM (m : MetL) : MetD := (m.1, m.2.1, m.2.2.1, m.2.2.2.1, m.2.2.2.2.1, m.2.2.2.2.2, ())
abbrev BatR := List MetL × Int × Int × Unit
def BatOK (l : List MetL) : Prop := ∀ m ∈ l, MetOK (opM m)
def nbF : List MetL → List MetL → BatR
  | [], out => (out, 0, 0, ())
  | m :: r, out => if (normM (opM m)).2.1 = 0 then nbF r (out ++ [toL (normM (opM m)).1]) else ([], out.length, (normM (opM m)).2.1, ())
def normB (l : List MetL) : BatR := if 1000 < l.length then ([], 1000, 12, ()) else nbF l []
theorem nb_loop (n : Nat) (hn : 200000 ≤ n) (k0 kr k1 : List MetL → Int → Int → List MetL → List MetL → Nat → Nat → Option BatR) (h0 : ∀ a b c out d e f, k0 a b c out d e f = some (out, 0, 0, ())) (hr : ∀ a i e out d k f, kr a i e out d k f = some (a, i, e, ())) (l : List MetL) (hl : l.length ≤ 1000) (hok : BatOK l) (b4 : List MetL) :
    ∀ (r : List MetL) (i m : Nat) (out b0 : List MetL) (b1 b2 : Int) (k : Nat), l.drop i = r → out.length = i → r.length < m →
    F.batch_Normal.L1_batch_all_api_Metric_1 n k0 kr k1 m l (l.length : Int) (i : Int) b0 b1 b2 out b4 k out.length = some (nbF r out) := by
  intro r
  induction r with
  | nil =>
    intro i m out b0 b1 b2 k hi ho hm
    have := drop_nil' hi
    obtain ⟨m, rfl⟩ : ∃ q, m = q + 1 := ⟨m - 1, by omega⟩
    rw [F.batch_Normal.L1_batch_all_api_Metric_1]
    unfold F.batch_Normal.L1_batch_all_api_Metric_1.step
    dsimp only
    rw [bif_neg (by omega), h0]
    rfl
  | cons x r ih =>
    intro i m out b0 b1 b2 k hi ho hm
    obtain ⟨g1, g2, g3⟩ := drop_cons hi
    obtain ⟨m, rfl⟩ : ∃ q, m = q + 1 := ⟨m - 1, by omega⟩
    have hN : F.metric_Normal n (x.1, x.2.1, x.2.2.1, x.2.2.2.1, x.2.2.2.2.1, x.2.2.2.2.2, ()) = some (normM (opM x)) := metNormal_eq n hn (opM x) (hok x (List.mem_of_getElem? g2))
    rw [F.batch_Normal.L1_batch_all_api_Metric_1]
    unfold F.batch_Normal.L1_batch_all_api_Metric_1.step
    dsimp only
    rw [bif_pos (by omega), idx_nat, g2, some_bind', hN, some_bind', nbF]
    by_cases h : (normM (opM x)).2.1 = 0
    · rw [if_pos h, h, beq_self_eq_true, Bool.not_true, cond_false, growM (by omega), Nat.beq_refl, cond_true, cond_false, wrap_succ (by omega)]
      exact ih (i + 1) m _ b0 b1 b2 k g3 (by simp [ho]) (by simp at hm; omega)
    · rw [if_neg h, beq_eq_false_iff_ne.2 h, Bool.not_false, cond_true, hr]
theorem batNormal_eq (n : Nat) (hn : 200000 ≤ n) (l : List MetL) (hok : BatOK l) : F.batch_Normal n l = some (normB l) := by
  unfold F.batch_Normal normB
  by_cases h : 1000 < l.length
  · rw [bif_pos (by omega), if_pos h]
  · rw [bif_neg (by omega), if_neg h]
    exact nb_loop n hn _ _ _ (fun _ _ _ _ _ _ _ => rfl) (fun _ _ _ _ _ _ _ => rfl) l (by omega) hok l l 0 n [] [] 0 0 0 rfl rfl (by omega)
theorem refnb_loop (n : Nat) (hn : 200000 ≤ n) (k0 : List MetL → Nat → Option BatR) (kr : List MetL → Int → Int → Nat → Option BatR) (h0 : ∀ out f, k0 out f = some (out, 0, 0, ())) (hr : ∀ a i e f, kr a i e f = some (a, i, e, ())) (l : List MetL) (hl : l.length ≤ 1000) (hok : BatOK l) :
    ∀ (r : List MetL) (i m : Nat) (out : List MetL), l.drop i = r → out.length = i → r.length < m →
    F.ref08_Normal.L5 n k0 kr m l out (i : Int) out.length = some (nbF r out) := by
  intro r
  induction r with
  | nil =>
    intro i m out hi ho hm
    have := drop_nil' hi
    obtain ⟨m, rfl⟩ : ∃ q, m = q + 1 := ⟨m - 1, by omega⟩
    rw [F.ref08_Normal.L5]
    unfold F.ref08_Normal.L5.step
    dsimp only
    rw [bif_neg (by omega), h0]
    rfl
  | cons x r ih =>
    intro i m out hi ho hm
    obtain ⟨g1, g2, g3⟩ := drop_cons hi
    obtain ⟨m, rfl⟩ : ∃ q, m = q + 1 := ⟨m - 1, by omega⟩
    have hN : F.ref07_Normal n (x.1, x.2.1, x.2.2.1, x.2.2.2.1, x.2.2.2.2.1, x.2.2.2.2.2, ()) = some (normM (opM x)) := metNormal_ref n hn (opM x) (hok x (List.mem_of_getElem? g2))
    rw [F.ref08_Normal.L5]
    unfold F.ref08_Normal.L5.step
    dsimp only
    rw [bif_pos (by omega), idx_nat, g2, some_bind', hN, some_bind', nbF]
    by_cases h : (normM (opM x)).2.1 = 0
    · rw [if_pos h, h, beq_self_eq_true, Bool.not_true, cond_false, growM (by omega), Nat.beq_refl, cond_true, wrap_succ (by omega)]
      exact ih (i + 1) m _ g3 (by simp [ho]) (by simp at hm; omega)
    · rw [if_neg h, beq_eq_false_iff_ne.2 h, Bool.not_false, cond_true, hr, ho]
theorem batNormal_ref (n : Nat) (hn : 200000 ≤ n) (l : List MetL) (hok : BatOK l) : F.ref08_Normal n l = some (normB l) := by
  unfold F.ref08_Normal normB
  by_cases h : 1000 < l.length
  · rw [bif_pos (by omega), if_pos h]
  · rw [bif_neg (by omega), if_neg h]
    exact refnb_loop n hn _ _ (fun _ _ => rfl) (fun _ _ _ _ => rfl) l (by omega) hok l 0 n [] rfl rfl (by omega)
def RightB (l : List MetL) : Prop := l.length ≤ 1000 ∧ ∀ m ∈ l, RightM (opM m) ∧ StrictT m.2.2.2.2.1
theorem nbF_cases : ∀ (l out : List MetL), BatOK l → (∀ m ∈ out, RightM (opM m) ∧ StrictT m.2.2.2.2.1) →
    ((nbF l out).2 = (0, 0, ()) ∧ (nbF l out).1.length = out.length + l.length ∧ (∀ m ∈ (nbF l out).1, RightM (opM m) ∧ StrictT m.2.2.2.2.1) ∧ (nbF l out).1 = out ++ l.map fun m => toL (formM (opM m))) ∨
    (∃ i e : Int, e ≠ 0 ∧ nbF l out = ([], i, e, ()) ∧ 0 ≤ i ∧ i < out.length + l.length)
  | [], out, _, ho => Or.inl ⟨rfl, by simp [nbF], ho, by simp [nbF]⟩
  | x :: l, out, hok, ho => by
    have hx := hok x (by simp)
    rw [nbF]
    rcases normM_cases hx with ⟨h, hR⟩ | ⟨e, he, h⟩
    · rw [h, if_pos rfl]
      rcases nbF_cases l (out ++ [toL (formM (opM x))]) (fun m hm => hok m (by simp [hm])) (fun m hm => by
        rcases List.mem_append.1 hm with hm | hm
        · exact ho m hm
        · rw [List.mem_singleton.1 hm]; exact ⟨hR, normT_strict _⟩) with ⟨a, b, c, d⟩ | ⟨i, e, a, b, c, d⟩
      · exact Or.inl ⟨a, by rw [b]; simp; omega, c, by rw [d]; simp⟩
      · exact Or.inr ⟨i, e, a, b, c, by simp at d ⊢; omega⟩
    · rw [h, if_neg (show ¬ e = 0 from he)]
      exact Or.inr ⟨out.length, e, he, rfl, by omega, by simp; omega⟩
theorem normB_cases {l : List MetL} (h : BatOK l) : ((normB l).2 = (0, 0, ()) ∧ RightB (normB l).1 ∧ (normB l).1 = (l.map fun m => toL (formM (opM m))) ∧ l.length ≤ 1000) ∨ (∃ i e : Int, e ≠ 0 ∧ normB l = ([], i, e, ())) := by
  unfold normB
  split
  · exact Or.inr ⟨1000, 12, by decide, rfl⟩
  · rcases nbF_cases l [] h (fun m hm => by cases hm) with ⟨a, b, c, d⟩ | ⟨i, e, a, b, _⟩
    · exact Or.inl ⟨a, ⟨by rw [b]; simp; omega, c⟩, by rw [d]; rfl, by omega⟩
    · exact Or.inr ⟨i, e, a, b⟩
theorem RightB.ok {l : List MetL} (h : RightB l) : BatOK l := fun m hm => (h.2 m hm).1.ok
abbrev AtR := Int × Int × Unit
def chF : List MetL → Nat → AtR
  | [], _ => (0, 0, ())
  | m :: r, i => if chkM (opM m) = 0 then chF r (i + 1) else ((i : Int), chkM (opM m), ())
def sayF (f : Int) : List MetL → Nat → AtR
  | [], _ => (0, 0, ())
  | m :: r, i => bif saysM (opM m) f then sayF f r (i + 1) else ((i : Int), 26, ())
def checkB (l : List MetL) : AtR := if 1000 < l.length then (1000, 12, ()) else chF l 0
def expB (l : List MetL) (f : Int) : AtR := if f < 1 ∨ f > 4 then (0, 29, ()) else if (checkB l).2.1 = 0 then sayF f l 0 else checkB l
theorem growO {X : Type} {v : List Bool} (h : v.length ≤ 100000) (y : Option X) : (bif decide ((v.length + 1) * 1 ≤ 2 ^ 46) && decide (0 < 1 ∧ 1 ≤ 2 ^ 20) then y else none) = y := by
  rw [decide_eq_true (by omega)]; rfl
theorem chb_loop (n : Nat) (hn : 200000 ≤ n) (k0 kr k1 : List Bool → Int → Int → List Bool → List MetL → Nat → Nat → Option AtR) (h0 : ∀ a b c out d e f, k0 a b c out d e f = some (0, 0, ())) (hr : ∀ a i e out d k f, kr a i e out d k f = some (i, e, ())) (l : List MetL) (hl : l.length ≤ 1000) (hok : BatOK l) (b4 : List MetL) :
    ∀ (r : List MetL) (i m : Nat) (out b0 : List Bool) (b1 b2 : Int) (k : Nat), l.drop i = r → out.length = i → r.length < m →
    F.batch_Check.L1_batch_all_bool_1 n k0 kr k1 m l (l.length : Int) (i : Int) b0 b1 b2 out b4 k out.length = some (chF r i) := by
  intro r
  induction r with
  | nil =>
    intro i m out b0 b1 b2 k hi ho hm
    have := drop_nil' hi
    obtain ⟨m, rfl⟩ : ∃ q, m = q + 1 := ⟨m - 1, by omega⟩
    rw [F.batch_Check.L1_batch_all_bool_1]
    unfold F.batch_Check.L1_batch_all_bool_1.step
    dsimp only
    rw [bif_neg (by omega), h0]
    rfl
  | cons x r ih =>
    intro i m out b0 b1 b2 k hi ho hm
    obtain ⟨g1, g2, g3⟩ := drop_cons hi
    obtain ⟨m, rfl⟩ : ∃ q, m = q + 1 := ⟨m - 1, by omega⟩
    have hN : F.batch_Check_1 n (x.1, x.2.1, x.2.2.1, x.2.2.2.1, x.2.2.2.2.1, x.2.2.2.2.2, ()) = some (true, chkM (opM x), ()) := by
      unfold F.batch_Check_1
      have := metcheck_eq n hn (opM x) (hok x (List.mem_of_getElem? g2))
      unfold opM at this
      rw [this]
      rfl
    rw [F.batch_Check.L1_batch_all_bool_1]
    unfold F.batch_Check.L1_batch_all_bool_1.step
    dsimp only
    rw [bif_pos (by omega), idx_nat, g2, some_bind', hN, some_bind', chF]
    by_cases h : chkM (opM x) = 0
    · rw [if_pos h, h, beq_self_eq_true, Bool.not_true, cond_false, growO (by omega), Nat.beq_refl, cond_true, cond_false, wrap_succ (by omega)]
      exact ih (i + 1) m _ b0 b1 b2 k g3 (by simp [ho]) (by simp at hm; omega)
    · rw [if_neg h, beq_eq_false_iff_ne.2 h, Bool.not_false, cond_true, hr, ho]
theorem batCheck_eq (n : Nat) (hn : 200000 ≤ n) (l : List MetL) (hok : BatOK l) : F.batch_Check n l = some (checkB l) := by
  unfold F.batch_Check checkB
  by_cases h : 1000 < l.length
  · rw [bif_pos (by omega), if_pos h]
  · rw [bif_neg (by omega), if_neg h]
    exact chb_loop n hn _ _ _ (fun _ _ _ _ _ _ _ => rfl) (fun _ _ _ _ _ _ _ => rfl) l (by omega) hok l l 0 n [] [] 0 0 0 rfl rfl (by omega)
theorem refch_loop (n : Nat) (hn : 200000 ≤ n) (l : List MetL) (hl : l.length ≤ 1000) (hok : BatOK l) :
    ∀ (r : List MetL) (i m : Nat), l.drop i = r → r.length < m →
    F.ref08_Check.L4 n (fun (_ : Unit) => some ((0 : Int), (0 : Int), ())) (fun a b => some (a, b, ())) m l (i : Int) = some (chF r i) := by
  intro r
  induction r with
  | nil =>
    intro i m hi hm
    have := drop_nil' hi
    obtain ⟨m, rfl⟩ : ∃ q, m = q + 1 := ⟨m - 1, by omega⟩
    rw [F.ref08_Check.L4]
    unfold F.ref08_Check.L4.step
    dsimp only
    rw [bif_neg (by omega)]
    rfl
  | cons x r ih =>
    intro i m hi hm
    obtain ⟨g1, g2, g3⟩ := drop_cons hi
    obtain ⟨m, rfl⟩ : ∃ q, m = q + 1 := ⟨m - 1, by omega⟩
    have hN : F.ref07_Check n (x.1, x.2.1, x.2.2.1, x.2.2.2.1, x.2.2.2.2.1, x.2.2.2.2.2, ()) = some (chkM (opM x)) := metcheck_ref n hn (opM x) (hok x (List.mem_of_getElem? g2))
    rw [F.ref08_Check.L4]
    unfold F.ref08_Check.L4.step
    dsimp only
    rw [bif_pos (by omega), idx_nat, g2, some_bind', hN, some_bind', chF]
    by_cases h : chkM (opM x) = 0
    · rw [if_pos h, h, beq_self_eq_true, Bool.not_true, cond_false, wrap_succ (by omega)]
      exact ih (i + 1) m g3 (by simp at hm; omega)
    · rw [if_neg h, beq_eq_false_iff_ne.2 h, Bool.not_false, cond_true]
theorem batCheck_ref (n : Nat) (hn : 200000 ≤ n) (l : List MetL) (hok : BatOK l) : F.ref08_Check n l = some (checkB l) := by
  unfold F.ref08_Check checkB
  by_cases h : 1000 < l.length
  · rw [bif_pos (by omega), if_pos h]
  · rw [bif_neg (by omega), if_neg h]
    exact refch_loop n hn l (by omega) hok l 0 n rfl (by omega)
theorem say_loop (g : MetL → Option Bool) (f : Int) (hg : ∀ x, g x = some (saysM (opM x) f)) (k0 : Unit → Option AtR) (kr : Int → Int → Option AtR) (h0 : k0 () = some (0, 0, ())) (hr : ∀ a b, kr a b = some (a, b, ())) (l : List MetL) (hl : l.length ≤ 1000) (L : Nat → Int → Option AtR)
    (hL : ∀ m i, L (m + 1) i = bif decide (i < (l.length : Int)) then (idx l i).bind fun x => (g x).bind fun y => bif !y then kr i 26 else L m (IntKind.wrap .i64 (i + 1)) else k0 ()) :
    ∀ (r : List MetL) (i m : Nat), l.drop i = r → r.length < m → L m (i : Int) = some (sayF f r i) := by
  intro r
  induction r with
  | nil =>
    intro i m hi hm
    have := drop_nil' hi
    obtain ⟨m, rfl⟩ : ∃ q, m = q + 1 := ⟨m - 1, by omega⟩
    rw [hL, bif_neg (by omega), h0]
    rfl
  | cons x r ih =>
    intro i m hi hm
    obtain ⟨g1, g2, g3⟩ := drop_cons hi
    obtain ⟨m, rfl⟩ : ∃ q, m = q + 1 := ⟨m - 1, by omega⟩
    rw [hL, bif_pos (by omega), idx_nat, g2, some_bind', hg, some_bind', sayF]
    cases saysM (opM x) f
    · rw [Bool.not_false, cond_true, cond_false, hr]
    · rw [Bool.not_true, cond_false, cond_true, wrap_succ (by omega)]
      exact ih (i + 1) m g3 (by simp at hm; omega)
theorem expB_eq (n : Nat) (hn : 200000 ≤ n) (l : List MetL) (hok : BatOK l) (f : Int) : F.expr_Batch n l f = some (expB l f) := by
  have hl : ∀ {p : AtR}, checkB l = p → p.2.1 = 0 → l.length ≤ 1000 := fun e h0 => by
    unfold checkB at e
    split at e
    · rw [← e] at h0; cases h0
    · omega
  unfold F.expr_Batch expB
  rw [batCheck_eq n hn l hok]
  have hs := fun x : MetL => said_s n (opM x)
  have hg := fun x : MetL => said_g n (opM x)
  by_cases h : f < 1 ∨ f > 4
  · rw [if_pos h, beq_eq_false_iff_ne.2 (by omega : f ≠ 1), beq_eq_false_iff_ne.2 (by omega : f ≠ 2), beq_eq_false_iff_ne.2 (by omega : f ≠ 3), beq_eq_false_iff_ne.2 (by omega : f ≠ 4)]
    rfl
  rw [if_neg h]
  simp only [some_bind']
  generalize hc : checkB l = p
  by_cases h0 : p.2.1 = 0
  · have hl := hl hc h0
    rw [if_pos h0, h0, beq_self_eq_true, Bool.not_true, cond_false, cond_false]
    rcases (by omega : f = 1 ∨ f = 2 ∨ f = 3 ∨ f = 4) with rfl | rfl | rfl | rfl
    · exact say_loop (fun x => F.expr_said_statsd n (x.1, x.2.1, x.2.2.1, x.2.2.2.1, x.2.2.2.2.1, x.2.2.2.2.2, ())) 1 hs (fun _ => some (0, 0, ())) (fun a b => some (a, b, ())) rfl (fun _ _ => rfl) l hl (fun m i => F.expr_Batch.L8 n _ _ m l (l.length : Int) i) (fun _ _ => rfl) l 0 n rfl (by omega)
    · exact say_loop (fun x => F.expr_said_any n (x.1, x.2.1, x.2.2.1, x.2.2.2.1, x.2.2.2.2.1, x.2.2.2.2.2, ())) 2 (fun _ => rfl) (fun _ => some (0, 0, ())) (fun a b => some (a, b, ())) rfl (fun _ _ => rfl) l hl (fun m i => F.expr_Batch.L8_1 n _ _ m l (l.length : Int) i) (fun _ _ => rfl) l 0 n rfl (by omega)
    · exact say_loop (fun x => F.expr_said_graphite n (x.1, x.2.1, x.2.2.1, x.2.2.2.1, x.2.2.2.2.1, x.2.2.2.2.2, ())) 3 hg (fun _ => some (0, 0, ())) (fun a b => some (a, b, ())) rfl (fun _ _ => rfl) l hl (fun m i => F.expr_Batch.L8_2 n _ _ m l (l.length : Int) i) (fun _ _ => rfl) l 0 n rfl (by omega)
    · exact say_loop (fun x => F.expr_said_any n (x.1, x.2.1, x.2.2.1, x.2.2.2.1, x.2.2.2.2.1, x.2.2.2.2.2, ())) 4 (fun _ => rfl) (fun _ => some (0, 0, ())) (fun a b => some (a, b, ())) rfl (fun _ _ => rfl) l hl (fun m i => F.expr_Batch.L8_1 n _ _ m l (l.length : Int) i) (fun _ _ => rfl) l 0 n rfl (by omega)
  · obtain ⟨a, b, _⟩ := p
    rw [if_neg h0, beq_eq_false_iff_ne.2 h0]
    rcases (by omega : f = 1 ∨ f = 2 ∨ f = 3 ∨ f = 4) with rfl | rfl | rfl | rfl <;> rfl
theorem expB_ref (n : Nat) (hn : 200000 ≤ n) (l : List MetL) (hok : BatOK l) (f : Int) : F.ref09_Batch n l f = some (expB l f) := by
  unfold F.ref09_Batch expB
  by_cases h1 : f < 1
  · rw [bif_pos h1, if_pos (Or.inl h1)]
  rw [bif_neg h1]
  by_cases h2 : f > 4
  · rw [bif_pos h2, if_pos (Or.inr h2)]
  rw [bif_neg h2, if_neg (by omega), batCheck_ref n hn l hok, some_bind']
  by_cases h0 : (checkB l).2.1 = 0
  · have hl : l.length ≤ 1000 := by
      unfold checkB at h0
      split at h0
      · cases h0
      · omega
    rw [if_pos h0, h0, beq_self_eq_true, Bool.not_true, cond_false]
    exact say_loop (fun x => F.ref09_Says n (x.1, x.2.1, x.2.2.1, x.2.2.2.1, x.2.2.2.2.1, x.2.2.2.2.2, ()) f) f (fun x => says_ref n (opM x) f) (fun _ => some (0, 0, ())) (fun a b => some (a, b, ())) rfl (fun _ _ => rfl) l hl (fun m i => F.ref09_Batch.L7 n _ _ m l f i) (fun _ _ => rfl) l 0 n rfl (by omega)
  · rw [if_neg h0, beq_eq_false_iff_ne.2 h0]
    rfl
theorem chF_right : ∀ (l : List MetL) (i : Nat), (∀ m ∈ l, RightM (opM m)) → chF l i = (0, 0, ())
  | [], _, _ => rfl
  | x :: l, i, h => by rw [chF, if_pos (h x (by simp)).chk, chF_right l _ fun m hm => h m (by simp [hm])]
theorem checkB_right {l : List MetL} (h : RightB l) : checkB l = (0, 0, ()) := by
  unfold checkB
  rw [if_neg (by have := h.1; omega), chF_right l 0 fun m hm => (h.2 m hm).1]
theorem sayF_zero : ∀ (l : List MetL) (f : Int) (i : Nat), (sayF f l i).2.1 = 0 → sayF f l i = (0, 0, ()) ∧ ∀ m ∈ l, saysM (opM m) f = true
  | [], f, i, _ => ⟨rfl, fun m hm => by cases hm⟩
  | x :: l, f, i, h => by
    rw [sayF] at h ⊢
    cases hx : saysM (opM x) f
    · rw [hx] at h; cases h
    · rw [hx] at h
      obtain ⟨a, b⟩ := sayF_zero l f (i + 1) h
      exact ⟨a, fun m hm => by
        rcases List.mem_cons.1 hm with rfl | hm
        · exact hx
        · exact b m hm⟩
theorem expB_zero {l : List MetL} {f : Int} (h : RightB l) (h0 : (expB l f).2.1 = 0) : expB l f = (0, 0, ()) ∧ ∀ m ∈ l, expM (opM m) f = 0 := by
  unfold expB at h0 ⊢
  rw [checkB_right h] at h0 ⊢
  split at h0
  · cases h0
  · rename_i hf
    rw [if_pos rfl] at h0
    rw [if_neg hf, if_pos rfl]
    obtain ⟨a, b⟩ := sayF_zero l f 0 h0
    refine ⟨a, fun m hm => ?_⟩
    unfold expM
    rw [if_neg hf, if_pos (h.2 m hm).1.chk, b m hm]
    rfl
end Go.AM
set_option linter.unusedVariables false
set_option linter.unusedSimpArgs false
namespace Go.AM
end Go.AM
set_option linter.unusedVariables false
set_option linter.unusedSimpArgs false
namespace Go.AM
end Go.AM
set_option linter.unusedVariables false
set_option linter.unusedSimpArgs false
namespace Go.AM
def lineF (m : MetD) (f : Int) : List UInt8 := if f = 1 then lineS m else if f = 2 then lineD m else lineG m
def lineT (m : MetD) (f : Int) : List UInt8 × Int × Unit :=
  if fmtB f = false then ([], 29, ())
  else if (normM m).2.1 ≠ 0 then ([], (normM m).2.1, ())
  else if expM (normM m).1 f ≠ 0 then ([], expM (normM m).1 f, ())
  else (lineF (normM m).1 f, 0, ())
theorem lineF_eq (n : Nat) (hn : 200000 ≤ n) {m : MetD} (hR : RightM m) (hs : StrictT m.2.2.2.2.1) {f : Int} (h0 : expM m f = 0) :
    (f = 1 → F.statsd_Line n m = some (lineF m f, 0, ())) ∧ (f = 2 → F.dog_Line n m = some (lineF m f, 0, ())) ∧ (f = 3 → F.graphite_Line n m = some (lineF m f, 0, ())) := by
  refine ⟨fun e => ?_, fun e => ?_, fun e => ?_⟩
  · subst e; rw [sdLine_eq n hn m hR.ok]; unfold sdLineR; rw [if_pos h0]; rfl
  · subst e; rw [line_right n hn hR hs]; rfl
  · subst e; rw [lineG_eq n hn m hR.ok]; unfold lineGR; rw [if_pos h0]; rfl
theorem textLine_eq (n : Nat) (hn : 200000 ≤ n) (m : MetD) (hm : MetOK m) (f : Int) : F.text_Line n m f = some (lineT m f) := by
  unfold F.text_Line lineT
  have hN : F.metric_Normal n (m.1, m.2.1, m.2.2.1, m.2.2.2.1, m.2.2.2.2.1, m.2.2.2.2.2.1, ()) = some (normM m) := metNormal_eq n hn m hm
  rw [hN]
  cases hf : fmtB f
  · have h1 : f ≠ 1 := fun e => by rw [e] at hf; cases hf
    have h2 : f ≠ 2 := fun e => by rw [e] at hf; cases hf
    have h3 : f ≠ 3 := fun e => by rw [e] at hf; cases hf
    rw [beq_eq_false_iff_ne.2 h1, beq_eq_false_iff_ne.2 h2, beq_eq_false_iff_ne.2 h3, if_pos rfl]
    rfl
  · rw [if_neg (by simp)]
    rcases normM_cases hm with ⟨hq, hR⟩ | ⟨e, he, hq⟩
    · have hs : StrictT (formM m).2.2.2.2.1 := normT_strict _
      rw [hq]
      generalize formM m = q at hR hs ⊢
      have hE : F.expr_Metric n (q.1, q.2.1, q.2.2.1, q.2.2.2.1, q.2.2.2.2.1, q.2.2.2.2.2.1, ()) f = some (expM q f) := expm_eq n hn q hR.ok f
      dsimp only
      simp only [some_bind', beq_self_eq_true, Bool.not_true, cond_false, hE, ne_eq, not_true_eq_false, if_false]
      by_cases h0 : expM q f = 0
      · obtain ⟨l1, l2, l3⟩ := lineF_eq n hn hR hs h0
        rw [if_neg (by simp [h0]), h0]
        rcases fmt_three hf with rfl | rfl | rfl
        · have := l1 rfl
          rw [beq_self_eq_true, cond_true, beq_self_eq_true, Bool.not_true, cond_false]
          exact (congrArg (Option.bind · _) this).trans rfl
        · have := l2 rfl
          rw [show ((2 : Int) == 1) = false from rfl, cond_false, beq_self_eq_true, cond_true, beq_self_eq_true, Bool.not_true, cond_false]
          exact (congrArg (Option.bind · _) this).trans rfl
        · have := l3 rfl
          rw [show ((3 : Int) == 1) = false from rfl, show ((3 : Int) == 2) = false from rfl, cond_false, cond_false, beq_self_eq_true, cond_true, beq_self_eq_true, Bool.not_true, cond_false]
          exact (congrArg (Option.bind · _) this).trans rfl
      · rw [if_pos h0, beq_eq_false_iff_ne.2 h0]
        rcases fmt_three hf with rfl | rfl | rfl <;> rfl
    · rw [hq]
      dsimp only
      rw [if_pos he]
      simp only [some_bind', beq_eq_false_iff_ne.2 he]
      rcases fmt_three hf with rfl | rfl | rfl <;> rfl
theorem refTextLine_eq (n : Nat) (hn : 200000 ≤ n) {m : MetD} (hR : RightM m) {f : Int} (hf : fmtB f = true) (h0 : expM m f = 0) : F.ref13_Line n m f = some (lineF m f) := by
  unfold F.ref13_Line lineF
  rcases fmt_three hf with rfl | rfl | rfl
  · have h : F.ref10_Line n (m.1, m.2.1, m.2.2.1, m.2.2.2.1, m.2.2.2.2.1, m.2.2.2.2.2.1, ()) = some (lineS m) := sdRefLine_eq n hn m hR.ok h0
    rw [beq_self_eq_true, cond_true, h, if_pos rfl]; rfl
  · have h : F.ref11_Line n (m.1, m.2.1, m.2.2.1, m.2.2.2.1, m.2.2.2.2.1, m.2.2.2.2.2.1, ()) = some (lineD m) := line_ref n hn m hR
    rw [show ((2 : Int) == 1) = false from rfl, cond_false, beq_self_eq_true, cond_true, h, if_neg (by decide), if_pos rfl]; rfl
  · have h : F.ref12_Line n (m.1, m.2.1, m.2.2.1, m.2.2.2.1, m.2.2.2.2.1, m.2.2.2.2.2.1, ()) = some (lineG m) := refLineG_eq n hn m hR.ok h0
    rw [show ((3 : Int) == 1) = false from rfl, show ((3 : Int) == 2) = false from rfl, cond_false, cond_false, h, if_neg (by decide), if_neg (by decide)]; rfl
end Go.AM
set_option linter.unusedVariables false
set_option linter.unusedSimpArgs false
namespace Go.AM
theorem lineT_right {m : MetD} (hR : RightM m) (hs : StrictT m.2.2.2.2.1) {f : Int} (hf : fmtB f = true) (h0 : expM m f = 0) : lineT m f = (lineF m f, 0, ()) := by
  unfold lineT
  rw [if_neg (by simp [hf]), right_id hR hs, if_neg (by simp), if_neg (by simp [h0])]
theorem lineF_len {m : MetD} (hR : RightM m) (hs : StrictT m.2.2.2.2.1) {f : Int} (hf : fmtB f = true) (h0 : expM m f = 0) : (lineF m f).length ≤ 8192 := by
  have hi := hR.inv hs
  have hnm := (nameOK_le hi.nm).2
  unfold lineF
  rcases fmt_three hf with rfl | rfl | rfl
  · obtain ⟨nm, k, d, r, rfl, _, h1, h4, hd, hr1, hr2, _⟩ := said_facts h0
    rw [if_pos rfl]
    have hv := textD_le ((right_vals hR).1 d (by simp)).1 hd
    have hw := wordL_le k
    have hr := (rateText_ok hr1 hr2).2
    unfold lineS rateL valL
    dsimp only at hnm ⊢
    split <;> simp only [List.length_append, List.length_cons, List.length_nil] <;> omega
  · rw [if_neg (by decide), if_pos rfl]
    exact line_len hi
  · rw [if_neg (by decide), if_neg (by decide)]
    have := lineG_le hR.ok h0 (by omega)
    omega
abbrev LinR := List (List UInt8) × Int × Int × Unit
def linesB (l : List MetL) (f : Int) : LinR :=
  if fmtB f = false then ([], 0, 29, ()) else if (normB l).2.2.1 = 0 then (if (expB (normB l).1 f).2.1 = 0 then ((normB l).1.map fun m => lineF (opM m) f, 0, 0, ()) else ([], (expB (normB l).1 f).1, (expB (normB l).1 f).2.1, ())) else ([], (normB l).2.1, (normB l).2.2.1, ())
theorem lines_loop (n : Nat) (hn : 200000 ≤ n) (f : Int) (hf : fmtB f = true) (k0 : List (List UInt8) → Nat → Option LinR) (kr : List (List UInt8) → Int → Int → Nat → Option LinR) (h0 : ∀ a k, k0 a k = some (a, 0, 0, ())) (l : List MetL) (hR : RightB l) (he : ∀ m ∈ l, expM (opM m) f = 0) :
    ∀ (r : List MetL) (i m : Nat) (out : List (List UInt8)), l.drop i = r → out.length = i → r.length < m → F.text_Lines.L12 n k0 kr m f out l (l.length : Int) (i : Int) out.length = some (out ++ r.map fun m => lineF (opM m) f, 0, 0, ()) := by
  have hl := hR.1
  intro r
  induction r with
  | nil =>
    intro i m out hi ho hm
    have := drop_nil' hi
    obtain ⟨m, rfl⟩ : ∃ q, m = q + 1 := ⟨m - 1, by omega⟩
    rw [F.text_Lines.L12]
    unfold F.text_Lines.L12.step
    dsimp only
    rw [bif_neg (by omega), h0]
    simp
  | cons x r ih =>
    intro i m out hi ho hm
    obtain ⟨g1, g2, g3⟩ := drop_cons hi
    obtain ⟨m, rfl⟩ : ∃ q, m = q + 1 := ⟨m - 1, by omega⟩
    have hx := List.mem_of_getElem? g2
    obtain ⟨x1, x2⟩ := hR.2 x hx
    have hN : F.text_Line n (x.1, x.2.1, x.2.2.1, x.2.2.2.1, x.2.2.2.2.1, x.2.2.2.2.2, ()) f = some (lineF (opM x) f, 0, ()) := by
      rw [← lineT_right x1 x2 hf (he x hx)]
      exact textLine_eq n hn (opM x) x1.ok f
    rw [F.text_Lines.L12]
    unfold F.text_Lines.L12.step
    dsimp only
    rw [bif_pos (by omega), idx_nat, g2, some_bind', hN, some_bind', beq_self_eq_true, Bool.not_true, cond_false, growL (by omega), Nat.beq_refl, cond_true, wrap_succ (by omega), ih (i + 1) m _ g3 (by simp [ho]) (by simp at hm; omega)]
    simp
theorem bound16 {k : Nat} (h : k ≤ 1000) {X : Type} (y : Option X) : (bif decide True && (decide ((0 : Int) ≤ (k : Int)) && decide ((16 : Int) * (k : Int) ≤ 281474976710656) && decide ((k : Int) ≤ 281474976710656)) && true then y else none) = y := by
  rw [decide_eq_true (by omega : (0 : Int) ≤ (k : Int)), decide_eq_true (by omega : (16 : Int) * (k : Int) ≤ 281474976710656), decide_eq_true (by omega : (k : Int) ≤ 281474976710656)]; rfl
theorem textLines_eq (n : Nat) (hn : 200000 ≤ n) (l : List MetL) (hok : BatOK l) (f : Int) : F.text_Lines n l f = some (linesB l f) := by
  unfold F.text_Lines linesB
  rw [batNormal_eq n hn l hok]
  cases hf : fmtB f
  · have h1 : f ≠ 1 := fun e => by rw [e] at hf; cases hf
    have h2 : f ≠ 2 := fun e => by rw [e] at hf; cases hf
    have h3 : f ≠ 3 := fun e => by rw [e] at hf; cases hf
    rw [beq_eq_false_iff_ne.2 h1, beq_eq_false_iff_ne.2 h2, beq_eq_false_iff_ne.2 h3, if_pos rfl]
    rfl
  · rw [if_neg (by simp)]
    simp only [some_bind']
    rcases normB_cases hok with ⟨h2, hR, -, -⟩ | ⟨i, e, he, h⟩
    · generalize hq : normB l = q at h2 hR
      obtain ⟨q, q2⟩ := q
      dsimp only at h2 hR
      subst h2
      rw [expB_eq n hn q hR.ok]
      simp only [some_bind', beq_self_eq_true, Bool.not_true, cond_false, if_true]
      by_cases h0 : (expB q f).2.1 = 0
      · obtain ⟨-, hx⟩ := expB_zero hR h0
        rw [if_pos h0, h0, beq_self_eq_true, Bool.not_true, cond_false, bound16 hR.1]
        have L := lines_loop n hn f hf (fun a k => some (a, 0, 0, ())) (fun a b c d => some (a, b, c, ())) (fun _ _ => rfl) q hR hx q 0 n [] rfl rfl (by have := hR.1; omega)
        rcases fmt_three hf with rfl | rfl | rfl <;> exact L
      · rw [if_neg h0, beq_eq_false_iff_ne.2 h0]
        rcases fmt_three hf with rfl | rfl | rfl <;> rfl
    · rw [h]
      dsimp only
      rw [if_neg he, beq_eq_false_iff_ne.2 he]
      rcases fmt_three hf with rfl | rfl | rfl <;> rfl
def encB (l : List MetL) (f : Int) : List UInt8 × Int × Int × Unit := (feeds (linesB l f).1, (linesB l f).2.1, (linesB l f).2.2.1, ())
theorem linesB_cases {l : List MetL} (hok : BatOK l) (f : Int) : ((linesB l f).2 = (0, 0, ()) ∧ fmtB f = true ∧ (normB l).2 = (0, 0, ()) ∧ RightB (normB l).1 ∧ (∀ m ∈ (normB l).1, expM (opM m) f = 0) ∧ (linesB l f).1 = (normB l).1.map fun m => lineF (opM m) f) ∨ (∃ i e : Int, e ≠ 0 ∧ linesB l f = ([], i, e, ())) := by
  unfold linesB
  cases hf : fmtB f
  · rw [if_pos rfl]; exact Or.inr ⟨0, 29, by decide, rfl⟩
  · rw [if_neg (by simp)]
    rcases normB_cases hok with ⟨h2, hR, -, -⟩ | ⟨i, e, he, h⟩
    · rw [if_pos (by rw [h2])]
      by_cases h0 : (expB (normB l).1 f).2.1 = 0
      · rw [if_pos h0]
        exact Or.inl ⟨rfl, rfl, h2, hR, (expB_zero hR h0).2, rfl⟩
      · rw [if_neg h0]
        exact Or.inr ⟨_, _, h0, rfl⟩
    · rw [h, if_neg he]
      exact Or.inr ⟨i, e, he, rfl⟩
theorem linesB_len {l : List MetL} (hok : BatOK l) (f : Int) : (linesB l f).1.length ≤ 1000 ∧ ∀ s ∈ (linesB l f).1, s.length ≤ 8192 := by
  rcases linesB_cases hok f with ⟨-, hf, -, hR, he, h⟩ | ⟨i, e, -, h⟩
  · rw [h]
    refine ⟨by rw [List.length_map]; exact hR.1, fun s hs => ?_⟩
    obtain ⟨m, hm, rfl⟩ := List.mem_map.1 hs
    exact lineF_len (hR.2 m hm).1 (hR.2 m hm).2 hf (he m hm)
  · rw [h]; exact ⟨by simp, fun s hs => by cases hs⟩
theorem growU {X : Type} {a b : Nat} (h : a + b ≤ 100000000) (y : Option X) : (bif decide ((a + b) * 1 ≤ 2 ^ 46) && decide (0 < 1 ∧ 1 ≤ 2 ^ 20) then y else none) = y := by
  rw [decide_eq_true (by omega)]; rfl
theorem enc_loop (n : Nat) (k0 : List UInt8 → Nat → Option (List UInt8 × Int × Int × Unit)) (h0 : ∀ a k, k0 a k = some (a, 0, 0, ())) (l : List (List UInt8)) (hl : l.length ≤ 1000) (hs : ∀ s ∈ l, s.length ≤ 8192) :
    ∀ (r : List (List UInt8)) (i m : Nat) (out : List UInt8), l.drop i = r → out.length ≤ i * 8193 → r.length < m → F.text_Encode.L6 n k0 m out l (l.length : Int) (i : Int) out.length = some (out ++ feeds r, 0, 0, ()) := by
  intro r
  induction r with
  | nil =>
    intro i m out hi ho hm
    have := drop_nil' hi
    obtain ⟨m, rfl⟩ : ∃ q, m = q + 1 := ⟨m - 1, by omega⟩
    rw [F.text_Encode.L6]
    unfold F.text_Encode.L6.step
    dsimp only
    rw [bif_neg (by omega), h0]
    simp [feeds]
  | cons x r ih =>
    intro i m out hi ho hm
    obtain ⟨g1, g2, g3⟩ := drop_cons hi
    obtain ⟨m, rfl⟩ : ∃ q, m = q + 1 := ⟨m - 1, by omega⟩
    have hx := hs x (List.mem_of_getElem? g2)
    have hb : i * 8193 ≤ 1000 * 8193 := Nat.mul_le_mul_right _ (by omega)
    rw [F.text_Encode.L6]
    unfold F.text_Encode.L6.step
    dsimp only
    rw [bif_pos (by omega), idx_nat, g2, some_bind', growU (by omega), Nat.beq_refl, cond_true, growU (by simp; omega), Nat.beq_refl, cond_true, wrap_succ (by omega), ih (i + 1) m _ g3 (by simp; omega) (by simp at hm; omega)]
    simp [feeds]
theorem textEncode_eq (n : Nat) (hn : 200000 ≤ n) (l : List MetL) (hok : BatOK l) (f : Int) : F.text_Encode n l f = some (encB l f) := by
  unfold F.text_Encode encB
  rw [textLines_eq n hn l hok f, some_bind']
  obtain ⟨h1, h2⟩ := linesB_len hok f
  rcases linesB_cases hok f with ⟨h, -⟩ | ⟨i, e, he, h⟩
  · generalize linesB l f = q at h1 h2 h
    obtain ⟨q, q2⟩ := q
    dsimp only at h h1 h2
    subst h
    rw [beq_self_eq_true, Bool.not_true, cond_false]
    exact enc_loop n _ (fun _ _ => rfl) q h1 h2 q 0 n [] rfl (by simp) (by omega)
  · rw [h]
    dsimp only
    rw [beq_eq_false_iff_ne.2 he]
    rfl
theorem rlines_loop (n : Nat) (hn : 200000 ≤ n) (f : Int) (hf : fmtB f = true) (k0 : List (List UInt8) → Nat → Option LinR) (h0 : ∀ a k, k0 a k = some (a, 0, 0, ())) (l : List MetL) (hR : RightB l) (he : ∀ m ∈ l, expM (opM m) f = 0) :
    ∀ (r : List MetL) (i m : Nat) (out : List (List UInt8)), l.drop i = r → out.length = i → r.length < m → F.ref13_Lines.L10 n k0 m f l out (i : Int) out.length = some (out ++ r.map fun m => lineF (opM m) f, 0, 0, ()) := by
  have hl := hR.1
  intro r
  induction r with
  | nil =>
    intro i m out hi ho hm
    have := drop_nil' hi
    obtain ⟨m, rfl⟩ : ∃ q, m = q + 1 := ⟨m - 1, by omega⟩
    rw [F.ref13_Lines.L10]
    unfold F.ref13_Lines.L10.step
    dsimp only
    rw [bif_neg (by omega), h0]
    simp
  | cons x r ih =>
    intro i m out hi ho hm
    obtain ⟨g1, g2, g3⟩ := drop_cons hi
    obtain ⟨m, rfl⟩ : ∃ q, m = q + 1 := ⟨m - 1, by omega⟩
    have hx := List.mem_of_getElem? g2
    have hN : F.ref13_Line n (x.1, x.2.1, x.2.2.1, x.2.2.2.1, x.2.2.2.2.1, x.2.2.2.2.2, ()) f = some (lineF (opM x) f) := refTextLine_eq n hn (hR.2 x hx).1 hf (he x hx)
    rw [F.ref13_Lines.L10]
    unfold F.ref13_Lines.L10.step
    dsimp only
    rw [bif_pos (by omega), idx_nat, g2, some_bind', hN, some_bind', growL (by omega), Nat.beq_refl, cond_true, wrap_succ (by omega), ih (i + 1) m _ g3 (by simp [ho]) (by simp at hm; omega)]
    simp
theorem refLines_eq (n : Nat) (hn : 200000 ≤ n) (l : List MetL) (hok : BatOK l) (f : Int) : F.ref13_Lines n l f = some (linesB l f) := by
  unfold F.ref13_Lines linesB
  rw [batNormal_ref n hn l hok, refIs_eq, some_bind']
  cases hf : fmtB f
  · rw [if_pos rfl]; rfl
  · rw [if_neg (by simp), Bool.not_true, cond_false, some_bind']
    rcases normB_cases hok with ⟨h2, hR, -, -⟩ | ⟨i, e, he, h⟩
    · generalize hq : normB l = q at h2 hR
      obtain ⟨q, q2⟩ := q
      dsimp only at h2 hR
      subst h2
      rw [expB_ref n hn q hR.ok]
      simp only [some_bind', beq_self_eq_true, cond_true, if_true]
      by_cases h0 : (expB q f).2.1 = 0
      · obtain ⟨-, hx⟩ := expB_zero hR h0
        rw [if_pos h0, h0, beq_self_eq_true, Bool.not_true, cond_false]
        exact rlines_loop n hn f hf (fun a k => some (a, 0, 0, ())) (fun _ _ => rfl) q hR hx q 0 n [] rfl rfl (by have := hR.1; omega)
      · rw [if_neg h0, beq_eq_false_iff_ne.2 h0]
        rfl
    · rw [h]
      dsimp only
      rw [if_neg he, beq_eq_false_iff_ne.2 he]
      rfl
theorem byte_back (x : UInt8) : UInt8.ofNat ((x.toNat : Int)).toNat = x := by simp
theorem rcopy_loop (n : Nat) (k2 : List (List UInt8) → Int → Int → List UInt8 → Int → Nat → Option (List UInt8 × Int × Int × Unit)) (l : List (List UInt8)) (a b : Int) (i : Nat) (s : List UInt8) (hi : l[i]? = some s) (hs : s.length ≤ 8192) :
    ∀ (r : List UInt8) (j m : Nat) (out : List UInt8), s.drop j = r → out.length ≤ 20000000 + j → r.length < m → F.ref13_Encode.L7 n k2 m l a b out (i : Int) (j : Int) out.length = k2 l a b (out ++ r) (i : Int) (out ++ r).length := by
  intro r
  induction r with
  | nil =>
    intro j m out hj ho hm
    have := drop_nil' hj
    obtain ⟨m, rfl⟩ : ∃ q, m = q + 1 := ⟨m - 1, by omega⟩
    rw [F.ref13_Encode.L7]
    unfold F.ref13_Encode.L7.step
    dsimp only
    rw [idx_nat, hi, some_bind', bif_neg (by omega), List.append_nil]
  | cons x r ih =>
    intro j m out hj ho hm
    obtain ⟨g1, g2, g3⟩ := drop_cons hj
    obtain ⟨m, rfl⟩ : ∃ q, m = q + 1 := ⟨m - 1, by omega⟩
    rw [F.ref13_Encode.L7]
    unfold F.ref13_Encode.L7.step
    dsimp only
    rw [idx_nat, hi, some_bind', bif_pos (by omega), some_bind', idx_nat, g2, some_bind', growU (by omega), Nat.beq_refl, cond_true, wrap_succ (by omega), byte_back, ih (j + 1) m _ g3 (by simp; omega) (by simp at hm; omega), List.append_assoc]
    rfl
theorem renc_loop (n : Nat) (hn : 200000 ≤ n) (k0 : Int → Int → List UInt8 → Nat → Option (List UInt8 × Int × Int × Unit)) (h0 : ∀ a b o k, k0 a b o k = some (o, a, b, ())) (l : List (List UInt8)) (a b : Int) (hl : l.length ≤ 1000) (hs : ∀ s ∈ l, s.length ≤ 8192) :
    ∀ (r : List (List UInt8)) (i m : Nat) (out : List UInt8), l.drop i = r → out.length ≤ i * 8193 → r.length < m → F.ref13_Encode.L4 n k0 m l a b out (i : Int) out.length = some (out ++ feeds r, a, b, ()) := by
  intro r
  induction r with
  | nil =>
    intro i m out hi ho hm
    have := drop_nil' hi
    obtain ⟨m, rfl⟩ : ∃ q, m = q + 1 := ⟨m - 1, by omega⟩
    rw [F.ref13_Encode.L4]
    unfold F.ref13_Encode.L4.step
    dsimp only
    rw [bif_neg (by omega), h0]
    simp [feeds]
  | cons x r ih =>
    intro i m out hi ho hm
    obtain ⟨g1, g2, g3⟩ := drop_cons hi
    obtain ⟨m, rfl⟩ : ∃ q, m = q + 1 := ⟨m - 1, by omega⟩
    have hx := hs x (List.mem_of_getElem? g2)
    have hb : i * 8193 ≤ 1000 * 8193 := Nat.mul_le_mul_right _ (by omega)
    rw [F.ref13_Encode.L4]
    unfold F.ref13_Encode.L4.step
    dsimp only
    rw [bif_pos (by omega)]
    refine (rcopy_loop n _ l a b i x g2 hx x 0 n out rfl (by omega) (by omega)).trans ?_
    rw [growU (by simp; omega), Nat.beq_refl, cond_true, wrap_succ (by omega)]
    have := ih (i + 1) m (out ++ x ++ [10]) g3 (by simp; omega) (by simp at hm; omega)
    rw [show UInt8.ofNat ((10 : Int)).toNat = 10 from rfl, this]
    simp [feeds]
theorem refEncode_eq (n : Nat) (hn : 200000 ≤ n) (l : List MetL) (hok : BatOK l) (f : Int) : F.ref13_Encode n l f = some (encB l f) := by
  unfold F.ref13_Encode encB
  rw [refLines_eq n hn l hok f, some_bind']
  obtain ⟨h1, h2⟩ := linesB_len hok f
  exact renc_loop n hn _ (fun _ _ _ _ => rfl) (linesB l f).1 _ _ h1 h2 (linesB l f).1 0 n [] rfl (by simp) (by omega)
theorem same13_loop (n : Nat) (l : List UInt8) (hl : l.length ≤ 4000000000) : ∀ (r : List UInt8) (i m : Nat), l.drop i = r → r.length < m → F.law13_same.L4 n (fun (_ : Unit) => some true) (fun e => some e) m l l (i : Int) = some true := by
  intro r
  induction r with
  | nil =>
    intro i m hi hm
    have := drop_nil' hi
    obtain ⟨m, rfl⟩ : ∃ q, m = q + 1 := ⟨m - 1, by omega⟩
    rw [F.law13_same.L4]
    unfold F.law13_same.L4.step
    dsimp only
    rw [bif_neg (by omega)]
  | cons x r ih =>
    intro i m hi hm
    obtain ⟨g1, g2, g3⟩ := drop_cons hi
    obtain ⟨m, rfl⟩ : ∃ q, m = q + 1 := ⟨m - 1, by omega⟩
    rw [F.law13_same.L4]
    unfold F.law13_same.L4.step
    dsimp only
    rw [bif_pos (by omega), idx_nat, g2, some_bind', some_bind', beq_self_eq_true, Bool.not_true, cond_false, wrap_succ (by omega), ih (i + 1) m g3 (by simp at hm; omega)]
theorem tenc_loop (n : Nat) (k0 : Unit → Option Bool) (kr : Bool → Option Bool) (l : List (List UInt8)) (hl : l.length ≤ 1000) : ∀ (r : List (List UInt8)) (i m : Nat), l.drop i = r → r.length < m → F.law13_TextEncodes.L10 n k0 kr m l l (i : Int) = k0 () := by
  intro r
  induction r with
  | nil =>
    intro i m hi hm
    have := drop_nil' hi
    obtain ⟨m, rfl⟩ : ∃ q, m = q + 1 := ⟨m - 1, by omega⟩
    rw [F.law13_TextEncodes.L10]
    unfold F.law13_TextEncodes.L10.step
    dsimp only
    rw [bif_neg (by omega)]
  | cons x r ih =>
    intro i m hi hm
    obtain ⟨g1, g2, g3⟩ := drop_cons hi
    obtain ⟨m, rfl⟩ : ∃ q, m = q + 1 := ⟨m - 1, by omega⟩
    rw [F.law13_TextEncodes.L10]
    unfold F.law13_TextEncodes.L10.step
    dsimp only
    rw [bif_pos (by omega), idx_nat, g2, some_bind', some_bind', beq_self_eq_true, Bool.not_true, cond_false, wrap_succ (by omega), ih (i + 1) m g3 (by simp at hm; omega)]
def fewB (l : List MetL) : Bool := (l.take 41).all (fun m => smallB (opM m)) && decide (l.length ≤ 40)
theorem few13_loop (n : Nat) (hn : 200000 ≤ n) (k0 : List MetL → Option Bool) (kr : Bool → Option Bool) (h0 : ∀ l, k0 l = some (decide ((l.length : Int) ≤ 40))) (hr : ∀ b, kr b = some b) (l : List MetL) (hs : ∀ m ∈ l, m.2.2.2.2.1.length ≤ 140737488351232) : ∀ (r : List MetL) (i m : Nat), l.drop i = r → i ≤ 41 → 42 < m + i → F.law13_Few.L2 n k0 kr m l (i : Int) = some ((r.take (41 - i)).all (fun m => smallB (opM m)) && decide (l.length ≤ 40)) := by
  have hd : decide ((l.length : Int) ≤ 40) = decide (l.length ≤ 40) := decide_eq_decide.2 (by omega)
  intro r
  induction r with
  | nil =>
    intro i m hi h41 hm
    have := drop_nil' hi
    obtain ⟨m, rfl⟩ : ∃ q, m = q + 1 := ⟨m - 1, by omega⟩
    rw [F.law13_Few.L2]
    unfold F.law13_Few.L2.step
    dsimp only
    rw [bif_neg (by omega), h0, hd]
    simp
  | cons x r ih =>
    intro i m hi h41 hm
    obtain ⟨g1, g2, g3⟩ := drop_cons hi
    obtain ⟨m, rfl⟩ : ∃ q, m = q + 1 := ⟨m - 1, by omega⟩
    rw [F.law13_Few.L2]
    unfold F.law13_Few.L2.step
    dsimp only
    rw [bif_pos (by omega)]
    by_cases h : i < 41
    · have hN : F.law10_Small n (x.1, x.2.1, x.2.2.1, x.2.2.2.1, x.2.2.2.2.1, x.2.2.2.2.2, ()) = some (smallB (opM x)) := small_eq n hn (opM x) (hs x (List.mem_of_getElem? g2))
      rw [bif_pos (by omega), idx_nat, g2, some_bind', hN, some_bind', show 41 - i = (41 - (i + 1)) + 1 by omega, List.take_succ_cons, List.all_cons]
      cases smallB (opM x)
      · rw [Bool.not_false, cond_true, hr]; rfl
      · rw [Bool.not_true, cond_false, wrap_succ (by omega), ih (i + 1) m g3 (by omega) (by omega), Bool.true_and]
    · rw [bif_neg (by omega), h0, hd, show 41 - i = 0 by omega]
      simp
theorem few13_eq (n : Nat) (hn : 200000 ≤ n) (l : List MetL) (hs : ∀ m ∈ l, m.2.2.2.2.1.length ≤ 140737488351232) : F.law13_Few n l = some (fewB l) := by
  unfold F.law13_Few
  exact few13_loop n hn _ _ (fun _ => rfl) (fun _ => rfl) l hs l 0 n rfl (by omega) (by omega)
theorem few13_ok {l : List MetL} (hw : ∀ m ∈ l, MetWf (opM m)) (h : fewB l = true) : BatOK l ∧ l.length ≤ 40 := by
  unfold fewB at h
  simp only [Bool.and_eq_true, decide_eq_true_eq] at h
  obtain ⟨h1, h2⟩ := h
  rw [List.take_of_length_le (by omega)] at h1
  exact ⟨fun m hm => (small_ok (hw m hm) (List.all_eq_true.1 h1 m hm)).1, h2⟩
theorem feeds_le (b : Nat) : ∀ l : List (List UInt8), (∀ s ∈ l, s.length ≤ b) → (feeds l).length ≤ l.length * (b + 1)
  | [], _ => by simp [feeds]
  | x :: l, h => by
    have h1 := h x (by simp)
    have h2 := feeds_le b l fun s hs => h s (by simp [hs])
    have h3 : (l.length + 1) * (b + 1) = l.length * (b + 1) + (b + 1) := Nat.succ_mul _ _
    simp only [feeds, List.length_append, List.length_cons, List.length_nil]
    omega
theorem linesB_few {l : List MetL} (h : l.length ≤ 40) (hok : BatOK l) (f : Int) : (linesB l f).1.length ≤ 40 := by
  rcases linesB_cases hok f with ⟨-, -, -, -, -, h1⟩ | ⟨i, e, -, h1⟩
  · rw [h1, List.length_map]
    rcases normB_cases hok with ⟨-, -, h3, -⟩ | ⟨i, e, -, h3⟩
    · rw [h3, List.length_map]; exact h
    · rw [h3]; exact Nat.zero_le _
  · rw [h1]; exact Nat.zero_le _
theorem awake13K : F.law13_awake 400000 = some true := by kernel_rfl
theorem text_encodes (n : Nat) (hn : 400000 ≤ n) (hA : F.law13_awake n = some true) (l : List MetL) (hw : ∀ m ∈ l, MetWf (opM m)) (hs : ∀ m ∈ l, m.2.2.2.2.1.length ≤ 140737488351232) (f : Int) : F.law13_TextEncodes n l f = some true := by
  unfold F.law13_TextEncodes
  rw [few13_eq n (by omega) l hs, some_bind', hA]
  cases h : fewB l
  · rfl
  · obtain ⟨hok, h40⟩ := few13_ok hw h
    rw [Bool.not_true, cond_false, textLines_eq n (by omega) l hok, textEncode_eq n (by omega) l hok, refLines_eq n (by omega) l hok, refEncode_eq n (by omega) l hok]
    obtain ⟨h1, h2⟩ := linesB_len hok f
    have h4 := linesB_few h40 hok f
    have hb := feeds_le 8192 _ h2
    have hc : (linesB l f).1.length * (8192 + 1) ≤ 40 * 8193 := Nat.mul_le_mul_right _ h4
    have hS : F.law13_same n (encB l f).1 (encB l f).1 = some true := by
      unfold F.law13_same
      rw [beq_self_eq_true, Bool.not_true, cond_false]
      exact same13_loop n _ (show (feeds (linesB l f).1).length ≤ _ by omega) _ 0 n rfl (show (feeds (linesB l f).1).length < n by omega)
    simp only [some_bind', hS, show (encB l f).2.1 = (linesB l f).2.1 from rfl, show (encB l f).2.2.1 = (linesB l f).2.2.1 from rfl, beq_self_eq_true, Bool.not_true, cond_false]
    exact tenc_loop n _ _ _ h1 _ 0 n rfl (by rw [List.drop_zero]; omega)
end Go.AM
namespace Go.Proofs.YtonhplejlfnkoaaGreatDoor.textEncodes
open Go.ChangeShapes Go.WideShapes Go.ChangeAt Go.RowKit Go.AM
theorem j1 : laidOutB Tryz.prog = true := by kernel_rfl
theorem own : ownKnob Tryz.prog.godebug = none := by kernel_rfl
theorem goes : LawGoes Tryz.prog SI 7 [(.sl (.agg [.str, (.int .i64), (.sl (.agg [.bool, (.int .u64), (.int .i64)])), (.int .i64), (.sl (.agg [.str, .str])), (.int .i64)])), (.int .i64)] := fun x hx w vals hI hr =>
  ok7 _ (x.1, x.2.1, ()) true (text_encodes 400000 (by omega) awake13K x.1 (fun m hm => (hx.1.2 m hm).2.2.1.2) (fun m hm => (hx.1.2 m hm).2.2.2.2.1.1) x.2.1) w (AllD w) vals (WOf.of hI) hr (fun b o h => h)
noncomputable def laidWorld (os : Os) : World := laidOf Tryz.prog os [layTab 4 Rows.laid_math_bits_deBruijn32tab, layTab 5 Rows.laid_math_bits_deBruijn64tab, layTab 1 Rows.laid_internal_strconv_uint64pow10, layTab 3 Rows.laid_unicode_utf8_acceptRanges, layErr 7 295 297 Rows.laid_strconv_ErrRange, layErr 6 295 297 Rows.laid_strconv_ErrSyntax, layTab 2 Rows.laid_unicode_utf8_first]
theorem laid_met (os : Os) (args : Array Value) : laidMet Tryz.prog Rows.textEncodesRow.laid ((laidWorld os).forCall (fun _ _ => 0) ⟨#[], args, []⟩).memory :=
  (LaidIn.of_run [4, 5, 1, 3, 7, 6, 2, (World.holding Tryz.prog os ⟨#[], #[], []⟩).heap.size, (World.holding Tryz.prog os ⟨#[], #[], []⟩).heap.size + 1] 8 (by kernel_rfl) (by kernel_rfl) (by kernel_rfl) (by kernel_rfl)).met
theorem witness_row (os : Os) {H : Type} (enc : TypeId × Value → H) :
    (OpenSpec.ofChange Rows.textEncodesSpec).preRow enc Tryz.prog Tryz.f7 Rows.textEncodesRow.domain false Rows.textEncodesRow.laid ((laidWorld os).forCall (fun _ _ => 0) ⟨#[], #[.slice none 0 0, .int .i64 0], []⟩).memory #[.slice none 0 0, .int .i64 0] := by
  have hw : (DataW.whole enc Tryz.prog ((laidWorld os).forCall (fun _ _ => 0) ⟨#[], #[.slice none 0 0, .int .i64 0], []⟩).memory Tryz.f7.params.toList Rows.textEncodesSpec.vars false (#[.slice none 0 0, .int .i64 0] : Array Value).toList 8).map (fun x => (x.1, x.2.1)) =
      some ([.nil, .lit (.int .i64 0)], []) := by kernel_rfl
  obtain ⟨⟨x1, x2, x3⟩, hx, hx1⟩ := Option.map_eq_some_iff.1 hw
  simp only [Prod.mk.injEq] at hx1
  obtain ⟨rfl, rfl⟩ := hx1
  exact OpenSpec.preRow_of_cond 8 hx (by kernel_rfl) (fun k hk => by cases hk) (by kernel_rfl) (laid_met os _)
set_option maxRecDepth 100000 in
theorem lifted (os : Os) (started : os.Started) (H : Type) (enc : TypeId × Value → H) (F : Stop.Interp) :
    ReturnsInHanded {} Tryz.checked os 7 .any ((OpenSpec.ofChange Rows.textEncodesSpec).preRow enc Tryz.prog Tryz.f7 Rows.textEncodesRow.domain false Rows.textEncodesRow.laid) (((OpenSpec.ofChange Rows.textEncodesSpec).at F).post enc Tryz.prog Tryz.f7 false true false false) := by
  refine returnsInHanded_of_row (C := Tryz.checked) (s := OpenSpec.ofChange Rows.textEncodesSpec) own started (by kernel_rfl) Tryz.func7
    (witness_row_atRef (enc := enc) (C := Tryz.checked) false (laidWorld os) #[.slice none 0 0, .int .i64 0] rfl (by kernel_rfl) (by kernel_rfl) (by kernel_rfl) (witness_row os enc)) ?_
  intro W base args ds gs before hval hW _ _ hw hL hO _
  exact law_calls (s := Rows.textEncodesSpec) (n := 8) j1 Tryz.func7 (by kernel_rfl) (by decide) (by kernel_rfl) rfl Tryz.underlying4 rfl (fun ds h => by match ds, h with | [_, _], _ => rfl) goes hval hW hw ⟨hL, hO⟩
theorem j2 : mapsRowed Tryz.prog = true := by kernel_rfl
theorem j3 : (Rows.textEncodesRow.inPlace == Tryz.prog.inPlace 7) = true := by kernel_rfl
theorem j4 : (Rows.textEncodesRow.unfollowed == Tryz.prog.unfollowed 7) = true := by kernel_rfl
theorem j5 : (Rows.textEncodesRow.recurses == Tryz.prog.recurses 7) = true := by kernel_rfl
theorem j6 : (Rows.textEncodesRow.named == Tryz.prog.varsNamed 7) = true := by kernel_rfl
theorem joined : joinedFacts Tryz.prog 7 Tryz.f7 (OpenSpec.ofChange Rows.textEncodesSpec).bare Rows.textEncodesRow = true := by
  simp only [joinedFacts, Bool.and_eq_true]
  repeat' apply And.intro
  · kernel_rfl
  · exact j1
  · exact j2
  · kernel_rfl
  · kernel_rfl
  · kernel_rfl
  · kernel_rfl
  · kernel_rfl
  · kernel_rfl
  · exact j3
  · exact j4
  · exact j5
  · exact j6
  all_goals kernel_rfl
theorem said : Rows.TextEncodesSaid :=
  OpenClaim.holds_of_cond 7 Tryz.f7 rfl rfl rfl rfl rfl rfl rfl ⟨rfl, rfl, rfl, rfl, rfl⟩ rfl rfl rfl rfl rfl (by kernel_rfl) Tryz.func7 joined
    (of_decide_eq_true (by kernel_rfl)) (by unfold Func.isWrapper; first | (rw [if_pos (by decide +kernel)]; kernel_rfl) | (rw [if_neg (by decide +kernel)]; exact ⟨rfl, rfl⟩))
    (fun os started H enc _ F => by rw [OpenClaim.pre_eq_preRow]; exact lifted os started H enc F)
theorem plain (f : FuncId) (fn : Func) (hf : Tryz.pinned.checked.prog.funcNamed "forebay/forebaylaw13.TextEncodes" = some f) (hfn : Tryz.pinned.checked.prog.funcs[f]? = some fn) :
    true = Tryz.pinned.checked.prog.looks [] ∧ ∀ (j : Nat) t, fn.params[j]? = some t → Tryz.pinned.checked.prog.wantsStandIn t = false := by
  obtain rfl : f = 7 := Option.some.inj ((show Tryz.prog.funcNamed "forebay/forebaylaw13.TextEncodes" = some 7 by kernel_rfl).symm.trans hf) |>.symm
  obtain rfl : fn = Tryz.f7 := (Option.some.inj (Tryz.func7.symm.trans hfn)).symm
  refine ⟨by kernel_rfl, fun j t ht => ?_⟩
  have hm : t ∈ ([24, 3] : List TypeId) := by
    rw [Tryz.params7] at ht
    have := Array.mem_of_getElem? ht
    simpa using this
  have all : ∀ x ∈ ([24, 3] : List TypeId), Tryz.prog.wantsStandIn x = false := fun x hx => by
    have h : ([24, 3] : List TypeId).all (fun x => Tryz.prog.wantsStandIn x == false) = true := by kernel_rfl
    simpa using List.all_eq_true.1 h x hx
  exact all t hm
theorem proved : Rows.TextEncodesCardSaid :=
  Claim7.holds_tied_plain_at .later [] _ _ _ _ said (fun _ h => by cases h) (by kernel_rfl) (fun _ h => by cases h) textEncodes_row_tie rfl ⟨rfl, rfl⟩ (by kernel_rfl) rfl plain (by kernel_rfl)
end Go.Proofs.YtonhplejlfnkoaaGreatDoor.textEncodes
