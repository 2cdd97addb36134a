/- Part 3 of a proof by the abstract machine. -/
import Derived.Test.YtglkcdjgnmegmaaGreatDoorQ2
import Derived.Carry
import Derived.SizedLaws
import Derived.OpenShut
import Derived.ProofKit
import Derived.Lib.Join
import Derived.Lib.SlFresh
import Derived.Lib.SlParts
import Derived.Lib.Bytealg
import Derived.Lib.AtoiAll
import Derived.Lib.LaidTab
import Derived.Lib.Itoa
import Derived.Lib.ItoaLen
import Derived.Lib.Repeat
import Derived.Lib.AppendIntMem
import Derived.Sort.Grow
import Derived.Lib.TrimByte
import Derived.Lib.Strings
import Derived.Lib.ConvBytes
import Derived.Lib.AtoiAllMem
import Derived.MapKept
import Derived.Lib.LaidU8
import Derived.Deep.DeepHandedRow
import Derived.Deep.DeepWitnessRowRef
import Derived.IntWalk
import Derived.Lib.LaidIn
set_option linter.unusedVariables false
set_option linter.unusedSimpArgs false
namespace Go.AM
open Go.RowKit Go.WideShapes Go.ChangeShapes
def reach : Nat := 140737488351232
mutual
def WfD : (τ : Ty) → τ.den → Prop
  | .u8, _ => True
  | .int k, n => k.min ≤ n ∧ n ≤ k.max
  | .bool, _ => True
  | .str, s => s.length ≤ reach
  | .sl e, l => l.length ≤ reach ∧ ∀ x ∈ l, WfD e x
  | .agg ts, x => WfL ts x
def WfL : (ts : List Ty) → denL ts → Prop
  | [], _ => True
  | [t], x => WfD t x
  | t :: u :: us, (x, y) => WfD t x ∧ WfL (u :: us) y
end
def consD : (t : Ty) → (ts : List Ty) → t.den → denL ts → denL (t :: ts)
  | _, [], x, _ => x
  | _, _ :: _, x, y => (x, y)
theorem rep_consD {w : World} {D : Nat → Nat → Prop} {t : Ty} {ts : List Ty} {x : t.den} {y : denL ts} {v1 v2 : List Value} (h : RepC w D t x v1) (k : RepCL w D ts y v2) : RepCL w D (t :: ts) (consD t ts x y) (v1 ++ v2) := by
  cases ts with
  | nil =>
    simp only [RepCL] at k
    subst k
    simpa [RepCL, consD] using h
  | cons u us => exact ⟨v1, v2, rfl, h, k⟩
theorem wf_consD {t : Ty} {ts : List Ty} {x : t.den} {y : denL ts} (h : WfD t x) (k : WfL ts y) : WfL (t :: ts) (consD t ts x y) := by
  cases ts with
  | nil => simpa [WfL, consD] using h
  | cons u us => exact ⟨h, k⟩
mutual
def tyIs (P : Program) : Nat → TypeId → Ty → Bool
  | 0, _, _ => false
  | n + 1, t, τ => match τ, P.underlying t with
    | .u8, some (.int .u8) => true
    | .int k, some (.int k') => decide (k = k') && decide (k ≠ .u8)
    | .bool, some .bool => true
    | .str, some .string => true
    | .sl e, some (.slice e') => tyIs P n e' e && Nat.beq (P.cellsOf e') e.size && decide (0 < P.bytesOf e') && decide (0 < e.size)
    | .agg ts, some (.struct fs) => tysIs P n fs.toList ts 0 && Nat.beq (P.cellsOf t) (sizeL ts)
    | .agg ts, some (.array k e) => Nat.beq (P.cellsOf t) (sizeL ts) && Nat.beq ts.length k && elsIs P n e ts
    | _, _ => false
def tysIs (P : Program) : Nat → List Field → List Ty → Nat → Bool
  | _, [], [], _ => true
  | n, f :: fs, t :: ts, off => tyIs P n f.type t && Nat.beq f.offset off && Nat.beq (P.cellsOf f.type) t.size && tysIs P n fs ts (off + t.size)
  | _, _, _, _ => false
def elsIs (P : Program) : Nat → TypeId → List Ty → Bool
  | _, _, [] => true
  | n, e, t :: ts => tyIs P n e t && Nat.beq (P.cellsOf e) t.size && elsIs P n e ts
end
def AllD (w : World) : Nat → Nat → Prop := fun b o => ∃ u, w.cell? ⟨b, o, none⟩ = some u
section
variable {P : Program} {w : World} {H : Type} {enc : TypeId × Value → H}
def ReadOK (P : Program) (w : World) (enc : TypeId × Value → H) (t : TypeId) (τ : Ty) : Prop :=
  ∀ (fuel : Nat) (cs : List Value) (d : DataW H) (ps : List MemPlace), DataW.trod enc P w 0 (fun _ => true) true fuel t cs = some (d, ps) → (∀ m ∈ d.weights P t, m ≤ reachBytes) →
    ∃ x : τ.den, RepC w (AllD w) τ x cs ∧ WfD τ x
theorem weights_all {e : TypeId} : ∀ {l : List (DataW H)} {d : DataW H}, d ∈ l → ∀ m ∈ d.weights P e, m ∈ DataW.weightsAll P e l
  | a :: l, d, h, m, hm => by
    simp only [DataW.weightsAll, List.mem_append]
    rcases List.mem_cons.1 h with rfl | h
    · exact .inl hm
    · exact .inr (weights_all h m hm)
  | [], d, h, _, _ => by simp at h
theorem size_of {τ : Ty} {x : τ.den} {D : Nat → Nat → Prop} {vs : List Value} (h : RepC w D τ x vs) (hs : vs.length = τ.size) : True := trivial
theorem rows_of {τ : Ty} {e : TypeId} (hel : ReadOK P w enc e τ) (hc : P.cellsOf e = τ.size) {a : Addr} {n : Nat} {elems : List (DataW H × List MemPlace)}
    (hw : ∀ y ∈ elems, ∀ m ∈ y.1.weights P e, m ≤ reachBytes) (hr : ∀ i, i < elems.length → (w.cells? 0 (a.add (i * P.cellsOf e)) (P.cellsOf e)).bind (DataW.trod enc P w 0 (fun _ => true) true n e) = elems[i]?) :
    ∀ k, k ≤ elems.length → ∃ (l : List τ.den) (us : List Value), l.length = k ∧ RowOf (fun x us => RepC w (AllD w) τ x us) l us ∧ us.length = k * τ.size ∧ (∀ (j : Nat) (u : Value), us[j]? = some u → w.cell? (a.add j) = some u) ∧ ∀ x ∈ l, WfD τ x
  | 0, _ => ⟨[], [], rfl, rfl, by simp, fun j u h => by simp at h, fun x h => by simp at h⟩
  | k + 1, hk => by
    obtain ⟨l, us, hl, hrow, hul, hcell, hwf⟩ := rows_of hel hc hw hr k (by omega)
    have hk' : k < elems.length := by omega
    have h1 := hr k hk'
    rw [List.getElem?_eq_getElem hk', Option.bind_eq_some_iff] at h1
    obtain ⟨cs, hcs, htr⟩ := h1
    obtain ⟨_, hlen, hget⟩ := World.cells?_some hcs
    obtain ⟨x, hx, hxw⟩ := hel n cs _ _ htr (hw _ (List.getElem_mem hk'))
    refine ⟨l ++ [x], us ++ cs, by simp [hl], RowOf.append hrow ⟨cs, [], by simp, hx, rfl⟩, by rw [List.length_append, hul, hlen, hc, Nat.add_mul]; omega, ?_, ?_⟩
    · intro j u hj
      by_cases hlt : j < us.length
      · rw [List.getElem?_append_left hlt] at hj
        exact hcell j u hj
      · rw [List.getElem?_append_right (by omega)] at hj
        have hj2 : j - us.length < P.cellsOf e := by
          have := (List.getElem?_eq_some_iff.1 hj).1
          omega
        have := hget (j - us.length) hj2
        rw [hj, Addr.add_add, hc, ← hul, show us.length + (j - us.length) = j from by omega] at this
        exact this
    · intro y hy
      rcases List.mem_append.1 hy with h | h
      · exact hwf y h
      · rw [List.mem_singleton.1 h]; exact hxw
theorem fields_of {n : Nat} {cs : List Value} (hel : ∀ t τ, tyIs P n t τ = true → ReadOK P w enc t τ) (m : Nat) (f0 : List Field) :
    ∀ (fs : List Field) (ts : List Ty) (off : Nat), tysIs P n fs ts off = true → cs.length = off + sizeL ts → ∀ (xs : List (DataW H × List MemPlace)), xs.length = fs.length → (∀ (i : Nat) (f : Field), fs[i]? = some f → DataW.trod enc P w 0 (fun _ => true) true m f.type ((cs.drop f.offset).take (P.cellsOf f.type)) = xs[i]?) →
      (∀ q ∈ DataW.weightsEach P (fs.map (·.type)) (xs.map (·.1)), q ≤ reachBytes) → ∃ x : denL ts, RepCL w (AllD w) ts x (cs.drop off) ∧ WfL ts x
  | [], [], off, _, hl, xs, _, _, _ => ⟨(), by simp [RepCL]; simp [sizeL] at hl; omega, trivial⟩
  | f :: fs, t :: ts, off, h, hl, xs, hxl, hx, hw => by
    simp only [tysIs, Bool.and_eq_true, nbeq] at h
    obtain ⟨⟨⟨h1, h2⟩, h3⟩, h4⟩ := h
    match xs, hxl with
    | y :: ys, hxl =>
      have e0 := hx 0 f rfl
      simp only [List.getElem?_cons_zero] at e0
      simp only [List.map_cons, DataW.weightsEach, List.mem_append] at hw
      obtain ⟨x, hxr, hxw⟩ := hel f.type t h1 m _ _ _ e0 (fun q hq => hw q (.inl hq))
      obtain ⟨z, hzr, hzw⟩ := fields_of (cs := cs) hel m f0 fs ts (off + t.size) h4 (by simp only [sizeL] at hl; omega) ys (by simpa using hxl) (fun i g hg => by simpa using hx (i + 1) g (by simpa using hg)) (fun q hq => hw q (.inr hq))
      refine ⟨consD t ts x z, ?_, wf_consD hxw hzw⟩
      have := rep_consD hxr hzr
      rw [h2, h3] at this
      have e : cs.drop off = (cs.drop off).take t.size ++ cs.drop (off + t.size) := by
        rw [← List.drop_drop, List.take_append_drop]
      rw [e]
      exact this
  | [], _ :: _, _, h, _, _, _, _, _ => by simp [tysIs] at h
  | _ :: _, [], _, h, _, _, _, _, _ => by simp [tysIs] at h
theorem elems_of {n : Nat} {cs : List Value} (hel : ∀ t τ, tyIs P n t τ = true → ReadOK P w enc t τ) (m : Nat) (e : TypeId) :
    ∀ (ts : List Ty) (off : Nat), elsIs P n e ts = true → cs.length = off * P.cellsOf e + sizeL ts → ∀ (xs : List (DataW H × List MemPlace)), xs.length = ts.length → (∀ (i : Nat), i < xs.length → DataW.trod enc P w 0 (fun _ => true) true m e ((cs.drop ((off + i) * P.cellsOf e)).take (P.cellsOf e)) = xs[i]?) →
      (∀ q ∈ DataW.weightsAll P e (xs.map (·.1)), q ≤ reachBytes) → ∃ x : denL ts, RepCL w (AllD w) ts x (cs.drop (off * P.cellsOf e)) ∧ WfL ts x
  | [], off, _, hl, xs, _, _, _ => ⟨(), by simp [RepCL]; simp [sizeL] at hl; omega, trivial⟩
  | t :: ts, off, h, hl, xs, hxl, hx, hw => by
    simp only [elsIs, Bool.and_eq_true, nbeq] at h
    obtain ⟨⟨h1, h3⟩, h4⟩ := h
    match xs, hxl with
    | y :: ys, hxl =>
      have e0 := hx 0 (by simp)
      simp only [List.getElem?_cons_zero, Nat.add_zero] at e0
      simp only [List.map_cons, DataW.weightsAll, List.mem_append] at hw
      obtain ⟨x, hxr, hxw⟩ := hel e t h1 m _ _ _ e0 (fun q hq => hw q (.inl hq))
      obtain ⟨z, hzr, hzw⟩ := elems_of (cs := cs) hel m e ts (off + 1) h4 (by simp only [sizeL] at hl; rw [Nat.add_mul]; omega) ys (by simpa using hxl) (fun i hi => by
        have := hx (i + 1) (by simpa using hi)
        rw [show off + 1 + i = off + (i + 1) from by omega]
        simpa using this) (fun q hq => hw q (.inr hq))
      refine ⟨consD t ts x z, ?_, wf_consD hxw hzw⟩
      have := rep_consD hxr hzr
      have e2 : cs.drop (off * P.cellsOf e) = (cs.drop (off * P.cellsOf e)).take (P.cellsOf e) ++ cs.drop ((off + 1) * P.cellsOf e) := by
        rw [Nat.add_mul, Nat.one_mul, ← List.drop_drop, List.take_append_drop]
      rw [e2]
      exact this
theorem trod_rep : ∀ (n : Nat) (t : TypeId) (τ : Ty), tyIs P n t τ = true → ReadOK P w enc t τ
  | 0, t, τ, h => by simp [tyIs] at h
  | n + 1, t, τ, h => by
    intro fuel cs d ps htr hw
    unfold tyIs at h
    split at h
    · rename_i hu
      obtain ⟨q, rfl, _, hq⟩ := DataW.trod_int hu htr
      simp [Lit.wf, IntKind.min, IntKind.max, IntKind.bits, IntKind.signed] at hq
      refine ⟨UInt8.ofNat q.toNat, ?_, trivial⟩
      simp only [RepC]
      have e1 : (UInt8.ofNat q.toNat).toNat = q.toNat := by simp [UInt8.toNat_ofNat']; omega
      rw [e1]
      simp
      omega
    · rename_i k k' hu
      simp only [Bool.and_eq_true, decide_eq_true_eq] at h
      obtain ⟨rfl, hk⟩ := h
      obtain ⟨q, rfl, _, hq⟩ := DataW.trod_int hu htr
      refine ⟨(q : Int), ?_, ?_⟩
      · simp only [RepC]
        exact ⟨fun e => absurd e hk, by simp⟩
      · simp only [WfD]
        simpa [Lit.wf] using hq
    · rename_i hu
      obtain ⟨q, rfl, _⟩ := DataW.trod_bool hu htr
      exact ⟨(q : Bool), by simp [RepC], trivial⟩
    · rename_i hu
      obtain ⟨s, rfl, hx, h3⟩ := DataW.trod_string hu htr
      simp only [Prod.mk.injEq] at hx
      obtain ⟨rfl, _⟩ := hx
      simp [DataW.weights, reachBytes] at hw
      exact ⟨(s.data.toList : List UInt8), ⟨by simp [strMax]; omega, s, rfl, rfl⟩, by simp [WfD, reach]; omega⟩
    · rename_i e e' hu
      simp only [Bool.and_eq_true, nbeq, decide_eq_true_eq] at h
      obtain ⟨⟨⟨h1, h2⟩, h3⟩, hsz⟩ := h
      rcases DataW.trod_slice hu htr with ⟨rfl, hx⟩ | ⟨a, len, cap, elems, rest, n', _, rfl, hx, hb, hl, hm, hlen, hel, hsp, hns⟩
      · exact ⟨[], ⟨by simp, none, 0, [], rfl, by simp, rfl, fun h => by simp at h⟩, by simp [WfD]⟩
      · simp only [Prod.mk.injEq] at hx
        obtain ⟨rfl, _⟩ := hx
        simp only [DataW.weights, hu, List.mem_cons, List.mem_append] at hw
        have hbig := hw _ (.inl rfl)
        have hlen2 : len ≤ reachBytes := by
          have : elems.length ≤ (elems.map (·.1)).length + (rest.map (·.1)).length := by simp
          have h5 : elems.length * 1 ≤ ((elems.map (·.1)).length + (rest.map (·.1)).length) * P.bytesOf e' := Nat.mul_le_mul this h3
          omega
        obtain ⟨l, us, q1, q2, q3, q4, q5⟩ := rows_of (trod_rep n e' e h1) h2 (a := a) (n := n') (elems := elems) (fun y hy m hm => hw m (.inr (.inl (weights_all (List.mem_map.2 ⟨y, hy, rfl⟩) m hm)))) (fun i hi => hel i (by omega)) elems.length (Nat.le_refl _)
        refine ⟨l, ⟨by simp [strMax, reachBytes] at hlen2 ⊢; omega, some a, cap, us, by rw [q1, hlen], by omega, q2, fun h0 => ?_⟩, ⟨by rw [q1, hlen]; exact hlen2, q5⟩⟩
        rcases a with ⟨b, o, sp⟩
        cases sp with
        | none =>
          refine ⟨b, o, rfl, fun j u hj => ?_⟩
          have := q4 j u hj
          rw [addp] at this
          exact ⟨⟨u, this⟩, this⟩
        | some sp =>
          exfalso
          have hpos : 0 < us.length := by rw [q3]; exact Nat.mul_pos (by omega) hsz
          have := q4 0 us[0] (by simp)
          unfold Addr.add World.cell? at this
          simp at this
          split at this <;> simp_all
    · rename_i ts fs hu
      simp only [Bool.and_eq_true, nbeq] at h
      obtain ⟨xs, m, _, hx, hl, hxl, hf⟩ := DataW.trod_struct hu htr
      simp only [Prod.mk.injEq] at hx
      obtain ⟨rfl, _⟩ := hx
      simp only [DataW.weights, hu] at hw
      have := fields_of (cs := cs) (trod_rep n) m [] fs.toList ts 0 h.1 (by omega) xs (by simpa using hxl) (fun i f hi => hf i f (by simpa using hi)) hw
      simpa [RepC, WfD] using this
    · rename_i ts k e hu
      simp only [Bool.and_eq_true, nbeq] at h
      obtain ⟨xs, m, _, hx, hl, hxl, hf⟩ := DataW.trod_array hu htr
      simp only [Prod.mk.injEq] at hx
      obtain ⟨rfl, _⟩ := hx
      simp only [DataW.weights, hu] at hw
      have := elems_of (cs := cs) (trod_rep n) m e ts 0 h.2 (by omega) xs (by omega) (fun i hi => by simpa using hf i (by omega)) hw
      simpa [RepC, WfD] using this
    · cases h
end
end Go.AM
set_option linter.unusedVariables false
set_option linter.unusedSimpArgs false
namespace Go.AM
open Go.RowKit Go.WideShapes Go.ChangeShapes Go.ChangeAt
section
variable {H : Type} {enc : TypeId × Value → H} {P : Program}
theorem post_of_below {f : Func} {s : ChangeSpec} {apart fresh handsOn again : Bool} {W W' : World} {args : Array Value} {v : Value} {ds gs : List (DataW H)} {before pa pv : List MemPlace}
    (hW : DataW.Whole enc P f.params.toList s.vars apart W args.toList ds gs before)
    (hres : ∀ (b : Nat) (sp : Nat → Bool) (hd : Bool), DataW.TrodAll enc P W' b sp hd f.resultTypes.toList (v.resultList f.resultTypes.size) (s.fn H (ds ++ gs)).results [])
    (hargs : ∀ sp : Nat → Bool, (∀ p ∈ before, sp p.block = true) → DataW.TrodAll enc P W' 0 sp true f.params.toList args.toList (s.fn H (ds ++ gs)).args pa)
    (hvars : ∀ sp : Nat → Bool, (∀ p ∈ before, sp p.block = true) → DataW.TrodVars enc P W' sp s.vars (s.fn H (ds ++ gs)).vars pv)
    (hps : before = pa ++ pv) (hb : Below W.heap.size W W')
    (hok : ∀ (j : Nat) (t : TypeId) (r : Value), f.resultTypes[j]? = some t → (v.resultList f.resultTypes.size)[j]? = some r → Value.okWide P W' .any 0 t r) :
    s.post enc P f apart fresh handsOn again W args v W' := by
  have hlt : ∀ p ∈ before, p.block < W.heap.size := fun p hp => hW.lt p hp
  have hold : ∀ p ∈ before, (fun b => decide (b < W.heap.size)) p.block = true := fun p hp => by simpa using hlt p hp
  refine ⟨ds, gs, before, [], pa, pv, hW, hres _ _ _, hargs _ hold, hvars _ hold, World.keptBut_mono (fun p hp => ⟨hp, ?_⟩) (hb.frame (· ∈ before)), fun _ => ?_⟩
  · rw [hps, List.mem_append] at hp
    exact Or.inr hp
  · obtain ⟨_, _, _, _, _, hz, hn⟩ := hW
    refine ⟨hok, _, _, ([] ++ pa) ++ pv, ⟨[] ++ pa, pv, trodAll_append (hargs _ (fun _ _ => rfl)) (hres _ _ _), hvars _ (fun _ _ => rfl), rfl, ?_, ?_⟩, ?_⟩
    · intro b off hp
      have hin : MemPlace.cell b off ∈ before := by rw [hps]; simpa using hp
      rw [hb.frozen (hlt _ hin)]
      exact hz b off hin
    · intro ha
      have := hn ha
      rw [hps] at this
      simpa using this
    · intro p hp _
      rw [hps]
      simpa using hp
theorem rep_arg {W : World} {n base : Nat} {t : TypeId} {τ : Ty} {v : Value} (ht : tyIs P (n + 1) t τ = true) (hval : Value.okWide P W .any base t v) {D : Nat → Nat → Prop} {x : τ.den} (hx : RepC W D τ x v.cells.toList) :
    RepV W ⟨D, [], [], [], [], bv0⟩ v (toAV τ x) := by
  have hc : RepL W ⟨D, [], [], [], [], bv0⟩ v.cells.toList (τ.cells x) := repC_cells τ x _ hx
  have one : ∀ {a : AV} {u : Value}, v.cells = #[u] → v = u → τ.cells x = [a] → RepV W ⟨D, [], [], [], [], bv0⟩ v a := by
    intro a u h1 h2 h3
    rw [h1, h3] at hc
    subst h2
    exact hc.2 0 v a rfl rfl
  unfold tyIs at ht
  split at ht
  · rename_i hu
    obtain ⟨q, rfl⟩ := okWide_int hu hval
    exact one rfl rfl rfl
  · rename_i k k' hu
    obtain ⟨q, rfl⟩ := okWide_int hu hval
    exact one rfl rfl rfl
  · rename_i hu
    obtain ⟨q, rfl⟩ := okWide_bool hu hval
    exact one rfl rfl rfl
  · rename_i hu
    obtain ⟨q, rfl⟩ := okWide_string hu hval
    exact one rfl rfl rfl
  · rename_i e e' hu
    obtain ⟨a, len, cap, rfl⟩ := okWide_slice hu hval
    exact one rfl rfl rfl
  · rename_i ts fs hu
    obtain ⟨cs, rfl, _⟩ := okWide_struct hu hval
    refine .agg cs _ (by simpa [Value.cells, Ty.cells] using hc.1) fun i v c hv hc' => ?_
    exact hc.2 i v c (by simpa [Value.cells] using hv) hc'
  · rename_i ts k e hu
    unfold Value.okWide at hval
    rw [hu] at hval
    obtain ⟨cs, rfl, _⟩ := hval
    refine .agg cs _ (by simpa [Value.cells, Ty.cells] using hc.1) fun i v c hv hc' => ?_
    exact hc.2 i v c (by simpa [Value.cells] using hv) hc'
  · cases ht
@[reducible] def denP : List Ty → Type
  | [] => Unit
  | t :: ts => t.den × denP ts
def WfP : (ts : List Ty) → denP ts → Prop
  | [], _ => True
  | t :: ts, x => WfD t x.1 ∧ WfP ts x.2
def toAVs : (ts : List Ty) → denP ts → List AV
  | [], _ => []
  | t :: ts, x => toAV t x.1 :: toAVs ts x.2
def tysOK (P : Program) (n : Nat) : List TypeId → List Ty → Bool
  | [], [] => true
  | t :: ts, τ :: τs => tyIs P (n + 1) t τ && P.readableRec t && Nat.blt t P.types.size && tysOK P n ts τs
  | _, _ => false
theorem args_rep {W : World} {n base : Nat} : ∀ {ts : List TypeId} {τs : List Ty} {vs : List Value} {ds : List (DataW H)} {ps : List MemPlace}, tysOK P n ts τs = true → DataW.TrodAll enc P W 0 (fun _ => true) true ts vs ds ps →
    (∀ (j : Nat) t v, ts[j]? = some t → vs[j]? = some v → Value.okWide P W .any base t v) → (∀ m ∈ DataW.weightsEach P ts ds, m ≤ reachBytes) → ∃ x : denP τs, RepL W ⟨AllD W, [], [], [], [], bv0⟩ vs (toAVs τs x) ∧ WfP τs x
  | [], [], vs, ds, ps, _, h, _, _ => by
    obtain ⟨rfl, rfl, rfl⟩ := trodAll_nil h
    exact ⟨(), .nil, trivial⟩
  | t :: ts, τ :: τs, vs, ds, ps, hty, h, hval, hw => by
    obtain ⟨v, vs', d, ds', p, q, rfl, rfl, rfl, h1, h2⟩ := trodAll_cons h
    simp only [tysOK, Bool.and_eq_true] at hty
    simp only [DataW.weightsEach, List.mem_append] at hw
    obtain ⟨fuel, htr⟩ := h1
    obtain ⟨x, hx, hxw⟩ := trod_rep (n + 1) t τ hty.1.1.1 fuel _ _ _ htr (fun m hm => hw m (.inl hm))
    obtain ⟨y, hy, hyw⟩ := args_rep (n := n) (base := base) hty.2 h2 (fun j t v a b => hval (j + 1) t v a b) (fun m hm => hw m (.inr hm))
    exact ⟨(x, y), .cons (rep_arg hty.1.1.1 (hval 0 t v rfl rfl) hx) hy, hxw, hyw⟩
  | [], _ :: _, _, _, _, h, _, _, _ => by simp [tysOK] at h
  | _ :: _, [], _, _, _, h, _, _, _ => by simp [tysOK] at h
theorem args_stay {W W' : World} {n : Nat} (hl : laidOutB P = true) {sp : Nat → Bool} : ∀ {ts : List TypeId} {τs : List Ty} {vs : List Value} {ds : List (DataW H)} {ps : List MemPlace}, tysOK P n ts τs = true → DataW.TrodAll enc P W 0 (fun _ => true) true ts vs ds ps →
    (∀ p ∈ ps, W.sameAt W' p) → (∀ p ∈ ps, sp p.block = true) → DataW.TrodAll enc P W' 0 sp true ts vs ds ps
  | [], [], vs, ds, ps, _, h, _, _ => by
    obtain ⟨rfl, rfl, rfl⟩ := trodAll_nil h
    exact trodAll_mk0
  | t :: ts, τ :: τs, vs, ds, ps, hty, h, hs, hsp => by
    obtain ⟨v, vs', d, ds', p, q, rfl, rfl, rfl, h1, h2⟩ := trodAll_cons h
    simp only [tysOK, Bool.and_eq_true, nblt] at hty
    exact ⟨p, q, WideElems.Trod_stays hl hty.1.1.2 hty.1.2 h1 (fun x hx => hs x (List.mem_append_left _ hx)) (fun x hx => hsp x (List.mem_append_left _ hx)),
      args_stay hl hty.2 h2 (fun x hx => hs x (List.mem_append_right _ hx)) (fun x hx => hsp x (List.mem_append_right _ hx)), rfl⟩
  | [], _ :: _, _, _, _, h, _, _, _ => by simp [tysOK] at h
  | _ :: _, [], _, _, _, h, _, _, _ => by simp [tysOK] at h
def LawGoes (P : Program) (I : World → Prop) (g : Nat) (τs : List Ty) : Prop :=
  ∀ (x : denP τs), WfP τs x → ∀ (w : World) (vals : Array Value), I w → RepL w ⟨AllD w, [], [], [], [], bv0⟩ vals.toList (toAVs τs x) → Goes P g vals w (OrcPost (AllD w) w (.bool true))
theorem law_calls {fn : Func} {g n : Nat} {τs : List Ty} {b : TypeId} {s : ChangeSpec} {I : World → Prop} (hl : laidOutB P = true) (hfn : P.funcs[g]? = some fn) (hbody : fn.body.isSome = true) (hname : fn.name ≠ "runtime.NumGoroutine")
    (hty : tysOK P n fn.params.toList τs = true) (hres : fn.resultTypes = #[b]) (hb : P.underlying b = some .bool) (hvars : s.vars = [])
    (hspec : ∀ ds : List (DataW H), ds.length = τs.length → s.fn H ds = { results := [.lit (.bool true)], args := ds }) (hgo : LawGoes P I g τs)
    {W : World} {base : Nat} {args : Array Value} {ds gs : List (DataW H)} {before : List MemPlace} {apart fresh handsOn again : Bool}
    (hval : ∀ (j : Nat) t v, fn.params[j]? = some t → args[j]? = some v → Value.okWide P W .any base t v)
    (hW : DataW.Whole enc P fn.params.toList s.vars apart W args.toList ds gs before)
    (hw : (DataW.weightsEach P (fn.params.toList ++ s.plain.varTypes P) (ds ++ gs)).all (· ≤ reachBytes) = true) (hI : I W) :
    Calls P g args W fun e W' => ∃ v, e = .returned v ∧ s.post enc P fn apart fresh handsOn again W args v W' := by
  have hW' := hW
  obtain ⟨p, q, hA, hV, rfl, hfz, hnd⟩ := hW
  rw [hvars] at hV
  obtain ⟨rfl, rfl⟩ := trodVars_none hV
  have hpl : s.plain.varTypes P = [] := by
    simp [ChangeSpec.plain, hvars, DataSpec.varTypes]
  rw [hpl] at hw
  simp only [List.append_nil, List.all_eq_true, decide_eq_true_eq] at hw
  obtain ⟨x, hx, hxw⟩ := args_rep (n := n) (base := base) hty hA (fun j t v a b => hval j t v (by simpa using a) (by simpa using b)) hw
  have hlen : ds.length = τs.length := by
    have : ∀ {ts : List TypeId} {τs : List Ty} {vs : List Value} {ds : List (DataW H)} {ps : List MemPlace}, tysOK P n ts τs = true → DataW.TrodAll enc P W 0 (fun _ => true) true ts vs ds ps → ds.length = τs.length := by
      intro ts
      induction ts with
      | nil =>
        intro τs vs ds ps h1 h2
        cases τs with
        | nil => obtain ⟨_, rfl, _⟩ := trodAll_nil h2; rfl
        | cons _ _ => simp [tysOK] at h1
      | cons t ts ih =>
        intro τs vs ds ps h1 h2
        cases τs with
        | nil => simp [tysOK] at h1
        | cons τ τs =>
          obtain ⟨v, vs', d, ds', p, q, rfl, rfl, rfl, _, h4⟩ := trodAll_cons h2
          simp only [tysOK, Bool.and_eq_true] at h1
          simp [ih h1.2 h4]
    exact this hty hA
  have hcf : (callFunc g args).run P W = .ok (.enter g args) W := by
    cases hb' : fn.body with
    | none => rw [hb'] at hbody; cases hbody
    | some c => simp [callFunc, run_program, hfn, hb', hname]
  have hC : CallsIn Fence.wide 0 P g args W (fun | .returned v, w' => OrcPost (AllD W) W (.bool true) v w' | _, _ => False) := by
    rcases hgo x hxw W args hI hx with ⟨_, h⟩ | ⟨v, w', h, _⟩
    · exact h
    · rw [hcf] at h; cases h
  refine (callsIn_wide.1 hC).mono fun e W' hR => ?_
  cases e with
  | panicked ch => exact hR.elim
  | outgrown => exact hR.elim
  | returned v =>
    obtain ⟨G', _, _, hst, hv⟩ := hR
    simp only [mat] at hv
    obtain rfl := rep_bool hv
    have hbel := hst.below
    simp only [List.append_nil] at hW' ⊢
    have hsd := hspec ds hlen
    refine ⟨_, rfl, post_of_below (pa := p) (pv := []) hW' (fun _ _ _ => ?_) (fun sp hsp => ?_) (fun sp hsp => ?_) (by simp) hbel (ok_one hres rfl (okWide_bool_mk hb _))⟩
    · simp only [List.append_nil]
      rw [hres, hsd]
      exact trodAll_cons_mk (shut_bool hb _) trodAll_mk0
    · simp only [List.append_nil]
      rw [hsd]
      exact args_stay hl hty hA (fun y hy => hbel.same (hW'.lt y hy)) hsp
    · simp only [List.append_nil]
      rw [hsd, hvars]
      exact rfl
end
end Go.AM
set_option linter.unusedVariables false
set_option linter.unusedSimpArgs false
namespace Go.AM
open Go.RowKit
universe u
def lkp {α : Type u} : List (Nat × α) → Nat → Option α
  | [], _ => none
  | (k, a) :: l, g => bif Nat.beq k g then some a else lkp l g
def lkp2 {α : Type u} (e : α) : List (Nat × Nat × α) → Nat → Nat → α
  | [], _, _ => e
  | (k, j, a) :: l, g, i => bif Nat.beq k g && Nat.beq j i then a else lkp2 e l g i
theorem lkp_mem {α : Type u} {a : α} : ∀ {l : List (Nat × α)} {g : Nat}, lkp l g = some a → (g, a) ∈ l
  | [], g, h => by cases h
  | (k, b) :: l, g, h => by
    simp only [lkp] at h
    cases hb : Nat.beq k g with
    | true =>
      rw [hb] at h
      obtain rfl := nbeq.1 hb
      obtain rfl := Option.some.inj h
      exact List.mem_cons_self
    | false => rw [hb] at h; exact List.mem_cons_of_mem _ (lkp_mem h)
theorem lkp2_mem {α : Type u} {e a : α} : ∀ {l : List (Nat × Nat × α)} {g i : Nat}, lkp2 e l g i = a → a = e ∨ (g, i, a) ∈ l
  | [], g, i, h => .inl h.symm
  | (k, j, b) :: l, g, i, h => by
    simp only [lkp2] at h
    cases hb : (Nat.beq k g && Nat.beq j i) with
    | true =>
      rw [hb] at h
      simp only [Bool.and_eq_true, nbeq] at hb
      obtain ⟨rfl, rfl⟩ := hb
      obtain rfl : b = a := h
      exact .inr List.mem_cons_self
    | false =>
      rw [hb] at h
      rcases lkp2_mem h with h | h
      · exact .inl h
      · exact .inr (List.mem_cons_of_mem _ h)
def AllT {α : Type u} (p : α → Prop) : List α → Prop
  | [] => True
  | a :: l => p a ∧ AllT p l
theorem allT {α : Type u} {p : α → Prop} : ∀ {l : List α}, AllT p l → ∀ x ∈ l, p x
  | [], _, x, h => by simp at h
  | a :: l, hp, x, h => by
    rcases List.mem_cons.1 h with rfl | h
    · exact hp.1
    · exact allT hp.2 x h
noncomputable def mkCx {X : Type} (tab : Nat → Option TI) (fns : List (Nat × Func)) (C : List (Nat × (List AV → Option Entry))) (loops : List (Nat × Nat × List (LoopI X))) (rfs : List (Nat × Nat × Func × List Nat × Nat))
    (conf : List (Nat × Nat × List (Nat × Nat))) (unroll : List (Nat × Nat × Nat)) (cuts : List (Nat × Nat × List (CutI X)) := []) (rows : List (Nat × Ty) := []) : Cx X :=
  { tab := tab, fns := lkp fns, C := lkp C, loops := lkp2 [] loops, unroll := lkp2 0 unroll, cuts := lkp2 [] cuts, conf := lkp2 [] conf, rows := lkp rows,
    rfs := fun g i => match lkp2 none (rfs.map fun q => (q.1, q.2.1, some q.2.2)) g i with
      | some (f, lv, k) => some (f.ntmps, lv, rfNo f k)
      | none => none }
theorem okC_mk {X : Type} {cx : Cx X} {g N : Nat} {c : Code} (hcut : ∀ i, cx.cuts g i = []) (hd : (drawsIn c).all (fun q : Nat × Array Oper => drawOK cx.tab q.2 (cx.conf g q.1) (masks q.2.toList [])) = true)
    (hl : AllL (fun b => AllT (LoopOK cx g N b) (loopsAt cx g b)) (loopsIn c)) (hr : AllL (fun q : Option Nat × List Nat × Code × Code => ∀ i, q.1 = some i → ∃ lv, cx.rfs g i = some (N, lv, q.2)) (rfsIn c)) : okC cx g N c := by
  refine okC_of c (fun q hq => List.all_eq_true.1 hd q hq) (fun b hb => allT (allL hl b hb)) (fun b hb ci hci => ?_) (fun q hq => allL hr q hq)
  unfold cutsAt at hci
  split at hci
  · rw [hcut] at hci; cases hci
  · cases hci
theorem okC_mkc {X : Type} {cx : Cx X} {g N : Nat} {c : Code} (hk : AllL (fun b => AllT (CutOK cx g N b) (cutsAt cx g b)) (cutsIn c)) (hd : (drawsIn c).all (fun q : Nat × Array Oper => drawOK cx.tab q.2 (cx.conf g q.1) (masks q.2.toList [])) = true)
    (hl : AllL (fun b => AllT (LoopOK cx g N b) (loopsAt cx g b)) (loopsIn c)) (hr : AllL (fun q : Option Nat × List Nat × Code × Code => ∀ i, q.1 = some i → ∃ lv, cx.rfs g i = some (N, lv, q.2)) (rfsIn c)) : okC cx g N c :=
  okC_of c (fun q hq => List.all_eq_true.1 hd q hq) (fun b hb => allT (allL hl b hb)) (fun b hb => allT (allL hk b hb)) (fun q hq => allL hr q hq)
noncomputable def cutNo (f : Func) (k : Nat) : Code := (nth (cutsIn (f.body.getD .skip)) k).getD .skip
theorem mkCx_ok {X : Type} {P : Program} {W : World → Prop} {tab : Nat → Option TI} {fns : List (Nat × Func)} {C : List (Nat × (List AV → Option Entry))} {loops : List (Nat × Nat × List (LoopI X))} {rfs : List (Nat × Nat × Func × List Nat × Nat)}
    {conf : List (Nat × Nat × List (Nat × Nat))} {unroll : List (Nat × Nat × Nat)} {cuts : List (Nat × Nat × List (CutI X))} {rows : List (Nat × Ty)} (hm : P.follows .mixedOrders = true) (ht : TabOK P tab) (hf : AllT (fun p => P.funcs[p.1]? = some p.2 ∧ p.2.name ≠ "runtime.NumGoroutine") fns)
    (hC : AllT (fun p => OrcOK P W p.1 p.2) C) (hc : AllT (fun p => okC (mkCx tab fns C loops rfs conf unroll cuts rows) p.1 p.2.ntmps (p.2.body.getD .skip)) fns) (hr : AllT (fun q => P.funcs[q.1]? = some q.2.2.1 ∧ lkp fns q.1 = some q.2.2.1) rfs) :
    CxOK P W (mkCx tab fns C loops rfs conf unroll cuts rows) where
  mixed := hm
  tab := ht
  C := fun g orc h => allT hC _ (lkp_mem h)
  fns := fun g fn h => allT hf _ (lkp_mem h)
  code := fun g fn c h hb => by
    have := allT hc _ (lkp_mem h)
    simp only [hb, Option.getD_some] at this
    exact this
  rfs := fun g i N lv ps aS b h => by
    simp only [mkCx] at h
    split at h
    · rename_i f lv' k hk
      rcases lkp2_mem hk with h' | h'
      · cases h'
      · obtain ⟨q, hq, e⟩ := List.mem_map.1 h'
        simp only [Prod.mk.injEq, Option.some.injEq] at e
        obtain ⟨rfl, rfl, e⟩ := e
        have h1 := allT hr q hq
        have h2 := allT hc _ (lkp_mem h1.2)
        have h3 := Option.some.inj h
        simp only [Prod.mk.injEq] at h3
        obtain ⟨rfl, _, h3⟩ := h3
        have h4 := A_rf (f := q.2.2.1) h2 k
        rw [show q.2.2.1 = f from by rw [e]] at h4
        rw [h3] at h4
        exact h4
    · cases h
theorem castP {p q : Prop} (h : p = q) (x : q) : p := h ▸ x
theorem enters {P : Program} {g : Nat} {fn : Func} (h : P.funcs[g]? = some fn) (hb : fn.body.isSome = true) (hn : fn.name ≠ "runtime.NumGoroutine") (vals : Array Value) (w : World) : (callFunc g vals).run P w = .ok (.enter g vals) w := by
  cases hb' : fn.body with
  | none => rw [hb'] at hb; cases hb
  | some c => simp [callFunc, run_program, h, hb', hn]
def Enters (P : Program) (g : Nat) : Prop := ∀ (vals : Array Value) (w : World), (callFunc g vals).run P w = .ok (.enter g vals) w
theorem goes_of {P : Program} {g : Nat} (he : Enters P g) {vals : Array Value} {w : World} {R : Value → World → Prop} (h : Calls P g vals w fun e w' => ∃ v, e = .returned v ∧ R v w') : Goes P g vals w R := by
  refine .inl ⟨he vals w, callsIn_wide.2 (h.mono fun e w' ⟨v, hv, hr⟩ => ?_)⟩
  subst hv
  exact hr
theorem orcPost_of {D D' : Nat → Nat → Prop} {w w' : World} {v : Value} {a : AV} (hm : mat [] a = (a, [])) (hb : Below w.heap.size w w') (hD : ∀ b o, D b o → D' b o) (hc : ∀ b o, D' b o → ∃ u, w'.cell? ⟨b, o, none⟩ = some u)
    (h0 : ∀ b o, D' b o → D b o ∨ w.heap.size ≤ b) (hv : RepV w' ⟨D', [], [], [], [], bv0⟩ v a) : OrcPost D w a v w' := by
  refine ⟨⟨D', [], [], [], [], bv0⟩, rfl, hD, ?_, by rw [hm]; exact hv⟩
  rw [hm]
  exact
  { below := hb
    b0 := hb.size
    bxl := rfl
    box := fun r b cs h1 h2 => by simp at h1
    virt := fun r cs h1 h2 => by simp at h1
    inj := fun r r' b h1 h2 => by simp at h1
    dat := fun b o hbo => ⟨hc b o hbo, by simp⟩
    dat0 := fun b o hbo => h0 b o hbo
    tkl := rfl
    tok := fun t g ht => by simp at ht
    tki := fun t t' g g' h1 h2 => by simp at h1
    lpl := rfl
    loop := fun j p s h1 h2 => by simp at h1
    lpi := fun j j' p p' h1 h2 => by simp at h1
    dfr := fun d hd => by simp at hd
    dfn := by simp }
theorem orcPost_old {D : Nat → Nat → Prop} {w w' : World} {v : Value} {a : AV} (hm : mat [] a = (a, [])) (hb : Below w.heap.size w w') (hc : ∀ b o, D b o → ∃ u, w.cell? ⟨b, o, none⟩ = some u) (hv : RepV w' ⟨D, [], [], [], [], bv0⟩ v a) : OrcPost D w a v w' := by
  refine orcPost_of hm hb (fun _ _ h => h) (fun b o h => ?_) (fun b o h => .inl h) hv
  obtain ⟨u, hu⟩ := hc b o h
  exact ⟨u, by rw [hb.cell (p := ⟨b, o, none⟩) (by
    unfold World.cell? at hu
    simp only at hu
    split at hu
    · rename_i h1
      exact (Array.getElem?_eq_some_iff.1 h1).1
    · cases hu)]; exact hu⟩
theorem cell_lt {w : World} {b o : Nat} {u : Value} (h : w.cell? ⟨b, o, none⟩ = some u) : b < w.heap.size := by
  unfold World.cell? at h
  simp only at h
  split at h
  · rename_i h1
    exact (Array.getElem?_eq_some_iff.1 h1).1
  · cases h
end Go.AM
set_option linter.unusedVariables false
set_option linter.unusedSimpArgs false
namespace Go.AM
open Go.RowKit
def big47 : Nat := 140737488355328
namespace O
def index1 (n : Nat) (s sub : List UInt8) : Option Int := match sub with
  | [c] => some (Lib.indexByte s c)
  | _ => none
def join (n : Nat) (xs : List (List UInt8)) (sep : List UInt8) : Option (List UInt8) := bif Nat.ble xs.length big47 && Nat.ble (Lib.join xs sep).length big47 then some (Lib.join xs sep) else none
def bjoin (n : Nat) (xs : List (List UInt8)) (sep : List UInt8) : Option (List UInt8) := bif Nat.ble xs.length big47 && Nat.ble (Lib.lens xs + sep.length * (xs.length - 1)) big47 && sep.isEmpty then some xs.flatten else none
end O
section
variable {P : Program} {W : World → Prop} {g : Nat}
theorem repl2 {w : World} {G : GS} {vals : Array Value} {a b : AV} (h : RepL w G vals.toList [a, b]) : ∃ u v, vals = #[u, v] ∧ RepV w G u a ∧ RepV w G v b := by
  rcases vals with ⟨l⟩
  match l, h with
  | [u, v], h => exact ⟨u, v, rfl, h.2 0 u a rfl rfl, h.2 1 v b rfl rfl⟩
  | [], h => simp [RepL] at h
  | [_], h => simp [RepL] at h
  | _ :: _ :: _ :: _, h => simp [RepL] at h
theorem repl1 {w : World} {G : GS} {vals : Array Value} {a : AV} (h : RepL w G vals.toList [a]) : ∃ u, vals = #[u] ∧ RepV w G u a := by
  rcases vals with ⟨l⟩
  match l, h with
  | [u], h => exact ⟨u, rfl, h.2 0 u a rfl rfl⟩
  | [], h => simp [RepL] at h
  | _ :: _ :: _, h => simp [RepL] at h
theorem repl3 {w : World} {G : GS} {vals : Array Value} {a b c : AV} (h : RepL w G vals.toList [a, b, c]) : ∃ u v x, vals = #[u, v, x] ∧ RepV w G u a ∧ RepV w G v b ∧ RepV w G x c := by
  rcases vals with ⟨l⟩
  match l, h with
  | [u, v, x], h => exact ⟨u, v, x, rfl, h.2 0 u a rfl rfl, h.2 1 v b rfl rfl, h.2 2 x c rfl rfl⟩
  | [], h => simp [RepL] at h
  | [_], h => simp [RepL] at h
  | [_, _], h => simp [RepL] at h
  | _ :: _ :: _ :: _ :: _, h => simp [RepL] at h
theorem rep_slC {w : World} {G : GS} {v : Value} {τ : Ty} {l : List τ.den} {c : Cap} (h : RepV w G v (.sl τ l c)) : RepC w G.D (.sl τ) l [v] := by cases h with | sl _ _ _ _ h _ => exact h
theorem strs_at {w : World} {D : Nat → Nat → Prop} : ∀ {l : List (List UInt8)} {us : List Value}, RowOf (fun x us => RepC w D .str x us) l us → ∃ xs : List ByteArray, xs.length = l.length ∧ xs.map (·.data.toList) = l ∧ ∀ (j : Nat) x, xs[j]? = some x → us[j]? = some (.string x)
  | [], us, h => ⟨[], rfl, rfl, fun j x h => by simp at h⟩
  | x :: l, us, h => by
    obtain ⟨v1, v2, rfl, h1, h2⟩ := h
    obtain ⟨xs, e1, e2, e3⟩ := strs_at (w := w) (D := D) h2
    simp only [RepC] at h1
    obtain ⟨_, bs, rfl, hb⟩ := h1
    refine ⟨bs :: xs, by simp [e1], by simp [e2, hb], fun j y hj => ?_⟩
    cases j with
    | zero => simp at hj; subst hj; simp
    | succ j => simpa using e3 j y (by simpa using hj)
theorem index1_ok (he : Enters P g) (h : ∀ (s : ByteArray) (c : UInt8) (w : World), Calls P g #[.string s, .string ⟨#[c]⟩] w fun e w' => e = .returned (.int .i64 (Lib.indexByte s.data.toList c)) ∧ w' = w) (n : Nat) :
    FnOK P W g [.str, .str] (.one (.int .i64)) (fun x => O.index1 n x.1 x.2.1) := by
  rintro ⟨s, sub, _⟩ y hy w D vals hw ha hc
  obtain ⟨u, v, rfl, hu, hv⟩ := repl2 ha
  obtain ⟨bs, rfl, hbs, _⟩ := rep_str hu
  obtain ⟨cs, rfl, hcs, _⟩ := rep_str hv
  simp only [O.index1] at hy
  by_cases hsub : ∃ c, sub = [c]
  · obtain ⟨c, rfl⟩ := hsub
    simp only [Option.some.injEq] at hy
    subst hy
    have e : cs = ⟨#[c]⟩ := by
      cases cs with
      | mk a => cases a; simp at hcs; rw [hcs]
    subst e
    refine goes_of he ((h bs c w).mono fun e w' ⟨h1, h2⟩ => ⟨_, h1, ?_⟩)
    subst h2
    have hbs : bs.data.toList = s := hbs
    rw [hbs]
    exact orcPost_old rfl (Below.refl _ _) hc (.int _ _ (by simp))
  · split at hy
    · exact absurd ⟨_, rfl⟩ hsub
    · cases hy
theorem join_ok (he : Enters P g) (h0 : ∀ (a : Option Addr) (c : Nat) (sep : ByteArray) (w : World), Calls P g #[.slice a 0 c, .string sep] w fun e w' => e = .returned (.string ⟨#[]⟩) ∧ w' = w)
    (h : ∀ (bk o c : Nat) (xs : List ByteArray) (sep : ByteArray) (w : World), (∀ (j : Nat) x, xs[j]? = some x → w.cell? ⟨bk, o + j, none⟩ = some (.string x)) → bk < w.heap.size → xs.length ≤ 140737488355328 → xs.length ≤ c →
      (Lib.join (xs.map (·.data.toList)) sep.data.toList).length ≤ 140737488355328 → Calls P g #[.slice (some ⟨bk, o, none⟩) xs.length c, .string sep] w fun e w' => e = .returned (.string ⟨(Lib.join (xs.map (·.data.toList)) sep.data.toList).toArray⟩) ∧ Below w.heap.size w w') (n : Nat) :
    FnOK P W g [.sl .str .unk, .str] (.one .str) (fun x => O.join n x.1 x.2.1) := by
  rintro ⟨l, sep, _⟩ y hy w D vals hw ha hc
  obtain ⟨u, v, rfl, hu, hv⟩ := repl2 ha
  obtain ⟨cs, rfl, hcs, _⟩ := rep_str hv
  have hr := rep_slC hu
  simp only [RepC] at hr
  obtain ⟨hmax, A, c, us, hA, hle, hrow, hcell⟩ := hr
  obtain rfl : u = .slice A l.length c := by simpa using hA
  simp only [O.join] at hy
  obtain ⟨hb, hy⟩ := of_bif hy
  simp only [Bool.and_eq_true, nble, big47] at hb
  simp only [Option.some.injEq] at hy
  obtain ⟨xs, e1, e2, e3⟩ := strs_at (w := w) (D := D) hrow
  by_cases hl : l.length = 0
  · have hl0 := List.eq_nil_of_length_eq_zero hl
    subst hl0
    refine goes_of he ((h0 A c cs w).mono fun e w' ⟨h1, h2⟩ => ⟨_, h1, ?_⟩)
    subst h2
    subst hy
    exact orcPost_old rfl (Below.refl _ _) hc (.str _ _ (by simp [Lib.join]) (by simp [Lib.join]))
  · obtain ⟨b, o, rfl, hcl⟩ := hcell (by omega)
    have hxs : 0 < xs.length := by omega
    have hlt : b < w.heap.size := cell_lt (hcl 0 _ (e3 0 xs[0] (by simp))).2
    have := h b o c xs cs w (fun j x hj => (hcl j _ (e3 j x hj)).2) hlt (by omega) (by omega) (by rw [e2, hcs]; exact hb.2)
    rw [e1, e2, hcs] at this
    refine goes_of he (this.mono fun e w' ⟨h1, h2⟩ => ⟨_, h1, ?_⟩)
    subst hy
    exact orcPost_old rfl h2 hc (.str _ _ (by simp) (by simp only [strMax]; omega))
theorem bytes_at {w : World} {D : Nat → Nat → Prop} : ∀ {l : List UInt8} {us : List Value}, RowOf (fun x us => RepC w D .u8 x us) l us → ∀ (j : Nat) x, l[j]? = some x → us[j]? = some (.int .u8 (x.toNat : Int))
  | [], us, h, j, x, hj => by simp at hj
  | y :: l, us, h, j, x, hj => by
    obtain ⟨v1, v2, rfl, h1, h2⟩ := h
    simp only [RepC] at h1
    subst h1
    cases j with
    | zero => simp at hj; subst hj; simp
    | succ j => simpa using bytes_at (w := w) (D := D) h2 j x (by simpa using hj)
theorem holds_of {w : World} {D : Nat → Nat → Prop} {l : List UInt8} {v : Value} (h : RepC w D (.sl .u8) l [v]) : Lib.HoldsBytes w v l := by
  simp only [RepC] at h
  obtain ⟨_, A, c, us, hv, _, hrow, hcell⟩ := h
  obtain rfl : v = .slice A l.length c := by simpa using hv
  by_cases hl : l.length = 0
  · have := List.eq_nil_of_length_eq_zero hl
    subst this
    exact ⟨A, c, rfl, fun _ => rfl, fun a _ i x hx => by simp at hx⟩
  · obtain ⟨b, o, rfl, hcl⟩ := hcell (by omega)
    refine ⟨some ⟨b, o, none⟩, c, rfl, (fun e => by cases e), fun a ha i x hx => ?_⟩
    obtain rfl := Option.some.inj ha
    rw [addp]
    exact (hcl i _ (bytes_at (w := w) (D := D) hrow i x hx)).2
theorem row_bytes : ∀ (l : List UInt8), RowOf (fun (x : UInt8) us => us = [Value.int .u8 (x.toNat : Int)]) l (l.map fun x => .int .u8 (x.toNat : Int))
  | [] => rfl
  | x :: l => ⟨[.int .u8 (x.toNat : Int)], l.map fun x => .int .u8 (x.toNat : Int), rfl, rfl, row_bytes l⟩
theorem orcPost_bytes {D : Nat → Nat → Prop} {w w' : World} {v : Value} {l : List UInt8} (hc : ∀ b o, D b o → ∃ u, w.cell? ⟨b, o, none⟩ = some u) (hb : Below w.heap.size w w') (hl : l.length ≤ strMax) {A : Option Addr} {c : Nat} (hv : v = .slice A l.length c) (hle : l.length ≤ c)
    (hcell : 0 < l.length → ∃ q o, A = some ⟨q, o, none⟩ ∧ (w.heap.size ≤ q) ∧ ∀ (j : Nat) x, l[j]? = some x → w'.cell? ⟨q, o + j, none⟩ = some (.int .u8 (x.toNat : Int))) : OrcPost D w (.sl .u8 l .unk) v w' := by
  subst hv
  refine orcPost_of (D' := fun b o => D b o ∨ (w.heap.size ≤ b ∧ ∃ u, w'.cell? ⟨b, o, none⟩ = some u)) rfl hb (fun b o h => .inl h) (fun b o h => ?_) (fun b o h => h.elim .inl fun h => .inr h.1) ?_
  · rcases h with h | h
    · obtain ⟨u, hu⟩ := hc b o h
      exact ⟨u, by rw [hb.cell (p := ⟨b, o, none⟩) (cell_lt hu)]; exact hu⟩
    · exact h.2
  · refine .sl _ _ _ _ ?_ trivial
    simp only [RepC]
    refine ⟨hl, A, c, l.map fun x => .int .u8 (x.toNat : Int), rfl, hle, row_bytes l, fun h0 => ?_⟩
    obtain ⟨q, o, rfl, hq, hcl⟩ := hcell h0
    refine ⟨q, o, rfl, fun j u hj => ?_⟩
    rw [List.getElem?_map, Option.map_eq_some_iff] at hj
    obtain ⟨x, hx, rfl⟩ := hj
    have := hcl j x hx
    exact ⟨.inr ⟨hq, _, this⟩, this⟩
theorem parts_at {w : World} {D : Nat → Nat → Prop} : ∀ {l : List (List UInt8)} {us : List Value}, RowOf (fun x us => RepC w D (.sl .u8) x us) l us → us.length = l.length ∧ ∀ (i : Nat) v x, us[i]? = some v → l[i]? = some x → RepC w D (.sl .u8) x [v]
  | [], us, h => by
    have : us = [] := h
    subst this
    exact ⟨rfl, fun i v x h => by simp at h⟩
  | y :: l, us, h => by
    obtain ⟨v1, v2, rfl, h1, h2⟩ := h
    obtain ⟨e1, e2⟩ := parts_at (w := w) (D := D) h2
    have h1' := h1
    simp only [RepC] at h1
    obtain ⟨_, A, c, us, rfl, _⟩ := h1
    refine ⟨by simp [e1], fun i v x hv hx => ?_⟩
    cases i with
    | zero => simp at hv hx; subst hv; subst hx; exact h1'
    | succ i => exact e2 i v x (by simpa using hv) (by simpa using hx)
theorem join_nil_sep : ∀ (xs : List (List UInt8)), Lib.join xs [] = xs.flatten := by
  intro xs
  cases xs with
  | nil => rfl
  | cons x r => rw [Lib.join_cons]; simp [Lib.joinTail]
theorem lens_flatten (xs : List (List UInt8)) : xs.flatten.length = Lib.lens xs := by simp [Lib.lens, List.length_flatten]
theorem bjoin_ok (he : Enters P g) (h0 : ∀ (p : Option Addr) (c : Nat) (sv : Value) (w : World), ∃ t, Calls P g #[.slice p 0 c, sv] w fun e w' => e = .returned (.slice (some ⟨w.heap.size, 0, none⟩) 0 0) ∧ w' = w.alloc (.cells #[] t))
    (h1 : ∀ (b o c : Nat) (ad0 : Addr) (c0 : Nat) (l0 : List UInt8) (sv : Value) (w : World), w.cell? ⟨b, o, none⟩ = some (.slice (some ad0) l0.length c0) → (∀ (i : Nat) x, l0[i]? = some x → w.cell? (ad0.add i) = some (.int .u8 (x.toNat : Int))) → 0 < l0.length → l0.length ≤ 140737488355328 →
      Calls P g #[.slice (some ⟨b, o, none⟩) 1 c, sv] w fun e w' => ∃ v', e = .returned v' ∧ Lib.FreshBytes w.heap.size w' v' l0 ∧ Below w.heap.size w w')
    (h1e : ∀ (b o c : Nat) (p0 : Option Addr) (c0 : Nat) (sv : Value) (w : World), w.cell? ⟨b, o, none⟩ = some (.slice p0 0 c0) → Calls P g #[.slice (some ⟨b, o, none⟩) 1 c, sv] w fun e w' => e = .returned (.slice none 0 0) ∧ w' = w)
    (h2 : ∀ (b o n c : Nat) (vs : List Value) (ls : List (List UInt8)) (sv : Value) (sep : List UInt8) (w : World), ls.length = n → 2 ≤ n → Lib.PartsAt w ⟨b, o, none⟩ vs ls → n ≤ c → Lib.HoldsBytes w sv sep → n ≤ 140737488355328 → Lib.lens ls + sep.length * (n - 1) ≤ 140737488355328 →
      Calls P g #[.slice (some ⟨b, o, none⟩) n c, sv] w fun e w' => ∃ v', e = .returned v' ∧ Lib.FreshBytes w.heap.size w' v' (Lib.join ls sep) ∧ Below w.heap.size w w') (n : Nat) :
    FnOK P W g [.sl (.sl .u8) .unk, .sl .u8 .unk] (.one (.sl .u8 .unk)) (fun x => O.bjoin n x.1 x.2.1) := by
  rintro ⟨l, sep, _⟩ y hy w D vals hw ha hc
  obtain ⟨u, v, rfl, hu, hv⟩ := repl2 ha
  have hr := rep_slC hu
  have hs := holds_of (rep_slC hv)
  simp only [RepC] at hr
  obtain ⟨hmax, A, c, us, hA, hle, hrow, hcell⟩ := hr
  obtain rfl : u = .slice A l.length c := by simpa using hA
  simp only [O.bjoin] at hy
  obtain ⟨hb, hy2⟩ := of_bif hy
  clear hy
  simp only [Bool.and_eq_true, nble, big47, List.isEmpty_iff] at hb
  obtain ⟨⟨hb1, hb2⟩, rfl⟩ := hb
  simp only [Option.some.injEq] at hy2
  subst hy2
  obtain ⟨e1, e2⟩ := parts_at (w := w) (D := D) hrow
  have fresh : ∀ {x : List UInt8} {w' : World} {v' : Value}, x.length ≤ strMax → Lib.FreshBytes w.heap.size w' v' x → Below w.heap.size w w' → OrcPost D w (.sl .u8 x .unk) v' w' := by
    rintro x w' v' hx ⟨q, cap, zs, rfl, hq, hlc, _, hz, hzr, hzb, hcl, _⟩ hbe
    refine orcPost_bytes hc hbe hx rfl hlc fun h0 => ⟨q, 0, rfl, hq, fun j y hj => ?_⟩
    have hjl := (List.getElem?_eq_some_iff.1 hj).1
    rw [Nat.zero_add, hcl j (by omega)]
    have : (Lib.bytesOf (zs.take x.length))[j]? = some y := by rw [hzb]; exact hj
    unfold Lib.bytesOf at this
    rw [List.getElem?_map, Option.map_eq_some_iff] at this
    obtain ⟨z, hz', rfl⟩ := this
    rw [List.getElem?_take, if_pos hjl] at hz'
    have hzi := hzr z (List.mem_of_getElem? hz')
    simp only [List.getD_eq_getElem?_getD, hz', Option.getD_some]
    congr 2
    simp [UInt8.toNat_ofNat']
    omega
  have hlen : l.flatten.length ≤ strMax := by rw [lens_flatten]; simp only [strMax]; omega
  by_cases hl0 : l.length = 0
  · have hl0' := List.eq_nil_of_length_eq_zero hl0
    subst hl0'
    obtain ⟨t, h0⟩ := h0 A c v w
    refine goes_of he (h0.mono fun e w' ⟨h1, h2⟩ => ⟨_, h1, ?_⟩)
    subst h2
    exact orcPost_bytes (l := []) hc ((Below.refl _ _).alloc (Nat.le_refl _) _) (by simp) rfl (by simp) (fun h => by simp at h)
  · obtain ⟨b, o, rfl, hcl⟩ := hcell (by omega)
    by_cases hl1 : l.length = 1
    · obtain ⟨x, rfl⟩ := List.length_eq_one_iff.1 hl1
      have hus : 0 < us.length := by omega
      have hx := e2 0 us[0] x (by simp) rfl
      have hc0 := (hcl 0 us[0] (by simp)).2
      simp only [RepC] at hx
      obtain ⟨_, A0, c0, us0, hA0, _, hrow0, hcell0⟩ := hx
      have hA0' : us[0] = .slice A0 x.length c0 := by simpa using hA0
      rw [hA0'] at hc0
      by_cases hx0 : x.length = 0
      · have hx0' := List.eq_nil_of_length_eq_zero hx0
        subst hx0'
        refine goes_of he ((h1e b o c A0 c0 v w hc0).mono fun e w' ⟨h1, h2⟩ => ⟨_, h1, ?_⟩)
        subst h2
        exact orcPost_bytes (l := []) hc (Below.refl _ _) (by simp) rfl (by simp) (fun h => by simp at h)
      · obtain ⟨b0, o0, rfl, hcl0⟩ := hcell0 (by omega)
        have := h1 b o c ⟨b0, o0, none⟩ c0 x v w hc0 (fun i z hz => by rw [addp]; exact (hcl0 i _ (bytes_at (w := w) (D := D) hrow0 i z hz)).2) (by omega) (by simp [Lib.lens] at hb2; omega)
        refine goes_of he (this.mono fun e w' ⟨v', h1, h2, h3⟩ => ⟨_, h1, ?_⟩)
        have := fresh (by simpa using hlen) h2 h3
        have e : [x].flatten = x := by simp
        rw [e]
        exact this
    · have hP : Lib.PartsAt w ⟨b, o, none⟩ us l := ⟨e1, fun i v hv => by rw [addp]; exact (hcl i v hv).2, fun i v x hv hx => holds_of (e2 i v x hv hx)⟩
      have := h2 b o l.length c us l v [] w rfl (by omega) hP hle hs hb1 hb2
      rw [join_nil_sep] at this
      exact goes_of he (this.mono fun e w' ⟨v', h1, h2, h3⟩ => ⟨_, h1, fresh hlen h2 h3⟩)
end
end Go.AM
set_option linter.unusedVariables false
set_option linter.unusedSimpArgs false
namespace Go.AM
open Go.RowKit
namespace O
def itoa (n : Nat) (k : Int) : Option (List UInt8) := bif decide (-9223372036854775808 ≤ k) && decide (k ≤ 9223372036854775807) then some (Lib.itoa k) else none
def futoa (n : Nat) (k b : Int) : Option (List UInt8) := bif decide (0 ≤ k) && decide (k < 18446744073709551616) && decide (b = 10) then some (Lib.decDigits k.toNat) else none
def atoi (n : Nat) (s : List UInt8) : Option (Int × Bool × Unit) := bif Nat.ble s.length big47 then match Lib.atoiAll s with
  | .ok v => some (v, false, ())
  | .range => some (Lib.atoiSat s, true, ())
  | _ => some (0, true, ()) else none
def trimR (n : Nat) (s set : List UInt8) : Option (List UInt8) := match set with
  | [c] => bif Nat.blt c.toNat 128 && Nat.ble s.length big47 then some (Lib.trimRightB s c) else none
  | _ => none
def trimL (n : Nat) (s set : List UInt8) : Option (List UInt8) := match set with
  | [c] => bif Nat.blt c.toNat 128 && Nat.ble s.length big47 then some (Lib.trimLeftB s c) else none
  | _ => none
def compare (n : Nat) (a b : List UInt8) : Option Int := some (Lib.compareBytes a b)
def repeat' (n : Nat) (s : List UInt8) (c : Int) : Option (List UInt8) := bif decide (0 ≤ c) && Nat.ble c.toNat big47 && Nat.ble (s.length * c.toNat) big47 then some (Lib.repeatL s c.toNat) else none
def mul64 (n : Nat) (x y : Int) : Option (Int × Int × Unit) := bif decide (0 ≤ x ∧ x < 18446744073709551616 ∧ 0 ≤ y ∧ y < 18446744073709551616) then some (((x.toNat * y.toNat / 18446744073709551616 : Nat) : Int), ((x.toNat * y.toNat % 18446744073709551616 : Nat) : Int), ()) else none
def add64 (n : Nat) (x y c : Int) : Option (Int × Int × Unit) := bif decide (0 ≤ x ∧ x < 18446744073709551616 ∧ 0 ≤ y ∧ y < 18446744073709551616 ∧ 0 ≤ c ∧ c ≤ 1) then some ((((x.toNat + y.toNat + c.toNat) % 18446744073709551616 : Nat) : Int), (((x.toNat + y.toNat + c.toNat) / 18446744073709551616 : Nat) : Int), ()) else none
end O
section
variable {P : Program} {W : World → Prop} {g : Nat}
theorem goes_val {P : Program} {g : Nat} {vals : Array Value} {w w' : World} {v : Value} {R : Value → World → Prop} (h : (callFunc g vals).run P w = .ok (.value v) w') (hr : R v w') : Goes P g vals w R := .inr ⟨v, w', h, hr⟩
theorem str_eq {cs : ByteArray} {c : UInt8} (h : cs.data.toList = [c]) : cs = ⟨#[c]⟩ := by
  cases cs with
  | mk a => cases a; simp at h; rw [h]
theorem itoa_ok (he : Enters P g) (h : ∀ (k : Int), -9223372036854775808 ≤ k → k ≤ 9223372036854775807 → ∀ w, W w → Calls P g #[.int .i64 k] w fun e w' => e = .returned (.string ⟨(Lib.itoa k).toArray⟩) ∧ Below w.heap.size w w') (n : Nat) :
    FnOK P W g [.int .i64] (.one .str) (fun x => O.itoa n x.1) := by
  rintro ⟨k, _⟩ y hy w D vals hw ha hc
  obtain ⟨u, rfl, hu⟩ := repl1 ha
  obtain ⟨rfl, _⟩ := rep_int hu
  simp only [O.itoa] at hy
  obtain ⟨hb, hy2⟩ := of_bif hy
  clear hy
  simp only [Bool.and_eq_true, decide_eq_true_eq] at hb
  simp only [Option.some.injEq] at hy2
  subst hy2
  refine goes_of he ((h k hb.1 hb.2 w hw).mono fun e w' ⟨h1, h2⟩ => ⟨_, h1, orcPost_old rfl h2 hc (.str _ _ (by simp) ?_)⟩)
  have := Lib.itoa_length_le k hb.1 hb.2
  simp only [strMax]
  omega
theorem futoa_ok (he : Enters P g) (h : ∀ (k : Nat), k < 18446744073709551616 → ∀ w, W w → Calls P g #[.int .u64 k, .int .i64 10] w fun e w' => e = .returned (.string ⟨(Lib.decDigits k).toArray⟩) ∧ Below w.heap.size w w') (n : Nat) :
    FnOK P W g [.int .u64, .int .i64] (.one .str) (fun x => O.futoa n x.1 x.2.1) := by
  rintro ⟨k, b, _⟩ y hy w D vals hw ha hc
  obtain ⟨u, v, rfl, hu, hv⟩ := repl2 ha
  obtain ⟨rfl, _⟩ := rep_int hu
  obtain ⟨rfl, _⟩ := rep_int hv
  simp only [O.futoa] at hy
  obtain ⟨hb, hy2⟩ := of_bif hy
  clear hy
  simp only [Bool.and_eq_true, decide_eq_true_eq] at hb
  obtain ⟨⟨h0, h1⟩, rfl⟩ := hb
  simp only [Option.some.injEq] at hy2
  subst hy2
  obtain ⟨q, rfl⟩ := Int.eq_ofNat_of_zero_le h0
  refine goes_of he ((h q (by omega) w hw).mono fun e w' ⟨h1, h2⟩ => ⟨_, h1, orcPost_old rfl h2 hc (.str _ _ (by simp) ?_)⟩)
  simp only [Int.toNat_natCast]
  have h3 : Lib.nDigits q ≤ 20 := by
    by_cases hq : 1 ≤ q
    · have := Lib.numDigits_eq q hq (by omega)
      split at this <;> omega
    · have : q = 0 := by omega
      subst this
      simp [Lib.nDigits]
  rw [Lib.decDigits_length]
  simp only [strMax]
  omega
theorem atoi_ok (he : Enters P g) (h0 : ∀ (s : ByteArray), s.size ≤ 140737488355328 → ∀ v, Lib.atoiAll s.data.toList = .ok v → ∀ w, W w → Calls P g #[.string s] w fun e w' => e = .returned (.tuple #[.int .i64 v, .nilIface]) ∧ Below w.heap.size w w')
    (h1 : ∀ (s : ByteArray), s.size ≤ 140737488355328 → (∀ v, Lib.atoiAll s.data.toList ≠ .ok v) → Lib.atoiAll s.data.toList ≠ .range → ∀ w, W w → Calls P g #[.string s] w fun e w' => (∃ t p, e = .returned (.tuple #[.int .i64 0, .iface t p])) ∧ Below w.heap.size w w')
    (h2 : ∀ (s : ByteArray), s.size ≤ 140737488355328 → Lib.atoiAll s.data.toList = .range → ∀ w, W w → Calls P g #[.string s] w fun e w' => (∃ t p, e = .returned (.tuple #[.int .i64 (Lib.atoiSat s.data.toList), .iface t p])) ∧ Below w.heap.size w w') (n : Nat) :
    FnOK P W g [.str] (.many [.int .i64, .err]) (fun x => O.atoi n x.1) := by
  rintro ⟨s, _⟩ y hy w D vals hw ha hc
  obtain ⟨u, rfl, hu⟩ := repl1 ha
  obtain ⟨bs, rfl, hbs, _⟩ := rep_str hu
  have hbs : bs.data.toList = s := hbs
  simp only [O.atoi] at hy
  obtain ⟨hb, hy2⟩ := of_bif hy
  clear hy
  simp only [nble, big47] at hb
  have hsz : bs.size ≤ 140737488355328 := by rw [ba_size, hbs]; exact hb
  have fin : ∀ {v : Int} {b : Bool} {e : Value} {w' : World}, (b = false ∧ e = .nilIface ∨ b = true ∧ ∃ t p, e = .iface t p) → Below w.heap.size w w' → OrcPost D w (.tup [.int .i64 v, .err b]) (.tuple #[.int .i64 v, e]) w' := by
    intro v b e w' hh hbe
    refine orcPost_old rfl hbe hc (.tup _ _ rfl fun i x c hx hcx => ?_)
    match i, hx, hcx with
    | 0, hx, hcx => simp at hx hcx; subst hx; subst hcx; exact .int _ _ (by simp)
    | 1, hx, hcx =>
      simp at hx hcx
      subst hx
      subst hcx
      rcases hh with ⟨rfl, rfl⟩ | ⟨rfl, t, p, rfl⟩
      · exact .err0
      · exact .err1 t p
    | i + 2, hx, hcx => simp at hx
  split at hy2
  · rename_i v hv
    simp only [Option.some.injEq] at hy2
    subst hy2
    exact goes_of he ((h0 bs hsz v (by rw [hbs]; exact hv) w hw).mono fun e w' ⟨e1, e2⟩ => ⟨_, e1, fin (.inl ⟨rfl, rfl⟩) e2⟩)
  · rename_i hv
    simp only [Option.some.injEq] at hy2
    subst hy2
    have := h2 bs hsz (by rw [hbs]; exact hv) w hw
    rw [hbs] at this
    exact goes_of he (this.mono fun e w' ⟨⟨t, p, e1⟩, e2⟩ => ⟨_, e1, fin (.inr ⟨rfl, t, p, rfl⟩) e2⟩)
  · rename_i n1 n2
    simp only [Option.some.injEq] at hy2
    subst hy2
    exact goes_of he ((h1 bs hsz (fun v => by rw [hbs]; exact n1 v) (by rw [hbs]; exact n2) w hw).mono fun e w' ⟨⟨t, p, e1⟩, e2⟩ => ⟨_, e1, fin (.inr ⟨rfl, t, p, rfl⟩) e2⟩)
theorem trimLB_le (s : List UInt8) (c : UInt8) : (Lib.trimLeftB s c).length ≤ s.length := by
  unfold Lib.trimLeftB
  exact (List.dropWhile_sublist _).length_le
theorem trimRB_le (s : List UInt8) (c : UInt8) : (Lib.trimRightB s c).length ≤ s.length := by
  unfold Lib.trimRightB
  have := (List.dropWhile_sublist (p := fun b => b == c) (l := s.reverse)).length_le
  simpa using this
theorem trimR_ok (he : Enters P g) (h : ∀ (s : ByteArray) (c : UInt8), c.toNat < 128 → ∀ w, s.size ≤ 9223372036854775807 → Calls P g #[.string s, .string ⟨#[c]⟩] w fun e w' => e = .returned (.string ⟨(Lib.trimRightB s.data.toList c).toArray⟩) ∧ w' = w) (n : Nat) :
    FnOK P W g [.str, .str] (.one .str) (fun x => O.trimR n x.1 x.2.1) := by
  rintro ⟨s, set, _⟩ y hy w D vals hw ha hc
  obtain ⟨u, v, rfl, hu, hv⟩ := repl2 ha
  obtain ⟨bs, rfl, hbs, hm⟩ := rep_str hu
  obtain ⟨cs, rfl, hcs, _⟩ := rep_str hv
  have hbs : bs.data.toList = s := hbs
  have hm : s.length ≤ strMax := hm
  simp only [O.trimR] at hy
  by_cases hset : ∃ c, set = [c]
  · obtain ⟨c, rfl⟩ := hset
    obtain rfl := str_eq hcs
    simp only at hy
    obtain ⟨hb, hy2⟩ := of_bif hy
    clear hy
    simp only [Bool.and_eq_true, nblt, nble, big47] at hb
    simp only [Option.some.injEq] at hy2
    subst hy2
    have hsz : bs.size = List.length s := by rw [ba_size, hbs]
    refine goes_of he ((h bs c hb.1 w (by omega)).mono fun e w' ⟨h1, h2⟩ => ⟨_, h1, ?_⟩)
    subst h2
    rw [hbs]
    have := trimRB_le s c
    exact orcPost_old rfl (Below.refl _ _) hc (.str _ _ (by simp) (by omega))
  · split at hy
    · exact absurd ⟨_, rfl⟩ hset
    · cases hy
theorem trimL_ok (he : Enters P g) (h : ∀ (s : ByteArray) (c : UInt8), c.toNat < 128 → ∀ w, Calls P g #[.string s, .string ⟨#[c]⟩] w fun e w' => e = .returned (.string ⟨(Lib.trimLeftB s.data.toList c).toArray⟩) ∧ w' = w) (n : Nat) :
    FnOK P W g [.str, .str] (.one .str) (fun x => O.trimL n x.1 x.2.1) := by
  rintro ⟨s, set, _⟩ y hy w D vals hw ha hc
  obtain ⟨u, v, rfl, hu, hv⟩ := repl2 ha
  obtain ⟨bs, rfl, hbs, hm⟩ := rep_str hu
  obtain ⟨cs, rfl, hcs, _⟩ := rep_str hv
  have hbs : bs.data.toList = s := hbs
  have hm : s.length ≤ strMax := hm
  simp only [O.trimL] at hy
  by_cases hset : ∃ c, set = [c]
  · obtain ⟨c, rfl⟩ := hset
    obtain rfl := str_eq hcs
    simp only at hy
    obtain ⟨hb, hy2⟩ := of_bif hy
    clear hy
    simp only [Bool.and_eq_true, nblt, nble, big47] at hb
    simp only [Option.some.injEq] at hy2
    subst hy2
    refine goes_of he ((h bs c hb.1 w).mono fun e w' ⟨h1, h2⟩ => ⟨_, h1, ?_⟩)
    subst h2
    rw [hbs]
    have := trimLB_le s c
    exact orcPost_old rfl (Below.refl _ _) hc (.str _ _ (by simp) (by omega))
  · split at hy
    · exact absurd ⟨_, rfl⟩ hset
    · cases hy
theorem compare_ok (he : Enters P g) (h : ∀ (a b : ByteArray) (w : World), Calls P g #[.string a, .string b] w fun e w' => e = .returned (.int .i64 (Lib.compareBytes a.data.toList b.data.toList)) ∧ w' = w) (n : Nat) :
    FnOK P W g [.str, .str] (.one (.int .i64)) (fun x => O.compare n x.1 x.2.1) := by
  rintro ⟨s, t, _⟩ y hy w D vals hw ha hc
  obtain ⟨u, v, rfl, hu, hv⟩ := repl2 ha
  obtain ⟨bs, rfl, hbs, hm⟩ := rep_str hu
  obtain ⟨cs, rfl, hcs, _⟩ := rep_str hv
  have hbs : bs.data.toList = s := hbs
  have hcs : cs.data.toList = t := hcs
  simp only [O.compare, Option.some.injEq] at hy
  subst hy
  refine goes_of he ((h bs cs w).mono fun e w' ⟨h1, h2⟩ => ⟨_, h1, ?_⟩)
  subst h2
  rw [hbs, hcs]
  exact orcPost_old rfl (Below.refl _ _) hc (.int _ _ (by simp))
theorem repeat_ok (he : Enters P g) (h : ∀ (s : ByteArray) (c : Nat) (w : World), c ≤ 9223372036854775807 → s.size * c ≤ 140737488355328 → Calls P g #[.string s, .int .i64 c] w fun e w' => e = .returned (.string ⟨(Lib.repeatL s.data.toList c).toArray⟩) ∧ Below w.heap.size w w') (n : Nat) :
    FnOK P W g [.str, .int .i64] (.one .str) (fun x => O.repeat' n x.1 x.2.1) := by
  rintro ⟨s, c, _⟩ y hy w D vals hw ha hc
  obtain ⟨u, v, rfl, hu, hv⟩ := repl2 ha
  obtain ⟨bs, rfl, hbs, hm⟩ := rep_str hu
  obtain ⟨rfl, _⟩ := rep_int hv
  have hbs : bs.data.toList = s := hbs
  simp only [O.repeat'] at hy
  obtain ⟨hb, hy2⟩ := of_bif hy
  clear hy
  simp only [Bool.and_eq_true, nble, big47, decide_eq_true_eq] at hb
  obtain ⟨⟨h0, h1⟩, h2⟩ := hb
  simp only [Option.some.injEq] at hy2
  subst hy2
  obtain ⟨q, rfl⟩ := Int.eq_ofNat_of_zero_le h0
  simp only [Int.ofNat_eq_natCast, Int.toNat_natCast] at h1 h2 ⊢
  have hsz : bs.size = List.length s := by rw [ba_size, hbs]
  have := h bs q w (by omega) (by rw [hsz]; exact h2)
  rw [hbs] at this
  refine goes_of he (this.mono fun e w' ⟨e1, e2⟩ => ⟨_, e1, orcPost_old rfl e2 hc (.str _ _ (by simp) ?_)⟩)
  rw [Lib.repeatL_length]
  simp only [strMax]
  rw [Nat.mul_comm]
  omega
theorem two_ints {w : World} {G : GS} {a b : Int} : RepV w G (.tuple #[.int .u64 a, .int .u64 b]) (.tup [.int .u64 a, .int .u64 b]) := by
  refine .tup _ _ rfl fun i x c hx hcx => ?_
  match i, hx, hcx with
  | 0, hx, hcx => simp at hx hcx; subst hx; subst hcx; exact .int _ _ (by simp)
  | 1, hx, hcx => simp at hx hcx; subst hx; subst hcx; exact .int _ _ (by simp)
  | i + 2, hx, hcx => simp at hx
theorem mul64_ok (he : Enters P g) (h : ∀ (x y : Nat), x < 18446744073709551616 → y < 18446744073709551616 → ∀ w, Calls P g #[.int .u64 x, .int .u64 y] w fun e w' => e = .returned (.tuple #[.int .u64 ((x * y / 18446744073709551616 : Nat) : Int), .int .u64 ((x * y % 18446744073709551616 : Nat) : Int)]) ∧ w' = w) (n : Nat) :
    FnOK P W g [.int .u64, .int .u64] (.many [.int .u64, .int .u64]) (fun x => O.mul64 n x.1 x.2.1) := by
  rintro ⟨x, y', _⟩ y hy w D vals hw ha hc
  obtain ⟨u, v, rfl, hu, hv⟩ := repl2 ha
  obtain ⟨rfl, _⟩ := rep_int hu
  obtain ⟨rfl, _⟩ := rep_int hv
  simp only [O.mul64] at hy
  obtain ⟨hb, hy2⟩ := of_bif hy
  clear hy
  simp only [decide_eq_true_eq] at hb
  obtain ⟨hx0, hx1, hy0, hy1⟩ := hb
  obtain ⟨p, rfl⟩ := Int.eq_ofNat_of_zero_le hx0
  obtain ⟨q, rfl⟩ := Int.eq_ofNat_of_zero_le hy0
  simp only [Int.ofNat_eq_natCast, Int.toNat_natCast, Option.some.injEq] at hy2
  subst hy2
  refine goes_of he ((h p q (by omega) (by omega) w).mono fun e w' ⟨h1, h2⟩ => ⟨_, h1, ?_⟩)
  subst h2
  exact orcPost_old rfl (Below.refl _ _) hc two_ints
theorem add64_ok (h : ∀ (x y c : Nat), x < 18446744073709551616 → y < 18446744073709551616 → c ≤ 1 → ∀ w, (callFunc g #[.int .u64 x, .int .u64 y, .int .u64 c]).run P w = .ok (.value (.tuple #[.int .u64 (((x + y + c) % 18446744073709551616 : Nat) : Int), .int .u64 (((x + y + c) / 18446744073709551616 : Nat) : Int)])) w) (n : Nat) :
    FnOK P W g [.int .u64, .int .u64, .int .u64] (.many [.int .u64, .int .u64]) (fun x => O.add64 n x.1 x.2.1 x.2.2.1) := by
  rintro ⟨x, y', c, _⟩ y hy w D vals hw ha hc
  obtain ⟨u, v, z, rfl, hu, hv, hz⟩ := repl3 ha
  obtain ⟨rfl, _⟩ := rep_int hu
  obtain ⟨rfl, _⟩ := rep_int hv
  obtain ⟨rfl, _⟩ := rep_int hz
  simp only [O.add64] at hy
  obtain ⟨hb, hy2⟩ := of_bif hy
  clear hy
  simp only [decide_eq_true_eq] at hb
  obtain ⟨hx0, hx1, hy0, hy1, hc0, hc1⟩ := hb
  obtain ⟨p, rfl⟩ := Int.eq_ofNat_of_zero_le hx0
  obtain ⟨q, rfl⟩ := Int.eq_ofNat_of_zero_le hy0
  obtain ⟨r, rfl⟩ := Int.eq_ofNat_of_zero_le hc0
  simp only [Int.ofNat_eq_natCast, Int.toNat_natCast, Option.some.injEq] at hy2
  subst hy2
  exact goes_val (h p q r (by omega) (by omega) (by omega) w) (orcPost_old rfl (Below.refl _ _) hc two_ints)
theorem below_grow {w : World} (k : Nat) (os : Array Obj) : Below w.heap.size w (Go.Sort.grow (w.drewN k) os) :=
  ⟨rfl, rfl, rfl, by simp [Go.Sort.grow, World.drewN], fun j hj => by
    simp only [Go.Sort.grow, World.drewN]
    rw [Array.getElem?_append_left hj]⟩
theorem below_bytes {w : World} {t : TypeId} {s : ByteArray} : Below w.heap.size w (Lib.bytesWorld w t s) :=
  ⟨by unfold Lib.bytesWorld World.freeze; split <;> rfl, by unfold Lib.bytesWorld World.freeze; split <;> rfl, by unfold Lib.bytesWorld World.freeze; split <;> rfl, by rw [Lib.bytesWorld_size]; omega, fun j hj => Lib.bytesWorld_at_old w t s j hj⟩
theorem tab_on {w0 w : World} {name : String} {k : IntKind} {zs : List Int} (h : Lib.TabIs P w0 name k zs) (hs : w0.heap.size ≤ w.heap.size) (hb : Below w0.heap.size w0 w) : Lib.TabIs P w name k zs :=
  Lib.tabBelow_of_tabIs h w hb
theorem cell_on {w0 w : World} {b : Nat} {v : Value} (h : w0.cell? ⟨b, 0, none⟩ = some v) (hb : Below w0.heap.size w0 w) : w.cell? ⟨b, 0, none⟩ = some v := by rw [hb.cell (p := ⟨b, 0, none⟩) (cell_lt h)]; exact h
end
end Go.AM
set_option linter.unusedVariables false
set_option linter.unusedSimpArgs false
namespace Go.AM
open Go.MapKept Go.RowKit
theorem findNow_no (key : Int) : ∀ (es : List MapEntry) (i : Nat), (∀ x ∈ es, ∃ n, x.key = .int .i64 n ∧ n ≠ key) → Instr.findNow (.int .i64) (.int .i64 key) es i = some none
  | [], _, _ => rfl
  | e :: es, i, h => by
    obtain ⟨n, h1, h2⟩ := h e (by simp)
    have : (key == n) = false := by simpa using fun h => h2 h.symm
    simp only [Instr.findNow, h1, Instr.sameNow, if_true, this]
    exact findNow_no key es (i + 1) (fun x hx => h x (by simp [hx]))
theorem new_map (w : World) (o : Obj) : (w.alloc o).heap[w.heap.size]? = some o := by
  show (w.heap.push o)[w.heap.size]? = _
  simp
theorem set_map (w : World) (o o' : Obj) : ({ w.alloc o with heap := (w.alloc o).heap.setIfInBounds w.heap.size o' } : World) = w.alloc o' := by
  show ({ w with heap := (w.heap.push o).setIfInBounds w.heap.size o' } : World) = { w with heap := w.heap.push o' }
  congr 1
  refine Array.ext_getElem? fun i => ?_
  rw [Array.getElem?_setIfInBounds, Array.getElem?_push, Array.getElem?_push]
  by_cases h : i = w.heap.size
  · subst h; simp
  · simp [h, Ne.symm h]
theorem mapUpdate_int {P : Program} {t k e : TypeId} (ht : P.underlying t = some (.map k e)) (hk : P.underlying k = some (.int .i64)) (w : World) (es : Array MapEntry) (c : Nat) (key : Int) (v : Value) (hno : ∀ x ∈ es.toList, ∃ n, x.key = .int .i64 n ∧ n ≠ key) :
    (Instr.mapUpdate t (.map (some w.heap.size)) (.int .i64 key) v).run P (w.alloc (.map es c)) = .ok () (w.alloc (.map (es.push { key := .int .i64 key, val := v, born := c }) (c + 1))) := by
  have hb := new_map w (.map es c)
  have hf := findNow_no key es.toList 0 hno
  have hc : ∀ w', (Instr.checkKey false 10000 k (.int .i64 key)).run P w' = .ok () w' := fun w' => run_checkKey hk (by simp [IsKey]) false 9999
  have hfk : ∀ w', (Instr.findKey k (.int .i64 key) es.toList).run P w' = .ok none w' := fun w' => by
    simp only [Instr.findKey, Sem.run_bind, run_underlying hk, Result.andThen_ok, hf]
    rfl
  have hs := run_setObj_map (P := P) (.map (es.push { key := .int .i64 key, val := v, born := c }) (c + 1)) hb
  rw [set_map] at hs
  simp only [Instr.mapUpdate, Sem.run_bind, run_underlying ht, Result.andThen_ok, Go.MapKept.run_getObj_map hb, hc, hfk, hs]
theorem lookup_int {P : Program} {t k e : TypeId} (ht : P.underlying t = some (.map k e)) (hk : P.underlying k = some (.int .i64)) (w : World) (es : Array MapEntry) (c : Nat) (key : Int) {i : Nat} {v : Value} (hf : Instr.findNow (.int .i64) (.int .i64 key) es.toList 0 = some (some (i, v))) (he : es.isEmpty = false) :
    (Instr.lookup t (.map (some w.heap.size)) (.int .i64 key) true).run P (w.alloc (.map es c)) = .ok (.tuple #[v, .bool true]) (w.alloc (.map es c)) := by
  have hb := new_map w (.map es c)
  have hc : ∀ b w', (Instr.checkKey b 10000 k (.int .i64 key)).run P w' = .ok () w' := fun b w' => run_checkKey hk (by simp [IsKey]) b 9999
  have hfk : ∀ w', (Instr.findKey k (.int .i64 key) es.toList).run P w' = .ok (some (i, v)) w' := fun w' => by
    simp only [Instr.findKey, Sem.run_bind, run_underlying hk, Result.andThen_ok, hf]
    rfl
  simp only [Instr.lookup, Sem.run_bind, run_underlying ht, Result.andThen_ok, Go.MapKept.run_getObj_map hb, hc, hfk, Sem.run_pure, if_true]
theorem lookup_int_no {P : Program} {t k e : TypeId} (ht : P.underlying t = some (.map k e)) (hk : P.underlying k = some (.int .i64)) (w : World) (es : Array MapEntry) (c : Nat) (key : Int) (hno : ∀ x ∈ es.toList, ∃ n, x.key = .int .i64 n ∧ n ≠ key) {z : Value} (hz : ∀ w', (zeroValue e).run P w' = .ok z w') :
    (Instr.lookup t (.map (some w.heap.size)) (.int .i64 key) true).run P (w.alloc (.map es c)) = .ok (.tuple #[z, .bool false]) (w.alloc (.map es c)) := by
  have hb := new_map w (.map es c)
  have hf := findNow_no key es.toList 0 hno
  have hc : ∀ b w', (Instr.checkKey b 10000 k (.int .i64 key)).run P w' = .ok () w' := fun b w' => run_checkKey hk (by simp [IsKey]) b 9999
  have hfk : ∀ w', (Instr.findKey k (.int .i64 key) es.toList).run P w' = .ok none w' := fun w' => by
    simp only [Instr.findKey, Sem.run_bind, run_underlying hk, Result.andThen_ok, hf]
    rfl
  simp only [Instr.lookup, Sem.run_bind, run_underlying ht, Result.andThen_ok, Go.MapKept.run_getObj_map hb, hc, hfk, Sem.run_pure, if_true, hz]
def wordsMap : Array MapEntry := #[⟨.int .i64 1, .string ⟨#[99]⟩, 0⟩, ⟨.int .i64 2, .string ⟨#[103]⟩, 1⟩, ⟨.int .i64 3, .string ⟨#[109, 115]⟩, 2⟩, ⟨.int .i64 4, .string ⟨#[104]⟩, 3⟩]
theorem below_new {w : World} (o : Obj) : Below w.heap.size w (w.alloc o) := (Below.refl _ _).alloc (Nat.le_refl _) o
def wordL (k : Int) : List UInt8 := if k = 1 then [99] else if k = 2 then [103] else if k = 3 then [109, 115] else if k = 4 then [104] else []
def wordE (k : Int) : Int := if k = 1 ∨ k = 2 ∨ k = 3 ∨ k = 4 then 0 else 16
def O.word (n : Nat) (k : Int) : Option (List UInt8 × Int × Unit) := some (wordL k, wordE k, ())
theorem wordL_len (k : Int) : (wordL k).length ≤ strMax := by
  have : (wordL k).length ≤ 2 := by
    unfold wordL
    repeat (first | split | decide)
  simp only [strMax]
  omega
theorem str_int {w : World} {G : GS} {l : List UInt8} {n : Int} (hl : l.length ≤ strMax) : RepV w G (.tuple #[.string ⟨l.toArray⟩, .int .i64 n]) (.tup [.str l, .int .i64 n]) := by
  refine .tup _ _ rfl fun i v c hv hc => ?_
  match i, hv, hc with
  | 0, hv, hc =>
    simp only [List.getElem?_toArray, List.getElem?_cons_zero, Option.some.injEq] at hv hc
    subst hv; subst hc
    exact .str _ _ (by simp) hl
  | 1, hv, hc =>
    simp only [List.getElem?_toArray, List.getElem?_cons_succ, List.getElem?_cons_zero, Option.some.injEq] at hv hc
    subst hv; subst hc
    exact .int _ _ (by intro h; cases h)
  | i + 2, hv, hc => simp at hc
theorem word_ok {P : Program} {W : World → Prop} {g : Nat} (he : Enters P g) (h : ∀ (k : Int) (w : World), Calls P g #[.int .i64 k] w fun e w' => e = .returned (.tuple #[.string ⟨(wordL k).toArray⟩, .int .i64 (wordE k)]) ∧ Below w.heap.size w w') (n : Nat) :
    FnOK P W g [.int .i64] (.many [.str, .int .i64]) (fun x => O.word n x.1) := by
  rintro ⟨k, _⟩ y hy w D vals hw ha hc
  obtain ⟨u, rfl, hu⟩ := repl1 ha
  obtain ⟨rfl, _⟩ := rep_int hu
  simp only [O.word, Option.some.injEq] at hy
  subst hy
  exact goes_of he ((h k w).mono fun e w' ⟨h1, h2⟩ => ⟨_, h1, orcPost_old rfl h2 hc (str_int (wordL_len k))⟩)
theorem calls_of {P : Program} {W : World → Prop} {g : Nat} {ps : List SV} {rv : RV} {F : sdenL ps → Option rv.den} (he : Enters P g) (h : FnOK P W g ps rv F) {x : sdenL ps} {y : rv.den} (hy : F x = some y) {w : World} {D : Nat → Nat → Prop} {vals : Array Value}
    (hw : W w) (ha : RepL w ⟨D, [], [], [], [], bv0⟩ vals.toList (sencL ps x)) (hc : ∀ b o, D b o → ∃ u, w.cell? ⟨b, o, none⟩ = some u) : Calls P g vals w fun e w' => ∃ v, e = .returned v ∧ OrcPost D w (rv.enc y) v w' := by
  rcases h x y hy w D vals hw ha hc with ⟨_, h2⟩ | ⟨v, w', h2, _⟩
  · refine (callsIn_wide.1 h2).mono fun e w' hq => ?_
    cases e with
    | returned v => exact ⟨v, rfl, hq⟩
    | _ => exact hq.elim
  · rw [he vals w] at h2
    cases h2
theorem orc_int {D : Nat → Nat → Prop} {w w' : World} {k : IntKind} {n : Int} {v : Value} (h : OrcPost D w (.int k n) v w') : v = .int k n ∧ Below w.heap.size w w' := by
  obtain ⟨G', _, _, hs, hv⟩ := h
  have hv : RepV w' G' v (.int k n) := hv
  cases hv
  exact ⟨rfl, hs.below⟩
theorem orc_bool {D : Nat → Nat → Prop} {w w' : World} {b : Bool} {v : Value} (h : OrcPost D w (.bool b) v w') : v = .bool b ∧ Below w.heap.size w w' := by
  obtain ⟨G', _, _, hs, hv⟩ := h
  have hv : RepV w' G' v (.bool b) := hv
  cases hv
  exact ⟨rfl, hs.below⟩
theorem keep_below {D : Nat → Nat → Prop} {w w1 : World} (hb : Below w.heap.size w w1) (hc : ∀ b o, D b o → ∃ u, w.cell? ⟨b, o, none⟩ = some u) : Keep D w w1 := fun b o h => by
  obtain ⟨u, hu⟩ := hc b o h
  exact hb.cell (p := ⟨b, o, none⟩) (World.block_lt_of_cell? w _ hu)
theorem repL_below {D : Nat → Nat → Prop} {w w1 : World} (hb : Below w.heap.size w w1) (hc : ∀ b o, D b o → ∃ u, w.cell? ⟨b, o, none⟩ = some u) {vs : List Value} {cs : List AV} (h : RepL w ⟨D, [], [], [], [], bv0⟩ vs cs) : RepL w1 ⟨D, [], [], [], [], bv0⟩ vs cs :=
  h.mono (Ext.refl (Base.le_refl _)) (keep_below hb hc)
theorem calls_later {P : Program} {W : World → Prop} {g : Nat} {ps : List SV} {rv : RV} {F : sdenL ps → Option rv.den} (he : Enters P g) (h : FnOK P W g ps rv F) (hst : ∀ w w', W w → Below w.heap.size w w' → W w') {x : sdenL ps} {y : rv.den} (hy : F x = some y) {w : World} {D : Nat → Nat → Prop} {vals : Array Value}
    (hw : W w) (ha : RepL w ⟨D, [], [], [], [], bv0⟩ vals.toList (sencL ps x)) (hc : ∀ b o, D b o → ∃ u, w.cell? ⟨b, o, none⟩ = some u) (w1 : World) (hb : Below w.heap.size w w1) : Calls P g vals w1 fun e w' => ∃ v, e = .returned v ∧ OrcPost D w1 (rv.enc y) v w' :=
  calls_of he h hy (hst _ _ hw hb) (repL_below hb hc ha) fun b o hd => by
    obtain ⟨u, hu⟩ := hc b o hd
    exact ⟨u, (keep_below hb hc b o hd).trans hu⟩
theorem agg6 {w : World} {G : GS} {v : Value} {a b c d e f : AV} (h : RepV w G v (.agg [a, b, c, d, e, f])) : ∃ v0 v1 v2 v3 v4 v5, v = .agg #[v0, v1, v2, v3, v4, v5] := by
  cases h with
  | agg vs cs hl hx =>
    obtain ⟨l⟩ := vs
    match l, hl with
    | [v0, v1, v2, v3, v4, v5], _ => exact ⟨v0, v1, v2, v3, v4, v5, rfl⟩
end Go.AM
set_option linter.unusedVariables false
set_option linter.unusedSimpArgs false
namespace Go.AM
open Go.RowKit
def LaidI (P : Program) (l : List (String × DataW Unit)) (w : World) : Prop := laidMetH P l w ∧ w.ShapedOpen P
section
variable {P : Program} {w : World} {l : List (String × DataW Unit)}
theorem laid_reads (h : LaidI P l w) (hn : (l.filter fun x => x.2.handleName?.isSome).isEmpty = true) {n : String} {d : DataW Unit} (hm : (n, d) ∈ l) : Lib.VarReads P w n d := by
  have h1 := h.1
  unfold laidMetH at h1
  rw [List.isEmpty_iff.1 hn] at h1
  exact Lib.laidMet.reads h1 hm
theorem laid_tab (h : LaidI P l w) (hn : (l.filter fun x => x.2.handleName?.isSome).isEmpty = true) {n : String} {k : IntKind} {zs : List Int} (i : Nat) (hm : l[i]? = some (n, Lib.tabData k zs)) {g : Nat} {t e : TypeId} {m : Nat}
    (hg : P.globalNamed n = some g) (hty : (P.globals[g]?).map (·.type) = some t) (ht : P.underlying t = some (.array m e)) (he : P.underlying e = some (.int k)) (hce : P.cellsOf e = 1) (hct : P.cellsOf t = m) : Lib.TabIs P w n k zs := by
  obtain ⟨g', t', cs, fuel, p, hg', ht', hvar, hd⟩ := laid_reads h hn (List.mem_of_getElem? hm)
  obtain rfl := Option.some.inj (hg.symm.trans hg')
  obtain rfl := Option.some.inj (hty.symm.trans ht')
  unfold Lib.TabIs
  rw [hvar, ← Lib.cells_of_tab ht he hce hct hd]
theorem laid_iface (h : LaidI P l w) (hn : (l.filter fun x => x.2.handleName?.isSome).isEmpty = true) {n nm : String} {d : DataW Unit} (i : Nat) (hm : l[i]? = some (n, .iface nm d)) {g : Nat} {t : TypeId} {ms : Array (String × TypeId)}
    (hg : P.globalNamed n = some g) (hty : (P.globals[g]?).map (·.type) = some t) (ht : P.underlying t = some (.interface ms)) : ∃ ev, w.cell? ⟨g, 0, none⟩ = some ev ∧ (ev = .nilIface ∨ ∃ te pe, ev = .iface te pe) := by
  obtain ⟨g', t', cs, fuel, p, hg', ht', hvar, hd⟩ := laid_reads h hn (List.mem_of_getElem? hm)
  obtain rfl := Option.some.inj (hg.symm.trans hg')
  obtain rfl := Option.some.inj (hty.symm.trans ht')
  cases fuel with
  | zero => simp [DataW.trod] at hd
  | succ fuel =>
    unfold DataW.trod at hd
    rw [ht] at hd
    have hc : ∃ u v, cs.toList = [.iface u v] := by
      generalize cs.toList = q at hd
      split at hd <;> simp_all
    obtain ⟨u, v, hc⟩ := hc
    refine ⟨.iface u v, ?_, .inr ⟨u, v, rfl⟩⟩
    rw [World.var?_cell hg hvar 0, ← Array.getElem?_toList, hc]
    rfl
end
end Go.AM
set_option linter.unusedVariables false
set_option linter.unusedSimpArgs false
namespace Go.AM
theorem wrap_in {x : Int} (h : -9223372036854775808 ≤ x ∧ x ≤ 9223372036854775807) : IntKind.wrap .i64 x = x := IntWalk.i64_in x h
theorem idx_nat {α : Type} (l : List α) (k : Nat) : idx l (k : Int) = l[k]? := by simp [idx]
theorem idx_lt {α : Type} {l : List α} {k : Nat} (h : k < l.length) : idx l (k : Int) = some l[k] := by rw [idx_nat]; simp [h]
theorem idx_pred {α : Type} {l : List α} {k : Nat} (h0 : 0 < k) : idx l ((k : Int) - 1) = l[k - 1]? := by
  rw [show ((k : Int) - 1) = ((k - 1 : Nat) : Int) from by omega, idx_nat]
theorem sub_nat {α : Type} (l : List α) (a b : Nat) (h : a ≤ b) (hb : b ≤ l.length) : sub l (a : Int) (b : Int) = some ((l.take b).drop a) := by
  simp [sub, h, hb]
theorem drop_cons {α : Type} {l r : List α} {x : α} {k : Nat} (h : l.drop k = x :: r) : k < l.length ∧ l[k]? = some x ∧ l.drop (k + 1) = r := by
  have h1 : k < l.length := by
    have := congrArg List.length h
    simp at this
    omega
  refine ⟨h1, ?_, ?_⟩
  · have := congrArg (·[0]?) h
    simpa using this
  · rw [← List.drop_drop, h]
    rfl
theorem drop_nil' {α : Type} {l : List α} {k : Nat} (h : l.drop k = []) : l.length ≤ k := by simpa using h
theorem bdec {α : Type} {p : Prop} [Decidable p] {a b : α} : (bif decide p then a else b) = if p then a else b := by by_cases h : p <;> simp [h]
theorem bif_pos {α : Type} {p : Prop} [Decidable p] {a b : α} (h : p) : (bif decide p then a else b) = a := by simp [h]
theorem bif_neg {α : Type} {p : Prop} [Decidable p] {a b : α} (h : ¬ p) : (bif decide p then a else b) = b := by simp [h]
theorem some_bind' {α β : Type} (a : α) (f : α → Option β) : (some a).bind f = f a := rfl
theorem strMax_eq : strMax = 4611686018427387904 := rfl
theorem wrap_succ {k : Nat} (h : k < 4611686018427387904) : IntKind.wrap .i64 ((k : Int) + 1) = ((k + 1 : Nat) : Int) := by rw [wrap_in (by omega)]; omega
theorem indexByte_ge {l : List UInt8} {c : UInt8} : 0 ≤ Lib.indexByte l c ↔ c ∈ l := by
  induction l with
  | nil => simp [Lib.indexByte]
  | cons b l ih =>
    simp only [Lib.indexByte, List.mem_cons]
    by_cases hb : b = c
    · simp [hb]
    · have hb' : ¬ c = b := fun h => hb h.symm
      have hlo : -1 ≤ Lib.indexByte l c := by
        clear ih
        induction l with
        | nil => simp [Lib.indexByte]
        | cons d l ih =>
          simp only [Lib.indexByte]
          split
          · omega
          · split <;> rename_i h1 h2
            · omega
            · have : Lib.indexByte l c ≠ -1 := by simpa using h2
              omega
      simp only [beq_iff_eq, hb, if_false, hb', false_or]
      by_cases hm : Lib.indexByte l c = -1
      · simp only [hm, if_true]
        rw [hm] at ih
        simpa using ih
      · simp only [hm, if_false, ← ih]
        omega
def feeds : List (List UInt8) → List UInt8
  | [] => []
  | s :: l => s ++ [10] ++ feeds l
theorem feeds_eq (l : List (List UInt8)) (h : l ≠ []) : Lib.join l [10] ++ [10] = feeds l := by
  match l, h with
  | x :: r, _ =>
    rw [Lib.join_cons]
    induction r generalizing x with
    | nil => simp [Lib.joinTail, feeds]
    | cons y r ih =>
      have := ih y (by simp)
      simp only [feeds, Lib.joinTail, List.map_cons, List.flatten_cons] at this ⊢
      rw [← this]
      simp
theorem feeds_append (l m : List (List UInt8)) : feeds (l ++ m) = feeds l ++ feeds m := by
  induction l with
  | nil => rfl
  | cons x l ih => simp [feeds, ih]
end Go.AM
set_option linter.unusedVariables false
namespace Go.AM
def datVals : Nat → DataW Unit → List Value
  | 0, _ => []
  | n + 1, .lit (.int k z) => [.int k z]
  | n + 1, .lit (.string bs) => [.string ⟨bs.toArray⟩]
  | n + 1, .agg l => l.flatMap (datVals n)
  | n + 1, .ptr d => datVals n d
  | n + 1, .iface _ d => datVals n d
  | _, _ => []
def putCells (h : Array Obj) (g : Nat) (cs : Array Value) : Array Obj := h.modify g fun
  | .cells _ t frozen => .cells cs t frozen
  | o => o
def layTab (g : Nat) (d : DataW Unit) (h : Array Obj) : Array Obj := putCells h g (datVals 4 d).toArray
def layErr (g tp te : Nat) (d : DataW Unit) (h : Array Obj) : Array Obj := putCells (h.push (.cells (datVals 4 d).toArray te (0, 0))) g #[.iface tp (.pointer (some ⟨h.size, 0, none⟩))]
noncomputable def laidOf (P : Program) (os : Os) (fs : List (Array Obj → Array Obj)) : World :=
  { World.holding P os ⟨#[], #[], []⟩ with heap := fs.foldl (fun h f => f h) (World.holding P os ⟨#[], #[], []⟩).heap }
end Go.AM
