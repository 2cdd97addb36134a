/- DecBack: for every input true, and the input reads as it did. -/
import Derived.Test.YtckofkijjcbcoaaDoorQ3
import Derived.Test.YtckofkijjcbcoaaDoorCards
import Derived.Test.YtckofkijjcbcoaaDoorTie
import Derived.OpenShut
import Derived.KernelRfl
set_option linter.unusedVariables false
set_option linter.unusedSimpArgs false
namespace Go.AM
def DecOK (d : DecD) : Prop := (0 ≤ d.2.1 ∧ d.2.1 ≤ 18446744073709551615) ∧ -9223372036854775808 ≤ d.2.2.1 ∧ d.2.2.1 ≤ 9223372036854775807
theorem dec_nat {d : DecD} (h : DecOK d) : ∃ (neg : Bool) (c : Nat) (e : Int), d = (neg, (c : Int), e, ()) ∧ c < two64 ∧ -9223372036854775808 ≤ e ∧ e ≤ 9223372036854775807 := by
  obtain ⟨neg, c, e, _⟩ := d
  obtain ⟨⟨h1, h2⟩, h3, h4⟩ := h
  simp only at h1 h2 h3 h4
  refine ⟨neg, c.toNat, e, ?_, ?_, h3, h4⟩
  · rw [show ((c.toNat : Nat) : Int) = c from by omega]
  · rw [two64_eq]; omega
theorem dec_normals (n : Nat) (hn : 5000 ≤ n) (d : DecD) (hd : DecOK d) : F.law03_DecNormals n d = some true := by
  obtain ⟨neg, c, e, rfl, hc, he⟩ := dec_nat hd
  unfold F.law03_DecNormals
  have hl := dd_len64 hc
  have hR : F.ref03_Normal n (neg, (c : Int), e, ()) = some (valR neg (Lib.decDigits c) e) := by
    unfold F.ref03_Normal
    simp only [digits03 n (by omega) c hc, make_eq n hn neg _ (dd_digs c) (by omega) e, some_bind']
    rcases valR_code neg (Lib.decDigits c) e with h | ⟨h1, h2⟩
    · rw [h]
      generalize valR neg (Lib.decDigits c) e = r at h ⊢
      obtain ⟨r1, r2, _⟩ := r
      simp only at h
      subst h
      rfl
    · rw [h1]
      generalize valR neg (Lib.decDigits c) e = r at h1 h2 ⊢
      obtain ⟨r1, r2, _⟩ := r
      simp only at h1 h2
      subst h1 h2
      rfl
  simp only [normal_eq n (by omega) neg c hc e he, hR, check_eq n (by omega) neg c hc e he, check_ref n hn neg c hc e, awake03 n hn, some_bind', beq_self_eq_true, Bool.and_self, cond_true]
theorem dec_parses (n : Nat) (hn : 5000 ≤ n) (s : List UInt8) : F.law03_DecParses n s = some true := by
  unfold F.law03_DecParses
  rw [awake03 n hn]
  by_cases h : 200 < s.length
  · rw [bif_pos (by omega)]; rfl
  · rw [bif_neg (by omega)]
    simp only [decparse_eq n hn s (by omega), refparse_eq n hn s (by omega), some_bind', beq_self_eq_true, Bool.and_self, cond_true]
theorem parse_cases (s : List UInt8) : ((parseR s).2.1.1 ≠ 0 ∧ (parseR s).1 = (false, 0, 0, ()) ∧ 0 ≤ (parseR s).2.1.2.1 ∧ (parseR s).2.1.2.1 ≤ s.length) ∨
    (∃ (neg : Bool) (c : Nat) (e : Int), parseR s = ((neg, (c : Int), e, ()), (0, 0, ()), ()) ∧ c < two64 ∧ (-9223372036854775808 ≤ e ∧ e ≤ 9223372036854775807) ∧ checkR neg c e = 0) := by
  unfold parseR
  by_cases h : (lookR s).1 = 0
  · rw [if_pos h]
    have hD : Digs (aheadD s ++ behindD s) := digs_append.2 ⟨tw_digs _, behind_digs s⟩
    generalize aheadD s ++ behindD s = d at hD
    generalize (-((behindD s).length : Int)) = E
    generalize negD s = neg
    by_cases hv : val d = 0
    · refine Or.inr ⟨false, 0, 0, ?_, by decide, by omega, ?_⟩
      · have : valR neg d E = zeroD := by unfold valR; rw [if_pos hv]
        rw [this]; rfl
      · have d0 : Lib.decDigits 0 = [48] := dd_small (by omega)
        unfold checkR
        rw [d0]; rfl
    · obtain ⟨c0, z, h1, h2⟩ := ten_split (val d) (by omega)
      rw [valR_core hD h2 h1]
      generalize E + (z : Int) = Y
      by_cases hY : Y < -18
      · refine Or.inl ?_
        have : normR neg c0 Y = ((false, 0, 0, ()), 10, ()) := by unfold normR; rw [if_pos hY]
        rw [this]
        exact ⟨by decide, rfl, by decide, by show (0 : Int) ≤ s.length; omega⟩
      · by_cases hf : c0 * 10 ^ (Y - 18).toNat < two64
        · have e1 : normR neg c0 Y = ((neg, ((c0 * 10 ^ (Y - 18).toNat : Nat) : Int), (if Y ≤ 18 then Y else 18), ()), 0, ()) := by unfold normR; rw [if_neg hY, if_pos hf]
          rw [e1]
          have hE : -18 ≤ (if Y ≤ 18 then Y else 18) ∧ (if Y ≤ 18 then Y else 18) ≤ 18 := by split <;> omega
          refine Or.inr ⟨neg, c0 * 10 ^ (Y - 18).toNat, (if Y ≤ 18 then Y else 18), rfl, hf, by omega, ?_⟩
          unfold checkR
          rw [if_neg (by omega), valR_core (dd_digs _) h2 (dd_val _)]
          have e2 : (if Y ≤ 18 then Y else 18) + (((Y - 18).toNat : Nat) : Int) = Y := by split <;> omega
          rw [e2, e1, if_pos ⟨rfl, rfl⟩]
        · refine Or.inl ?_
          have : normR neg c0 Y = ((false, 0, 0, ()), 10, ()) := by unfold normR; rw [if_neg hY, if_neg hf]
          rw [this]
          exact ⟨by decide, rfl, by decide, by show (0 : Int) ≤ s.length; omega⟩
  · rw [if_neg h]
    refine Or.inl ⟨h, rfl, ?_⟩
    show 0 ≤ (lookR s).2.1 ∧ (lookR s).2.1 ≤ s.length
    have endle : ∀ (r : Prop) [Decidable r] (a l : Nat), a ≤ l → 0 ≤ (endR r a l).2.1 ∧ (endR r a l).2.1 ≤ (l : Int) := by
      intro r _ a l hl
      unfold endR
      split
      · show (0 : Int) ≤ 0 ∧ (0 : Int) ≤ l; omega
      · split
        · show (0 : Int) ≤ a ∧ (a : Int) ≤ l; omega
        · show (0 : Int) ≤ a ∧ (a : Int) ≤ l; omega
    unfold lookR lookQ
    split
    · rename_i hp
      exact endle _ _ _ (p3_le hp.2)
    · exact endle _ _ _ (p1_le (p0_le s))
theorem back_tail (n : Nat) (hn : 5000 ≤ n) (s : List UInt8) (hs : s.length ≤ 200) :
    ((F.dec_Parse n s).bind fun y5 =>
                  bif !((y5.2.1.1 == (0 : Int)) && (y5.2.1.2.1 == (0 : Int))) then
                    bif (y5.1.1 == false) && ((y5.1.2.1 == (0 : Int)) && (y5.1.2.2.1 == (0 : Int))) then
                      bif !(y5.2.1.1 == (0 : Int)) then
                        bif decide (y5.2.1.2.1 ≥ (0 : Int)) then
                          bif decide (y5.2.1.2.1 ≤ (s.length : Int)) then
                            (F.law03_awake n ).bind fun y6 =>
                              some (y6)
                          else
                            some (false)
                        else
                          some (false)
                      else
                        some (false)
                    else
                      some (false)
                  else
                    (F.dec_Text n (y5.1.1, y5.1.2.1, y5.1.2.2.1, ())).bind fun y7 =>
                      (F.dec_Parse n y7.1).bind fun y8 =>
                        (F.dec_Check n (y5.1.1, y5.1.2.1, y5.1.2.2.1, ())).bind fun y9 =>
                          bif y9 == (0 : Int) then
                            bif y7.2.1 == (0 : Int) then
                              bif (y8.2.1.1 == (0 : Int)) && (y8.2.1.2.1 == (0 : Int)) then
                                bif (y8.1.1 == y5.1.1) && ((y8.1.2.1 == y5.1.2.1) && (y8.1.2.2.1 == y5.1.2.2.1)) then
                                  (F.law03_awake n ).bind fun y10 =>
                                    some (y10)
                                else
                                  some (false)
                              else
                                some (false)
                            else
                              some (false)
                          else
                            some (false)) = some true := by
  rw [decparse_eq n hn s (by omega), some_bind', awake03 n hn]
  rcases parse_cases s with ⟨h1, h2, h3, h4⟩ | ⟨neg, c, e, h1, hc, he, hk⟩
  · have e1 : ((parseR s).2.1.1 == 0) = false := by simpa using h1
    rw [e1, h2]
    have a1 : decide ((parseR s).2.1.2.1 ≥ 0) = true := by simpa using h3
    have a2 : decide ((parseR s).2.1.2.1 ≤ (s.length : Int)) = true := by simpa using h4
    simp only [Bool.false_and, Bool.not_false, cond_true, a1, a2, some_bind']
    rfl
  · rw [h1]
    have hl := text_len neg c hc e (check_zero hk).2
    simp only [text_dec n hn neg c hc e he, check_eq n (by omega) neg c hc e he, hk, if_true, some_bind', decparse_eq n hn (textD neg c e) (by omega), parse_text neg c hc e hk, beq_self_eq_true, Bool.and_self, Bool.not_true, cond_false, cond_true]
theorem dec_back (n : Nat) (hn : 5000 ≤ n) (d : DecD) (hd : DecOK d) (s : List UInt8) : F.law03_DecBack n d s = some true := by
  obtain ⟨neg, c, e, rfl, hc, he⟩ := dec_nat hd
  have T : ∀ h : s.length ≤ 200, _ := fun h => back_tail n hn s h
  unfold F.law03_DecBack
  by_cases h : 200 < s.length
  · rw [bif_pos (by omega), awake03 n hn]; rfl
  have T := T (by omega)
  rw [bif_neg (by omega)]
  simp only [text_dec n hn neg c hc e he, some_bind']
  by_cases hk : checkR neg c e = 0
  · have hl := text_len neg c hc e (check_zero hk).2
    have h39 : decide (((textD neg c e).length : Int) > 39) = false := by
      have := hl.1
      simp; omega
    simp only [hk, if_true, beq_self_eq_true, cond_true, decparse_eq n hn (textD neg c e) (by omega), parse_text neg c hc e hk, check_eq n (by omega) neg c hc e he, some_bind', Bool.and_self, Bool.not_true, cond_false, h39]
    exact T
  · have e1 : (checkR neg c e == 0) = false := by simpa using hk
    rw [if_neg hk]
    simp only [e1, cond_false, beq_self_eq_true, Bool.not_true, check_eq n (by omega) neg c hc e he, some_bind']
    exact T
end Go.AM
namespace Go.Proofs.YtckofkijjcbcoaaDoor.decBack
open Go.ChangeShapes Go.WideShapes Go.ChangeAt Go.RowKit Go.AM
theorem own : ownKnob Tryd.prog.godebug = none := by kernel_rfl
theorem goes : LawGoes Tryd.prog SI 5 [(.agg [.bool, (.int .u64), (.int .i64)]), .str] := fun x hx w vals hI hr =>
  ok5 _ ((x.1.1, x.1.2.1, x.1.2.2, ()), x.2.1, ()) true (dec_back 5000 (by omega) (x.1.1, x.1.2.1, x.1.2.2, ()) ⟨hx.1.2.1, hx.1.2.2⟩ x.2.1) w (AllD w) vals (WOf.of hI) hr (fun b o h => h)
noncomputable def laidWorld (os : Os) : World := laidOf Tryd.prog os [layTab 4 Rows.laid_math_bits_deBruijn32tab, layTab 5 Rows.laid_math_bits_deBruijn64tab, layTab 1 Rows.laid_internal_strconv_uint64pow10, layTab 3 Rows.laid_unicode_utf8_acceptRanges, layTab 2 Rows.laid_unicode_utf8_first]
theorem laid_met (os : Os) (args : Array Value) : laidMet Tryd.prog Rows.decBackRow.laid ((laidWorld os).forCall (fun _ _ => 0) ⟨#[], args, []⟩).memory :=
  (LaidIn.of_run [4, 5, 1, 3, 2] 8 (by kernel_rfl) (by kernel_rfl) (by kernel_rfl) (by kernel_rfl)).met
theorem witness_row (os : Os) {H : Type} (enc : TypeId × Value → H) :
    (OpenSpec.ofChange Rows.decBackSpec).preRow enc Tryd.prog Tryd.f5 Rows.decBackRow.domain false Rows.decBackRow.laid ((laidWorld os).forCall (fun _ _ => 0) ⟨#[], #[.agg #[.bool false, .int .u64 0, .int .i64 0], .string .empty], []⟩).memory #[.agg #[.bool false, .int .u64 0, .int .i64 0], .string .empty] := by
  have hw : (DataW.whole enc Tryd.prog ((laidWorld os).forCall (fun _ _ => 0) ⟨#[], #[.agg #[.bool false, .int .u64 0, .int .i64 0], .string .empty], []⟩).memory Tryd.f5.params.toList Rows.decBackSpec.vars false (#[.agg #[.bool false, .int .u64 0, .int .i64 0], .string .empty] : Array Value).toList 8).map (fun x => (x.1, x.2.1)) =
      some ([.agg [.lit (.bool false), .lit (.int .u64 0), .lit (.int .i64 0)], .lit (.string [])], []) := by kernel_rfl
  obtain ⟨⟨x1, x2, x3⟩, hx, hx1⟩ := Option.map_eq_some_iff.1 hw
  simp only [Prod.mk.injEq] at hx1
  obtain ⟨rfl, rfl⟩ := hx1
  exact OpenSpec.preRow_of_cond 8 hx (by kernel_rfl) (fun k hk => by cases hk) (by kernel_rfl) (laid_met os _)
set_option maxRecDepth 100000 in
theorem lifted (os : Os) (started : os.Started) (H : Type) (enc : TypeId × Value → H) (F : Stop.Interp) :
    ReturnsInHanded {} Tryd.checked os 5 .any ((OpenSpec.ofChange Rows.decBackSpec).preRow enc Tryd.prog Tryd.f5 Rows.decBackRow.domain false Rows.decBackRow.laid) (((OpenSpec.ofChange Rows.decBackSpec).at F).post enc Tryd.prog Tryd.f5 false true false false) := by
  refine returnsInHanded_of_row (C := Tryd.checked) (s := OpenSpec.ofChange Rows.decBackSpec) own started (by kernel_rfl) Tryd.func5
    (witness_row_atRef (enc := enc) (C := Tryd.checked) false (laidWorld os) #[.agg #[.bool false, .int .u64 0, .int .i64 0], .string .empty] rfl (by kernel_rfl) (by kernel_rfl) (by kernel_rfl) (witness_row os enc)) ?_
  intro W base args ds gs before hval hW _ _ hw hL hO _
  exact law_calls (s := Rows.decBackSpec) (n := 8) (by kernel_rfl) Tryd.func5 (by kernel_rfl) (by decide) (by kernel_rfl) rfl Tryd.underlying4 rfl (fun ds h => by match ds, h with | [_, _], _ => rfl) goes hval hW hw ⟨hL, hO⟩
theorem said : Rows.DecBackSaid :=
  OpenClaim.holds_of_cond 5 Tryd.f5 rfl rfl rfl rfl rfl rfl rfl ⟨rfl, rfl, rfl, rfl, rfl⟩ rfl rfl rfl rfl rfl (by kernel_rfl) Tryd.func5 (by kernel_rfl)
    (of_decide_eq_true (by kernel_rfl)) (by unfold Func.isWrapper; first | (rw [if_pos (by decide +kernel)]; kernel_rfl) | (rw [if_neg (by decide +kernel)]; exact ⟨rfl, rfl⟩))
    (fun os started H enc _ F => by rw [OpenClaim.pre_eq_preRow]; exact lifted os started H enc F)
theorem plain (f : FuncId) (fn : Func) (hf : Tryd.pinned.checked.prog.funcNamed "forebay/forebaylaw03.DecBack" = some f) (hfn : Tryd.pinned.checked.prog.funcs[f]? = some fn) :
    false = Tryd.pinned.checked.prog.looks [] ∧ ∀ (j : Nat) t, fn.params[j]? = some t → Tryd.pinned.checked.prog.wantsStandIn t = false := by
  obtain rfl : f = 5 := Option.some.inj ((show Tryd.prog.funcNamed "forebay/forebaylaw03.DecBack" = some 5 by kernel_rfl).symm.trans hf) |>.symm
  obtain rfl : fn = Tryd.f5 := (Option.some.inj (Tryd.func5.symm.trans hfn)).symm
  refine ⟨by kernel_rfl, fun j t ht => ?_⟩
  have hm : t ∈ ([24, 9] : List TypeId) := by
    rw [Tryd.params5] at ht
    have := Array.mem_of_getElem? ht
    simpa using this
  have all : ∀ x ∈ ([24, 9] : List TypeId), Tryd.prog.wantsStandIn x = false := fun x hx => by
    have h : ([24, 9] : List TypeId).all (fun x => Tryd.prog.wantsStandIn x == false) = true := by kernel_rfl
    simpa using List.all_eq_true.1 h x hx
  exact all t hm
theorem proved : Rows.DecBackCardSaid :=
  Claim7.holds_tied_plain_at .later [] _ _ _ _ said (fun _ h => by cases h) (by kernel_rfl) (fun _ h => by cases h) decBack_row_tie rfl ⟨rfl, rfl⟩ (by kernel_rfl) rfl plain (by kernel_rfl)
end Go.Proofs.YtckofkijjcbcoaaDoor.decBack
