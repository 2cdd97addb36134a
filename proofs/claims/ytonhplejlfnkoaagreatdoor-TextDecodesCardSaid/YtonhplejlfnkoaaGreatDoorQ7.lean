/- TextDecodes: text.Decode decodes each text as the document does, or tells the same fault at the same byte, for all bytes up to 3000 and every format. -/
import Derived.Test.YtonhplejlfnkoaaGreatDoorQ6
import Derived.Test.YtonhplejlfnkoaaGreatDoorCards
import Derived.Test.YtonhplejlfnkoaaGreatDoorTie
import Derived.OpenShut
import Derived.KernelRfl
set_option linter.unusedVariables false
set_option linter.unusedSimpArgs false
namespace Go.AM
theorem zk0 (n : Nat) (X : Type) (k2 : List UInt8→Int→List MetL→Int→Int→Int→Int→Nat→Option X) (b : List UInt8) (hb : b.length ≤ 100000) (f : Int) (out : List MetL) (fr : Int) (b0 b1 : Int) (k : Nat) : ∀ (r : List UInt8) (i m : Nat),b.drop i = r→i ≤ b.length→r.length < m →
    F.zl.L9 n k2 m b f out fr (i : Int) b0 b1 k = k2 b f out fr ((i + (seg 10 r).length : Nat) : Int) b0 b1 k:=by
  intro r
  induction r with
  | nil =>
    intro i m h1 hi hm
    obtain ⟨m,rfl⟩ : ∃ q,m = q + 1:=⟨m - 1,by omega⟩
    rw [F.zl.L9]
    unfold F.zl.L9.step
    dsimp only
    rw [zf (by have:=zo h1; omega)]
    rfl
  | cons x r ih =>
    intro i m h1 hi hm
    obtain ⟨m,rfl⟩ : ∃ q,m = q + 1:=⟨m - 1,by simp at hm; omega⟩
    obtain ⟨l1,g1,t1⟩:=zn h1
    have hx10 : (((x.toNat : Nat) : Int) == 10) = decide (x = 10):=zan x 10
    rw [F.zl.L9]
    unfold F.zl.L9.step
    dsimp only
    rw [zd (by omega),zp,g1,za,hx10,zaf]
    by_cases hx : x = 10
    · rw [decide_eq_true hx,Bool.not_true,cond_false,if_pos hx]
      rfl
    · rw [decide_eq_false hx,Bool.not_false,cond_true,if_neg hx,zj (by omega),ih (i + 1) m t1 (by omega) (by simp at hm; omega)]
      have : i + 1 + (seg 10 r).length = i + (x :: seg 10 r).length:=by simp; omega
      rw [this]
theorem zp1 (n : Nat) (hn : 200000 ≤ n) (b : List UInt8) (hb : b.length ≤ 20000) (f : Int) (X : Type) (k0 kr : List MetL→Int→Int→Nat→Option X) (b0 b1 : Int) : ∀ (m i : Nat) (out : List MetL),(b.drop i).length < m→i ≤ b.length→out.length ≤ 1000 →
    F.zl.L5 n k0 kr m b f out (i : Int) b0 b1 out.length = match decF f (splitL 10 (b.drop i)) out (i : Int) with
      | .ok l => k0 l b0 b1 l.length
      | .error e => kr [] e.1 e.2 0:=by
  intro m
  induction m with
  | zero => intro i out h; omega
  | succ m ih =>
    intro i out hm hi ho
    have hdl : (b.drop i).length = b.length - i:=List.length_drop
    rw [F.zl.L5]
    unfold F.zl.L5.step
    dsimp only
    by_cases hne : b.drop i = []
    · rw [zf (by have:=zo hne; omega),hne]
      rfl
    have hp:=List.length_pos_iff.2 hne
    have hk : ((out.length : Int) == 1000) = decide (out.length = 1000):=by
      by_cases h : out.length = 1000
      · rw [h]; rfl
      · rw [decide_eq_false h,beq_eq_false_iff_ne]; omega
    have hsl:=z6 10 (b.drop i)
    rw [zd (by omega),hk,zcf]
    by_cases hin : (10 : UInt8) ∈ b.drop i
    · have hlt:=zae hin
      have hsne:=zad 10 (restN 10 (b.drop i))
      have hrn : restN 10 (b.drop i) = b.drop (i + (seg 10 (b.drop i)).length + 1):=by unfold restN; rw [if_pos hin,List.drop_drop]; rfl
      obtain ⟨q,r,hqr⟩ : ∃ q r,splitL 10 (restN 10 (b.drop i)) = q :: r:=by
        cases hq : splitL 10 (restN 10 (b.drop i)) with
        | nil => exact absurd hq hsne
        | cons q r => exact ⟨q,r,rfl⟩
      rw [if_pos hin,hqr,decF]
      by_cases h1000 : out.length = 1000
      · rw [decide_eq_true h1000,cond_true,if_pos h1000]
      · rw [decide_eq_false h1000,cond_false,if_neg h1000]
        refine (zk0 n X _ b (by omega) f out (i : Int) b0 b1 out.length (b.drop i) i n rfl hi (by omega)).trans ?_
        have he : ((((i + (seg 10 (b.drop i)).length : Nat)) : Int) == (b.length : Int)) = false:=by rw [beq_eq_false_iff_ne]; omega
        have hs : sub b (i : Int) ((i + (seg 10 (b.drop i)).length : Nat) : Int) = some (seg 10 (b.drop i)):=by
          rw [zq b i _ (by omega) (by omega),List.drop_take,show i + (seg 10 (b.drop i)).length - i = (seg 10 (b.drop i)).length by omega,zcr]
        have hpa:=zkz (seg 10 (b.drop i)) f
        rw [he,cond_false,hs,za,zgy n hn _ (by omega),za]
        by_cases hc : (parseT (seg 10 (b.drop i)) f).2.1.1 = 0
        · rw [if_neg (fun h => h hc),hc,beq_self_eq_true,Bool.not_true,cond_false,growM (by omega),Nat.beq_refl,cond_true,zj (by omega)]
          have:=ih (i + (seg 10 (b.drop i)).length + 1) (out ++ [toL (parseT (seg 10 (b.drop i)) f).1]) (by rw [List.length_drop]; omega) (by omega) (by simp; omega)
          rw [← hrn,hqr] at this
          have ec : ((i + (seg 10 (b.drop i)).length + 1 : Nat) : Int) = (i : Int) + (seg 10 (b.drop i)).length + 1:=by omega
          rw [ec] at this ⊢
          exact this
        · rw [if_pos hc,beq_eq_false_iff_ne.2 hc,Bool.not_false,cond_true,zl (by omega)]
    · rw [if_neg hin,decF,if_neg hne]
      by_cases h1000 : out.length = 1000
      · rw [decide_eq_true h1000,cond_true,if_pos h1000]
      · rw [decide_eq_false h1000,cond_false,if_neg h1000]
        refine (zk0 n X _ b (by omega) f out (i : Int) b0 b1 out.length (b.drop i) i n rfl hi (by omega)).trans ?_
        have hs:=zaj hin
        have he : ((((i + (seg 10 (b.drop i)).length : Nat)) : Int) == (b.length : Int)) = true:=by rw [beq_iff_eq,hs]; omega
        rw [he,cond_true]
theorem zk1 (n : Nat) (hn : 200000 ≤ n) (b : List UInt8) (hb : b.length ≤ 20000) (f : Int) : F.zl n b f = some (decodeT b f):=by
  unfold F.zl decodeT
  rw [zky,za]
  cases hf : fmtB f
  · rw [if_pos rfl]; rfl
  · rw [if_neg (by simp),Bool.not_true,cond_false]
    refine (zp1 n hn b hb f _ _ _ 0 0 n 0 [] (by simp; omega) (by omega) (by simp)).trans ?_
    rw [List.drop_zero]
    show (match decF f (splitL 10 b) [] 0 with | .ok l => _ | .error e => _) = _
    cases decF f (splitL 10 b) [] 0 <;> rfl
def SmallL (l : List MetL) : Prop:=∀ x ∈ l,x.2.2.1.length ≤ 1000 ∧ x.2.2.2.2.1.length ≤ 1000
theorem zgz (f : Int) : ∀ (ps : List (List UInt8)) (out : List MetL) (a : Int) (l : List MetL),decF f ps out a = .ok l→SmallL out→out.length ≤ 1000→SmallL l ∧ l.length ≤ 1000
  | [],out,a,l,h,ho,hl => by cases h; exact ⟨ho,hl⟩
  | [t],out,a,l,h,ho,hl => by
    rw [decF] at h
    split at h
    · cases h; exact ⟨ho,hl⟩
    · split at h <;> cases h
  | p :: q :: r,out,a,l,h,ho,hl => by
    rw [decF] at h
    split at h
    · cases h
    · rename_i h1
      split at h
      · cases h
      · rename_i hc
        have hc : (parseT p f).2.1.1 = 0:=Classical.byContradiction hc
        have hs : (parseT p f).1.2.2.1.length ≤ 64 ∧ (parseT p f).1.2.2.2.2.1.length ≤ 32:=by
          rcases zcs p f with ⟨_,h2,h3⟩ | ⟨c,a',h2,_,_,h3⟩
          · exact ⟨h2,h3⟩
          · rw [h3] at hc; exact absurd hc h2
        refine zgz f (q :: r) _ _ l h (fun x hx => ?_) (by simp; omega)
        rcases List.mem_append.1 hx with hx | hx
        · exact ho x hx
        · rw [List.mem_singleton.1 hx]
          exact ⟨(show (parseT p f).1.2.2.1.length ≤ 1000 by omega),(show (parseT p f).1.2.2.2.2.1.length ≤ 1000 by omega)⟩
theorem zi0 (b : List UInt8) (f : Int) : SmallL (decodeT b f).1 ∧ (decodeT b f).1.length ≤ 1000:=by
  have z : SmallL ([] : List MetL):=fun x hx => by cases hx
  unfold decodeT
  split
  · exact ⟨z,by simp⟩
  · cases h : decF f (splitL 10 b) [] 0 with
    | ok l => exact zgz f _ _ _ l h z (by simp)
    | error e => exact ⟨z,by simp [outT]⟩
theorem zls (n : Nat) (hn : 200000 ≤ n) (X : Type) (k0 : Unit→Option X) (kr : Bool→Option X) (l : List MetL) (hl : l.length ≤ 1000) (hs : SmallL l) : ∀ (j i m : Nat),i + j = l.length→j < m→F.zu.L4 n k0 kr m l l (i : Int) = k0 ():=by
  intro j
  induction j with
  | zero =>
    intro i m h1 hm
    obtain ⟨m,rfl⟩ : ∃ q,m = q + 1:=⟨m - 1,by omega⟩
    rw [F.zu.L4]
    unfold F.zu.L4.step
    dsimp only
    rw [zf (by omega)]
  | succ j ih =>
    intro i m h1 hm
    obtain ⟨m,rfl⟩ : ∃ q,m = q + 1:=⟨m - 1,by omega⟩
    have hx:=hs l[i] (List.getElem_mem (by omega))
    have he : F.zi n (l[i].1,l[i].2.1,l[i].2.2.1,l[i].2.2.2.1,l[i].2.2.2.2.1,l[i].2.2.2.2.2,()) (l[i].1,l[i].2.1,l[i].2.2.1,l[i].2.2.2.1,l[i].2.2.2.2.1,l[i].2.2.2.2.2,()) = some true:=
      zix n hn (l[i].1,l[i].2.1,l[i].2.2.1,l[i].2.2.2.1,l[i].2.2.2.2.1,l[i].2.2.2.2.2,()) (by have:=hx.1; show l[i].2.2.1.length ≤ _; omega) (by have:=hx.2; show l[i].2.2.2.2.1.length ≤ _; omega)
    rw [F.zu.L4]
    unfold F.zu.L4.step
    dsimp only
    rw [zd (by omega),zb6 (by omega : i < l.length),za,za,he,za,Bool.not_true,cond_false,zj (by omega),ih (i + 1) m (by omega) (by omega)]
theorem zlt (n : Nat) (hn : 200000 ≤ n) (l : List MetL) (hl : l.length ≤ 1000) (hs : SmallL l) : F.zu n l l = some true:=by
  unfold F.zu
  rw [beq_self_eq_true,Bool.not_true,cond_false]
  exact zls n hn Bool _ _ l hl hs l.length 0 n (by omega) (by omega)
theorem awake13 (n : Nat) (hn : 200000 ≤ n) : F.za4 n = some true:=by
  unfold F.za4
  have q1 : decodeT [97,58,49,124,99,10,98,58,50,124,103,10] 1 = ([([97],1,[(false,1,0)],1000000,[],0),([98],2,[(false,2,0)],1000000,[],0)],(0,0,()),()):=by kernel_rfl
  have q2 : decodeT [97,58,49,124,99,10,98,58,120,124,103,10] 1 = ([],(17,8,()),()):=by kernel_rfl
  have q3 : decodeT [97,58,49,124,99] 1 = ([],(30,0,()),()):=by kernel_rfl
  have q4 : decodeT [97,58,49,124,99,10,10] 1 = ([],(15,6,()),()):=by kernel_rfl
  rw [zb8 n hn _ (by simp),zb8 n hn _ (by simp),zb8 n hn _ (by simp),zb8 n hn _ (by simp)]
  show (some (decodeT [97,58,49,124,99,10,98,58,50,124,103,10] 1)).bind _ = _
  rw [q1,za]
  show (some (decodeT [97,58,49,124,99,10,98,58,120,124,103,10] 1)).bind _ = _
  rw [q2,za]
  show (some (decodeT [97,58,49,124,99] 1)).bind _ = _
  rw [q3,za]
  show (some (decodeT [97,58,49,124,99,10,10] 1)).bind _ = _
  rw [q4,za]
  rfl
theorem zk2 (n : Nat) (hn : 200000 ≤ n) (b : List UInt8) (f : Int) : F.za6 n b f = some true:=by
  unfold F.za6
  rw [awake13 n hn]
  by_cases h : 3000 < b.length
  · rw [zd (by omega)]; rfl
  · obtain ⟨h1,h2⟩:=zi0 b f
    rw [zf (by omega),zb8 n hn b (by omega),zk1 n hn b (by omega)]
    simp only [za,zlt n hn _ h2 h1,cond_true,beq_self_eq_true,Bool.and_self]
end Go.AM
namespace Go.Proofs.YtonhplejlfnkoaaGreatDoor.textDecodes
open Go.ChangeShapes Go.WideShapes Go.ChangeAt Go.RowKit Go.AM
theorem own : ownKnob Tryz.prog.godebug = none:=by kernel_rfl
theorem goes : LawGoes Tryz.prog SI 3 [(.sl .u8),(.int .i64)]:=fun x hx w vals hI hr =>
  ok3 _ (x.1,x.2.1,()) true (zk2 200000 (by omega) x.1 x.2.1) w (AllD w) vals (WOf.of hI) hr (fun b o h => h)
noncomputable def laidWorld (os : Os) : World:=laidOf Tryz.prog os [layTab 4 Rows.laid_math_bits_deBruijn32tab,layTab 5 Rows.laid_math_bits_deBruijn64tab,layTab 1 Rows.laid_internal_strconv_uint64pow10,layTab 3 Rows.laid_unicode_utf8_acceptRanges,layErr 7 295 297 Rows.laid_strconv_ErrRange,layErr 6 295 297 Rows.laid_strconv_ErrSyntax,layTab 2 Rows.laid_unicode_utf8_first]
theorem zsk (os : Os) (args : Array Value) : laidMet Tryz.prog Rows.textDecodesRow.laid ((laidWorld os).forCall (fun _ _ => 0) ⟨#[],args,[]⟩).memory:=
  (LaidIn.of_run [4,5,1,3,7,6,2,(World.holding Tryz.prog os ⟨#[],#[],[]⟩).heap.size,(World.holding Tryz.prog os ⟨#[],#[],[]⟩).heap.size + 1] 8 (by kernel_rfl) (by kernel_rfl) (by kernel_rfl) (by kernel_rfl)).met
theorem zlu (os : Os) {H : Type} (enc : TypeId × Value→H) :
    (OpenSpec.ofChange Rows.textDecodesSpec).preRow enc Tryz.prog Tryz.f3 Rows.textDecodesRow.domain false Rows.textDecodesRow.laid ((laidWorld os).forCall (fun _ _ => 0) ⟨#[],#[.slice none 0 0,.int .i64 0],[]⟩).memory #[.slice none 0 0,.int .i64 0]:=by
  have hw : (DataW.whole enc Tryz.prog ((laidWorld os).forCall (fun _ _ => 0) ⟨#[],#[.slice none 0 0,.int .i64 0],[]⟩).memory Tryz.f3.params.toList Rows.textDecodesSpec.vars false (#[.slice none 0 0,.int .i64 0] : Array Value).toList 8).map (fun x => (x.1,x.2.1)) =
      some ([.nil,.lit (.int .i64 0)],[]):=by kernel_rfl
  obtain ⟨⟨x1,x2,x3⟩,hx,hx1⟩:=Option.map_eq_some_iff.1 hw
  simp only [Prod.mk.injEq] at hx1
  obtain ⟨rfl,rfl⟩:=hx1
  exact OpenSpec.preRow_of_cond 8 hx (by kernel_rfl) (fun k hk => by cases hk) (by kernel_rfl) (zsk os _)
set_option maxRecDepth 100000 in
theorem lifted (os : Os) (started : os.Started) (H : Type) (enc : TypeId × Value→H) (F : Stop.Interp) :
    ReturnsInHanded {} Tryz.checked os 3 .any ((OpenSpec.ofChange Rows.textDecodesSpec).preRow enc Tryz.prog Tryz.f3 Rows.textDecodesRow.domain false Rows.textDecodesRow.laid) (((OpenSpec.ofChange Rows.textDecodesSpec).at F).post enc Tryz.prog Tryz.f3 false true false false):=by
  refine returnsInHanded_of_row (C:=Tryz.checked) (s:=OpenSpec.ofChange Rows.textDecodesSpec) own started (by kernel_rfl) Tryz.func3
    (witness_row_atRef (enc:=enc) (C:=Tryz.checked) false (laidWorld os) #[.slice none 0 0,.int .i64 0] rfl (by kernel_rfl) (by kernel_rfl) (by kernel_rfl) (zlu os enc)) ?_
  intro W base args ds gs before hval hW _ _ hw hL hO _
  exact zot (s:=Rows.textDecodesSpec) (n:=8) (by kernel_rfl) Tryz.func3 (by kernel_rfl) (by decide) (by kernel_rfl) rfl Tryz.underlying4 rfl (fun ds h => by match ds,h with | [_,_],_ => rfl) goes hval hW hw ⟨hL,hO⟩
theorem said : Rows.TextDecodesSaid:=
  OpenClaim.holds_of_cond 3 Tryz.f3 rfl rfl rfl rfl rfl rfl rfl ⟨rfl,rfl,rfl,rfl,rfl⟩ rfl rfl rfl rfl rfl (by kernel_rfl) Tryz.func3 (by kernel_rfl)
    (of_decide_eq_true (by kernel_rfl)) (by unfold Func.isWrapper; first | (rw [if_pos (by decide +kernel)]; kernel_rfl) | (rw [if_neg (by decide +kernel)]; exact ⟨rfl,rfl⟩))
    (fun os started H enc _ F => by rw [OpenClaim.pre_eq_preRow]; exact lifted os started H enc F)
theorem plain (f : FuncId) (fn : Func) (hf : Tryz.pinned.checked.prog.funcNamed "forebay/forebaylaw13.TextDecodes" = some f) (hfn : Tryz.pinned.checked.prog.funcs[f]? = some fn) :
    true = Tryz.pinned.checked.prog.looks [] ∧ ∀ (j : Nat) t,fn.params[j]? = some t→Tryz.pinned.checked.prog.wantsStandIn t = false:=by
  obtain rfl : f = 3 := Option.some.inj ((show Tryz.prog.funcNamed "forebay/forebaylaw13.TextDecodes" = some 3 by kernel_rfl).symm.trans hf) |>.symm
  obtain rfl : fn = Tryz.f3:=(Option.some.inj (Tryz.func3.symm.trans hfn)).symm
  refine ⟨by kernel_rfl,fun j t ht => ?_⟩
  have hm : t ∈ ([22,3] : List TypeId):=by
    rw [Tryz.params3] at ht
    have:=Array.mem_of_getElem? ht
    simpa using this
  have all : ∀ x ∈ ([22,3] : List TypeId),Tryz.prog.wantsStandIn x = false:=fun x hx => by
    have h : ([22,3] : List TypeId).all (fun x => Tryz.prog.wantsStandIn x == false) = true:=by kernel_rfl
    simpa using List.all_eq_true.1 h x hx
  exact all t hm
theorem proved : Rows.TextDecodesCardSaid:=
  Claim7.holds_tied_plain_at .later [] _ _ _ _ said (fun _ h => by cases h) (by kernel_rfl) (fun _ h => by cases h) textDecodes_row_tie rfl ⟨rfl,rfl⟩ (by kernel_rfl) rfl plain (by kernel_rfl)
end Go.Proofs.YtonhplejlfnkoaaGreatDoor.textDecodes
