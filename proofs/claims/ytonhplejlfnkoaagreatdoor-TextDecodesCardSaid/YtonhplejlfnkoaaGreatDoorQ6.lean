/- Part 6 of a proof by the abstract machine. -/
import Derived.Test.YtonhplejlfnkoaaGreatDoorQ5
import Derived.KernelRfl
set_option linter.unusedVariables false
set_option linter.unusedSimpArgs false
namespace Go.AM
def seg (c : UInt8) (s : List UInt8) : List UInt8:=s.takeWhile (· != c)
theorem zaf (c b : UInt8) (s : List UInt8) : seg c (b :: s) = if b = c then [] else b :: seg c s:=by
  unfold seg
  by_cases h : b = c
  · subst h; simp [List.takeWhile_cons]
  · simp [List.takeWhile_cons,h]
theorem z6 (c : UInt8) (s : List UInt8) : (seg c s).length ≤ s.length:=(List.takeWhile_sublist _).length_le
theorem zmi (c : UInt8) (s : List UInt8) : Lib.indexByte s c = if c ∈ s then ((seg c s).length : Int) else -1:=by
  induction s with
  | nil => simp [Lib.indexByte]
  | cons b s ih =>
    rw [zaf]
    simp only [Lib.indexByte,beq_iff_eq,List.mem_cons]
    by_cases h : b = c
    · subst h; simp
    · rw [if_neg h,ih]
      have h' : ¬ c = b:=fun hh => h hh.symm
      by_cases hm : c ∈ s
      · rw [if_pos hm,if_pos (Or.inr hm),if_neg h]
        rw [if_neg (by omega),List.length_cons]
        omega
      · rw [if_neg hm,if_pos rfl,if_neg (by simp [h',hm])]
theorem zaj {c : UInt8} {s : List UInt8} (h : c ∉ s) : seg c s = s:=by
  induction s with
  | nil => rfl
  | cons b s ih =>
    rw [zaf,if_neg (fun hh => h (by simp [hh])),ih (fun hh => h (by simp [hh]))]
theorem zae {c : UInt8} {s : List UInt8} (h : c ∈ s) : (seg c s).length < s.length:=by
  induction s with
  | nil => simp at h
  | cons b s ih =>
    rw [zaf]
    by_cases hb : b = c
    · rw [if_pos hb]; simp
    · rw [if_neg hb]
      have : c ∈ s:=by
        rcases List.mem_cons.1 h with rfl | h
        · exact absurd rfl hb
        · exact h
      have:=ih this
      simp
      omega
theorem zcr (c : UInt8) (s : List UInt8) : s.take (seg c s).length = seg c s:=by
  induction s with
  | nil => rfl
  | cons b s ih =>
    rw [zaf]
    by_cases hb : b = c
    · rw [if_pos hb]; rfl
    · rw [if_neg hb]; simp [ih]
theorem zbr (n : Nat) (c : UInt8) {s : List UInt8} (hs : s.length ≤ 1000000) : F.zah n s [c] = some (seg c s,(if c ∈ s then s.drop ((seg c s).length + 1) else []),decide (c ∈ s),()):=by
  unfold F.zah F.zaz O.index1
  simp only [za]
  rw [zmi]
  by_cases h : c ∈ s
  · have hl:=zae h
    have s1 : sub s 0 ((seg c s).length : Int) = some (seg c s):=by
      have:=zq s 0 (seg c s).length (by omega) (by omega)
      rw [List.drop_zero,zcr] at this
      exact this
    have s2 : sub s (((seg c s).length + 1 : Nat) : Int) (s.length : Int) = some (s.drop ((seg c s).length + 1)):=by
      have:=zq s ((seg c s).length + 1) s.length (by omega) (Nat.le_refl _)
      rw [List.take_length] at this
      exact this
    have hw : IntKind.wrap .i64 (((seg c s).length : Int) + ((([c] : List UInt8).length : Nat) : Int)) = (((seg c s).length + 1 : Nat) : Int):=zj (by omega)
    simp only [h,if_true,decide_true]
    rw [zd (by omega),s1,za,hw,s2]
    rfl
  · simp only [h,if_false,decide_false]
    rw [zf (by omega),zaj h]
    rfl
theorem za3 {s : List UInt8} {p : Nat} (h : p ≤ s.length) : sub s (p : Int) (s.length : Int) = some (s.drop p):=by
  have:=zq s p s.length h (Nat.le_refl _)
  rw [List.take_length] at this
  exact this
def nextP (c : UInt8) (s : List UInt8) (p : Nat) : Nat:=p + (seg c (s.drop p)).length + (if c ∈ s.drop p then 1 else 0)
theorem zf3 {c : UInt8} {s : List UInt8} {p : Nat} (h : p ≤ s.length) : nextP c s p ≤ s.length:=by
  unfold nextP
  by_cases hm : c ∈ s.drop p
  · have:=zae hm
    simp at this
    rw [if_pos hm]; omega
  · have:=z6 c (s.drop p)
    simp at this
    rw [if_neg hm]; omega
theorem zb7 {s : List UInt8} (h : (parseR s).2.1.1 = 0) : (parseR s).2.1.2.1 = 0:=by
  unfold parseR outR badR at h ⊢
  split
  · rename_i h1
    rw [if_pos h1] at h
    split
    · rfl
    · rename_i h2
      rw [if_neg h2] at h
      first | done | exact absurd h h2
  · rename_i h1
    rw [if_neg h1] at h
    exact absurd h h1
theorem zkf {c : Int} {s : List UInt8} {lo hi : Int} (h : (textF c s lo hi).1 = 0) : (textF c s lo hi).2.1 = 0:=by
  unfold textF at h ⊢
  by_cases h1 : may c = false ∨ lo < 0 ∨ hi < lo
  · rw [if_pos h1]
  rw [if_neg h1] at h ⊢
  by_cases h2 : (s.length : Int) < lo
  · rw [if_pos h2] at h; cases h
  rw [if_neg h2] at h ⊢
  by_cases h3 : (s.length : Int) > hi
  · rw [if_pos h3] at h; cases h
  rw [if_neg h3] at h ⊢
  by_cases h4 : 0 ≤ badK (cls c) 0 s
  · rw [if_pos h4] at h; cases h
  rw [if_neg h4]
abbrev MetD:=List UInt8 × Int × List (Bool × Int × Int) × Int × List (List UInt8 × List UInt8) × Int × Unit
abbrev MetR:=MetD × FaultR × Unit
end Go.AM
set_option linter.unusedVariables false
set_option linter.unusedSimpArgs false
namespace Go.AM
theorem zpd (n : Nat) (X : Type) (k0 : Bool→(List UInt8)→Int→Bool→Int→Int→Option X) (neg b : Bool) (e x y : Int) : ∀ (d : List UInt8) (m : Nat),d.length < m→d.length < 4611686018427387904→F.zf.L1 n k0 m neg d e b x y = k0 neg (lz d) e b x y:=by
  intro d
  induction d with
  | nil =>
    intro m hm _
    obtain ⟨m,rfl⟩ : ∃ q,m = q + 1:=⟨m - 1,by omega⟩
    rfl
  | cons c d ih =>
    intro m hm hl
    obtain ⟨m,rfl⟩ : ∃ q,m = q + 1:=⟨m - 1,by omega⟩
    show F.zf.L1.step n (F.zf.L1 n k0 m) k0 neg (c :: d) e b x y = _
    unfold F.zf.L1.step
    have ei : idx (c :: d) (0 : Int) = some c:=rfl
    rw [zd (by simp),ei,za,zm6]
    have hsub : sub (c :: d) 1 (((c :: d).length : Nat) : Int) = some d:=by
      have:=zq (c :: d) 1 (c :: d).length (by simp) (by simp)
      rw [List.take_length] at this
      exact this
    by_cases h : c = 48
    · subst h
      rw [decide_eq_true rfl,cond_true,hsub,za,ih m (by simp at hm; omega) (by simp at hl; omega)]
      congr 1
    · rw [decide_eq_false h,cond_false]
      unfold lz
      have e' : (c :: d).dropWhile (· == 48) = c :: d:=by simp [List.dropWhile_cons,h]
      rw [e']
theorem znb (n : Nat) (X : Type) (k2 : Bool→(List UInt8)→Int→Bool→Int→Int→Option X) (neg b : Bool) (x y : Int) (a : List UInt8) (ha : a ≠ []) (hl : ∀ x,a.getLast? = some x→x ≠ 48) (hal : a.length ≤ 100000) : ∀ (z m : Nat) (e : Int),z < m→z ≤ 100000→-2000000 ≤ e→e ≤ 2000 →
    ∃ j,j ≤ z ∧ F.zf.L7 n k2 m neg (a ++ List.replicate z 48) e b x y = k2 neg (a ++ List.replicate j 48) (e + z - j) b x y ∧ (j = 0 ∨ 18 ≤ e + z - j) ∧ (e + z - j ≤ 18 ∨ j = z):=by
  intro z
  induction z with
  | zero =>
    intro m e hm hz he1 he2
    obtain ⟨m,rfl⟩ : ∃ q,m = q + 1:=⟨m - 1,by omega⟩
    refine ⟨0,Nat.le_refl _,?_,Or.inl rfl,Or.inr rfl⟩
    show F.zf.L7.step n _ k2 _ _ _ _ _ _ = _
    unfold F.zf.L7.step
    obtain ⟨c,c1,c2⟩:=zrs ha hl
    have hp : 0 < a.length:=List.length_pos_iff.2 ha
    have hw : IntKind.wrap .i64 ((a.length : Int) - 1) = (a.length : Int) - 1:=zl (by omega)
    rw [List.replicate_zero,List.append_nil,hw,c1,za,zm6,decide_eq_false c2,cond_false,show e + ((0 : Nat) : Int) - ((0 : Nat) : Int) = e from by omega]
    cases decide (e < 18) <;> rfl
  | succ z ih =>
    intro m e hm hz he1 he2
    obtain ⟨m,rfl⟩ : ∃ q,m = q + 1:=⟨m - 1,by omega⟩
    have hstep : F.zf.L7 n k2 (m + 1) neg (a ++ List.replicate (z + 1) 48) e b x y = F.zf.L7.step n (F.zf.L7 n k2 m) k2 neg (a ++ List.replicate (z + 1) 48) e b x y:=rfl
    rw [hstep]
    unfold F.zf.L7.step
    by_cases h18 : e < 18
    · obtain ⟨l1,l2⟩:=zrr a z
      have hlen : (a ++ List.replicate (z + 1) (48 : UInt8)).length = a.length + z + 1:=by simp; omega
      have hw : IntKind.wrap .i64 (((a ++ List.replicate (z + 1) (48 : UInt8)).length : Int) - 1) = ((a ++ List.replicate (z + 1) (48 : UInt8)).length : Int) - 1:=zl (by omega)
      rw [zd h18,hw,l1,za,zm6,decide_eq_true rfl,cond_true,l2,za,zl (by omega)]
      obtain ⟨j,j1,j2,j3,j4⟩:=ih m (e + 1) (by omega) (by omega) (by omega) (by omega)
      refine ⟨j,by omega,?_,?_,?_⟩
      · rw [j2]
        congr 1
        omega
      · rcases j3 with j3 | j3
        · exact Or.inl j3
        · exact Or.inr (by omega)
      · exact Or.inl (by omega)
    · rw [zf h18]
      refine ⟨z + 1,Nat.le_refl _,?_,Or.inr (by omega),Or.inr rfl⟩
      congr 1
      omega
theorem zrw (n : Nat) (X : Type) (k4 : Bool→(List UInt8)→Int→Bool→Int→Int→Option X) (neg b : Bool) (x y : Int) : ∀ (d m : Nat) (a : List UInt8),d < m→a.length + d ≤ 1000000→F.zf.L10 n k4 m neg a (18 + (d : Int)) b x y = k4 neg (a ++ List.replicate d 48) 18 b x y:=by
  intro d
  induction d with
  | zero =>
    intro m a hm hl
    obtain ⟨m,rfl⟩ : ∃ q,m = q + 1:=⟨m - 1,by omega⟩
    show F.zf.L10.step n _ k4 _ _ _ _ _ _ = _
    unfold F.zf.L10.step
    rw [zf (by omega),List.replicate_zero,List.append_nil]
    rfl
  | succ d ih =>
    intro m a hm hl
    obtain ⟨m,rfl⟩ : ∃ q,m = q + 1:=⟨m - 1,by omega⟩
    show F.zf.L10.step n (F.zf.L10 n k4 m) k4 _ _ _ _ _ _ = _
    unfold F.zf.L10.step
    rw [zd (by omega),zd (by rw [zbb]; omega),zl (by omega),show 18 + ((d + 1 : Nat) : Int) - 1 = 18 + (d : Int) from by omega,ih m _ (by omega) (by simp; omega),List.append_assoc,List.replicate_succ]
    rfl
theorem zur (n : Nat) (X : Type) (k4 : Bool→(List UInt8)→Int→Bool→Int→Int→Option X) (neg b : Bool) (x y : Int) (m : Nat) (hm : 0 < m) (a : List UInt8) (E : Int) (h : ¬ E > 18) : F.zf.L10 n k4 m neg a E b x y = k4 neg a E b x y:=by
  obtain ⟨m,rfl⟩ : ∃ q,m = q + 1:=⟨m - 1,by omega⟩
  show F.zf.L10.step n (F.zf.L10 n k4 m) k4 _ _ _ _ _ _ = _
  unfold F.zf.L10.step
  rw [zf h]
theorem zt9 (n : Nat) {d : List UInt8} (hd : Digs d) (hne : d ≠ []) (hh : ∀ x,d.head? = some x→x ≠ 48) : F.za3 n d = some (decide (val d < two64)):=by
  unfold F.za3
  have hlt:=zbq hd
  have hge:=zo8 hd hne hh
  have hp : 0 < d.length:=List.length_pos_iff.2 hne
  rw [zai]
  by_cases h1 : d.length < 20
  · have : 10 ^ d.length ≤ 10 ^ 19:=Nat.pow_le_pow_right (by omega) (by omega)
    have h2 : val d < 18446744073709551616:=by omega
    rw [zd (by omega),decide_eq_true h2]
  rw [zf (by omega)]
  by_cases h2 : d.length = 20
  · have e : ((d.length : Int) == 20) = true:=by rw [h2]; rfl
    rw [e,cond_true]
    have hm : Digs [49,56,52,52,54,55,52,52,48,55,51,55,48,57,53,53,49,54,49,53]:=rfl
    have hv : val [49,56,52,52,54,55,52,52,48,55,51,55,48,57,53,53,49,54,49,53] = 18446744073709551615:=rfl
    rw [zrq hd hm h2,hv]
    congr 1
    by_cases h3 : val d < 18446744073709551615
    · simp [h3]; omega
    · by_cases h4 : val d = 18446744073709551615
      · have : d = [49,56,52,52,54,55,52,52,48,55,51,55,48,57,53,53,49,54,49,53]:=zmb hd hm h2 (h4.trans hv.symm)
        rw [decide_eq_false h3,this,beq_self_eq_true,hv]
        rfl
      · have hne' : ¬ d = [49,56,52,52,54,55,52,52,48,55,51,55,48,57,53,53,49,54,49,53]:=fun hh => h4 (by rw [hh]; exact hv)
        rw [decide_eq_false h3,beq_eq_false_iff_ne.2 hne',decide_eq_false (show ¬ val d < 18446744073709551616 by omega)]
        rfl
  · have e : ((d.length : Int) == 20) = false:=by
      have : ¬ (d.length : Int) = 20:=by omega
      simpa using this
    have : 10 ^ 20 ≤ 10 ^ (d.length - 1):=Nat.pow_le_pow_right (by omega) (by omega)
    rw [e,cond_false,decide_eq_false (by omega)]
theorem zkg (n : Nat) (X : Type) (k0 : Int→Option X) (s : List UInt8) (hs : s.length < 4611686018427387904) (hv : val s < two64) : ∀ (r : List UInt8) (k m : Nat),s.drop k = r→r.length < m→Digs r →
    F.zx.L3 n k0 m s (val (s.take k) : Int) (k : Int) = k0 (val s):=by
  intro r
  induction r with
  | nil =>
    intro k m hk hm hd
    have hk:=zo hk
    obtain ⟨m,rfl⟩ : ∃ q,m = q + 1:=⟨m - 1,by omega⟩
    show F.zx.L3.step n _ k0 s _ k = _
    unfold F.zx.L3.step
    rw [zf (by omega),List.take_of_length_le hk]
  | cons x r ih =>
    intro k m hk hm hd
    obtain ⟨h1,h2,h3⟩:=zn hk
    obtain ⟨d1,d2⟩:=zw.1 hd
    have hx:=zab.1 d1
    obtain ⟨m,rfl⟩ : ∃ q,m = q + 1:=⟨m - 1,by omega⟩
    show F.zx.L3.step n (F.zx.L3 n k0 m) k0 s _ k = _
    unfold F.zx.L3.step
    have htk : s.take (k + 1) = s.take k ++ [x]:=by rw [List.take_add_one,h2]; rfl
    have hvk : val (s.take (k + 1)) = val (s.take k) * 10 + dv x:=by rw [htk,zby]
    have hsv : val (s.take (k + 1)) ≤ val s:=by
      have e : s = s.take (k + 1) ++ s.drop (k + 1):=(List.take_append_drop _ _).symm
      have h5 : val s = val (s.take (k + 1)) * 10 ^ (s.drop (k + 1)).length + val (s.drop (k + 1)):=by
        conv => lhs; rw [e]
        rw [zbf]
      have:=Nat.le_mul_of_pos_right (val (s.take (k + 1))) (Nat.pow_pos (n:=(s.drop (k + 1)).length) (show 0 < 10 by omega))
      omega
    have hdl:=ze4 d1
    rw [zai] at hv
    have hdx : IntKind.wrap .u64 (IntKind.wrap .u8 ((x.toNat : Int) - 48)) = (dv x : Int):=by
      have h8 : IntKind.wrap .u8 ((x.toNat : Int) - 48) = (x.toNat : Int) - 48:=IntWalk.u8_in _ (by omega)
      rw [h8,IntWalk.u64_in _ (by omega)]; unfold dv; omega
    rw [zd (by omega),zp,h2,za,hdx,IntWalk.u64_in (10 * (val (s.take k) : Int)) (by omega),IntWalk.u64_in _ (by omega),zj (by omega),show 10 * (val (s.take k) : Int) + (dv x : Int) = (val (s.take (k + 1)) : Int) from by omega]
    exact ih (k + 1) m h3 (by simp at hm; omega) d2
theorem value03 (n : Nat) (s : List UInt8) (hs : s.length < 4611686018427387904) (hn : s.length < n) (hd : Digs s) (hv : val s < two64) : F.zx n s = some (val s : Int):=
  zkg n _ _ s hs hv s 0 n rfl hn hd
theorem zua (n : Nat) (hn : 200000 ≤ n) (neg : Bool) (d : List UInt8) (hd : Digs d) (hl : d.length ≤ 10000) (e : Int) : F.zf n neg d e = some ((valR neg d e).1,(valR neg d e).2.1 == 0,()):=by
  unfold F.zf
  rw [zpd n _ _ neg false e 0 0 d n (by omega) (by omega)]
  have hlz:=zso d
  by_cases h0 : val d = 0
  · have : lz d = []:=by
      refine Classical.byContradiction fun hne => ?_
      have:=zo8 (ze5 hd) hne (fun x => zmd)
      rw [zer,h0] at this
      have:=Nat.pow_pos (n:=(lz d).length - 1) (show 0 < 10 by omega)
      omega
    unfold valR
    rw [if_pos h0,this]
    rfl
  have hne : lz d ≠ []:=fun hh => by have:=zer d; rw [hh] at this; exact h0 this.symm
  have e0 : (lz d == []) = false:=by simpa using hne
  simp only [e0,cond_false]
  have hD:=ze5 hd
  have hv0 : val (lz d) ≠ 0:=by rw [zer]; exact h0
  have hcore:=zf1 hD hv0
  have hvt:=zmc (lz d)
  generalize hzz : (lz d).length - (trz (lz d)).length = z at hvt
  have hR : valR neg d e = normR neg (val (trz (lz d))) (e + z):=zaq hd hcore (by rw [← zer]; exact hvt) neg e
  rw [hR]
  have hc0 : 0 < val (trz (lz d)):=by omega
  have hnot : ∀ w,20 ≤ w→¬ val (trz (lz d)) * 10 ^ w < two64:=by
    intro w hw
    have h1 : 10 ^ 20 ≤ 10 ^ w:=Nat.pow_le_pow_right (by omega) hw
    have h2:=Nat.le_mul_of_pos_left (10 ^ w) hc0
    rw [zai]
    omega
  by_cases hbig : e > 1000
  · rw [zd hbig]
    unfold normR
    rw [if_neg (by omega),if_neg (hnot _ (by omega))]
    rfl
  rw [zf hbig]
  by_cases hlow : e < -1000000
  · rw [zd hlow]
    unfold normR
    rw [if_pos (by omega)]
    rfl
  rw [zf hlow]
  have hpad:=zbz (lz d)
  rw [hzz] at hpad
  have hne' : trz (lz d) ≠ []:=fun hh => hv0 ((zhc hD).1 hh)
  have htl:=zj7 (lz d)
  have hhead : ∀ (k : Nat) x,(trz (lz d) ++ List.replicate k 48).head? = some x→x ≠ 48:=by
    intro k x hx
    cases e : trz (lz d) with
    | nil => exact absurd e hne'
    | cons b r =>
      rw [e] at hx
      have hb : b = x:=by simpa using hx
      refine zmd (d:=d) ?_
      rw [hpad,e,← hb]; rfl
  have fin : ∀ (k : Nat) (E : Int),k ≤ 30000 →
      (bif decide (E < (-18 : Int)) then some (((false,(0 : Int),(0 : Int),()),false,()))
                else
                  (F.za3 n (trz (lz d) ++ List.replicate k 48)).bind fun y8 =>
                    bif !y8 then
                      some (((false,(0 : Int),(0 : Int),()),false,()))
                    else
                      (F.zx n (trz (lz d) ++ List.replicate k 48)).bind fun y9 =>
                        some (((neg,y9,E,()),true,())))
      = some (if E < -18 then ((false,(0 : Int),(0 : Int),()),false,()) else if val (trz (lz d)) * 10 ^ k < two64 then ((neg,((val (trz (lz d)) * 10 ^ k : Nat) : Int),E,()),true,()) else ((false,(0 : Int),(0 : Int),()),false,())):=by
    intro k E hk
    by_cases hE : E < -18
    · rw [zd hE,if_pos hE]
    · rw [zf hE,if_neg hE]
      have hdk : Digs (trz (lz d) ++ List.replicate k 48):=z7.2 ⟨zco hD,zbx _⟩
      have hlk : (trz (lz d) ++ List.replicate k (48 : UInt8)).length = (trz (lz d)).length + k:=by simp
      rw [zt9 n hdk (by simp [hne']) (hhead k),za,zz]
      by_cases hf : val (trz (lz d)) * 10 ^ k < two64
      · rw [decide_eq_true hf,if_pos hf,value03 n _ (by omega) (by omega) hdk (by rw [zz]; exact hf),za,zz]
        rfl
      · rw [decide_eq_false hf,if_neg hf]; rfl
  obtain ⟨j,j1,j2,j3,j4⟩:=znb n (DecD × Bool × Unit) (fun e6_0 e6_1 e6_2 e6_b0_0 e6_b0_1 e6_b0_2 =>
            F.zf.L10 n
              (fun e7_0 e7_1 e7_2 e7_b0_0 e7_b0_1 e7_b0_2 =>
                bif decide (e7_2 < (-18 : Int)) then
                  some (((false,(0 : Int),(0 : Int),()),false,()))
                else
                  (F.za3 n e7_1).bind fun y8 =>
                    bif !y8 then
                      some (((false,(0 : Int),(0 : Int),()),false,()))
                    else
                      (F.zx n e7_1).bind fun y9 =>
                        some (((e7_0,y9,e7_2,()),true,()))) n e6_0 e6_1 e6_2 e6_b0_0 e6_b0_1 e6_b0_2) neg false 0 0 (trz (lz d)) hne' (fun x => zcp) (by omega) z n e (by omega) (by omega) (by omega) (by omega)
  rw [← hpad] at j2
  refine j2.trans ?_
  unfold normR
  by_cases hE : e + z - j > 18
  · obtain ⟨q,hq⟩ : ∃ q : Nat,e + z - j = 18 + (q : Int):=⟨(e + z - j - 18).toNat,by omega⟩
    rw [hq,zrw n _ _ neg false 0 0 q n _ (by omega) (by simp; omega),List.append_assoc,List.replicate_append_replicate,fin (j + q) 18 (by omega),if_neg (by omega),if_neg (show ¬ e + (z : Int) < -18 by omega),show (e + z - 18).toNat = j + q from by omega]
    by_cases hf : val (trz (lz d)) * 10 ^ (j + q) < two64
    · rw [if_pos hf,if_pos hf,if_neg (by omega)]; rfl
    · rw [if_neg hf,if_neg hf]; rfl
  · rw [zur n _ _ neg false 0 0 n (by omega) _ _ hE,fin j _ (by omega)]
    by_cases h18 : e + z < -18
    · rw [if_pos (by omega),if_pos h18]; rfl
    · rw [if_neg (by omega),if_neg h18,show (e + z - 18).toNat = j from by omega]
      by_cases hf : val (trz (lz d)) * 10 ^ j < two64
      · rw [if_pos hf,if_pos hf]
        congr 4
        by_cases hh : e + z ≤ 18
        · rw [if_pos hh]
          have : j = 0 ∨ e + z = 18:=by omega
          congr 1
          omega
        · rw [if_neg hh]
          congr 1
          omega
      · rw [if_neg hf,if_neg hf]; rfl
end Go.AM
set_option linter.unusedVariables false
set_option linter.unusedSimpArgs false
namespace Go.AM
theorem digit03 (n : Nat) (x : UInt8) : F.za8 n (x.toNat : Int) = some (isDig x):=by
  unfold F.za8 isDig
  by_cases h : 48 ≤ x.toNat
  · rw [zd (by omega)]; simp [h]; omega
  · rw [zf (by omega)]; simp [h]
theorem zlm (n : Nat) (X : Type) (k0 : (List UInt8)→Bool→(List UInt8)→Int→Bool→Bool→Int→Int→Int→Int→Option X) (kr : Bool→Int→Int→Int→Int→Option X) (s : List UInt8) (neg : Bool) (pt : Nat) (hs : s.length ≤ 1000000) :
    ∀ (r : List UInt8) (k m : Nat) (d : List UInt8) (must : Bool),s.drop k = r→k ≤ s.length→r.length < m→d.length ≤ k →
    F.zn.L8 n k0 kr m s neg (k : Int) d (pt : Int) must false 0 0 0 0 =
      if k + (tw r).length = s.length then k0 s neg (d ++ tw r) (pt : Int) (must && decide ((tw r).length = 0)) false 0 0 0 0 else kr false 0 0 14 ((k + (tw r).length : Nat) : Int):=by
  intro r
  induction r with
  | nil =>
    intro k m d must hk hkl hm hd
    have:=zo hk
    obtain ⟨m,rfl⟩ : ∃ q,m = q + 1:=⟨m - 1,by omega⟩
    show F.zn.L8.step n _ k0 kr _ _ _ _ _ _ _ _ _ _ _ = _
    unfold F.zn.L8.step
    have e : tw ([] : List UInt8) = []:=rfl
    rw [zf (by omega),e,List.length_nil,if_pos (by omega),List.append_nil]
    simp
  | cons x r ih =>
    intro k m d must hk hkl hm hd
    obtain ⟨h1,h2,h3⟩:=zn hk
    obtain ⟨m,rfl⟩ : ∃ q,m = q + 1:=⟨m - 1,by omega⟩
    show F.zn.L8.step n (F.zn.L8 n k0 kr m) k0 kr _ _ _ _ _ _ _ _ _ _ _ = _
    unfold F.zn.L8.step
    rw [zd (by omega),zp,h2,za,digit03,za,za,zj (by omega)]
    by_cases hx : isDig x = true
    · have hsub : sub s (k : Int) ((k + 1 : Nat) : Int) = some [x]:=by
        rw [zq s k (k + 1) (by omega) (by omega),List.take_add_one,h2]
        have : (s.take k).length = k:=by simp; omega
        simp [List.drop_append,this]
      have e : tw (x :: r) = x :: tw r:=by unfold tw; simp [List.takeWhile_cons,hx]
      rw [hx,cond_true,hsub,za,zd (by rw [zbb]; simp; omega),ih (k + 1) m (d ++ [x]) false h3 (by omega) (by simp at hm; omega) (by simp; omega),e,List.length_cons,List.append_assoc]
      have e1 : k + 1 + (tw r).length = k + ((tw r).length + 1):=by omega
      rw [e1]
      simp
    · have hx' : isDig x = false:=by simpa using hx
      have e : tw (x :: r) = []:=by unfold tw; simp [List.takeWhile_cons,hx']
      have hpt : decide ((pt : Int) < 0) = false:=by simp
      rw [hx',cond_false,hpt,cond_false,e,List.length_nil,if_neg (by omega)]
      cases ((x.toNat : Int) == 46) <;> rfl
theorem znc (n : Nat) (X : Type) (k0 : (List UInt8)→Bool→(List UInt8)→Int→Bool→Bool→Int→Int→Int→Int→Option X) (kr : Bool→Int→Int→Int→Int→Option X) (s : List UInt8) (neg : Bool) (hs : s.length ≤ 1000000) :
    ∀ (r : List UInt8) (k m : Nat) (d : List UInt8) (must : Bool),s.drop k = r→k ≤ s.length→r.length < m→d.length ≤ k →
    F.zn.L8 n k0 kr m s neg (k : Int) d (-1) must false 0 0 0 0 =
      if k + (tw r).length = s.length then k0 s neg (d ++ tw r) (-1) (must && decide ((tw r).length = 0)) false 0 0 0 0
      else if (s.drop (k + (tw r).length)).head? = some 46 ∧ (must && decide ((tw r).length = 0)) = false then
        (if k + (tw r).length + 1 + (tw (s.drop (k + (tw r).length + 1))).length = s.length then
          k0 s neg ((d ++ tw r) ++ tw (s.drop (k + (tw r).length + 1))) ((d ++ tw r).length : Int) (decide ((tw (s.drop (k + (tw r).length + 1))).length = 0)) false 0 0 0 0
         else kr false 0 0 14 ((k + (tw r).length + 1 + (tw (s.drop (k + (tw r).length + 1))).length : Nat) : Int))
      else kr false 0 0 14 ((k + (tw r).length : Nat) : Int):=by
  intro r
  induction r with
  | nil =>
    intro k m d must hk hkl hm hd
    have:=zo hk
    obtain ⟨m,rfl⟩ : ∃ q,m = q + 1:=⟨m - 1,by omega⟩
    show F.zn.L8.step n _ k0 kr _ _ _ _ _ _ _ _ _ _ _ = _
    unfold F.zn.L8.step
    have e : tw ([] : List UInt8) = []:=rfl
    rw [zf (by omega),e,List.length_nil,if_pos (by omega),List.append_nil]
    simp
  | cons x r ih =>
    intro k m d must hk hkl hm hd
    obtain ⟨h1,h2,h3⟩:=zn hk
    obtain ⟨m,rfl⟩ : ∃ q,m = q + 1:=⟨m - 1,by omega⟩
    show F.zn.L8.step n (F.zn.L8 n k0 kr m) k0 kr _ _ _ _ _ _ _ _ _ _ _ = _
    unfold F.zn.L8.step
    rw [zd (by omega),zp,h2,za,digit03,za,za,zj (by omega)]
    by_cases hx : isDig x = true
    · have hsub : sub s (k : Int) ((k + 1 : Nat) : Int) = some [x]:=by
        rw [zq s k (k + 1) (by omega) (by omega),List.take_add_one,h2]
        have : (s.take k).length = k:=by simp; omega
        simp [List.drop_append,this]
      have e : tw (x :: r) = x :: tw r:=by unfold tw; simp [List.takeWhile_cons,hx]
      rw [hx,cond_true,hsub,za,zd (by rw [zbb]; simp; omega),ih (k + 1) m (d ++ [x]) false h3 (by omega) (by simp at hm; omega) (by simp; omega),e,List.length_cons,List.append_assoc]
      have e1 : k + 1 + (tw r).length = k + ((tw r).length + 1):=by omega
      rw [e1]
      simp
    · have hx' : isDig x = false:=by simpa using hx
      have e : tw (x :: r) = []:=by unfold tw; simp [List.takeWhile_cons,hx']
      have hpt : decide ((-1 : Int) < 0) = true:=rfl
      rw [hx',cond_false,hpt,cond_true,e,List.length_nil,if_neg (by omega)]
      simp only [Nat.add_zero,hk,List.append_nil]
      by_cases h46 : x = 46
      · subst h46
        have e2 : ((((46 : UInt8).toNat : Nat) : Int) == 46) = true:=rfl
        rw [e2,cond_true]
        cases must
        · simp only [Bool.not_false,cond_true,Bool.false_and,List.head?_cons,and_self,if_true]
          have hb:=zlm n X k0 kr s neg d.length hs (s.drop (k + 1)) (k + 1) m d true rfl (by omega) (by rw [h3]; simp at hm; omega) (by omega)
          rw [hb]
          simp
        · simp
      · have e2 : ((x.toNat : Int) == 46) = false:=by
          have : ¬ (x.toNat : Int) = 46:=fun hh => h46 (zbc (by simp; omega))
          simpa using this
        rw [e2,cond_false,if_neg]
        rintro ⟨q,_⟩
        exact h46 (by simpa using q)
theorem zkh (n : Nat) (hn : 200000 ≤ n) (neg : Bool) (d : List UInt8) (hd : Digs d) (hl : d.length ≤ 10000) (e : Int) :
    ((F.zf n neg d e).bind fun y7 =>
                bif !y7.2.1 then
                  some (((false,(0 : Int),(0 : Int),()),((10 : Int),(0 : Int),()),()))
                else
                  some (((y7.1.1,y7.1.2.1,y7.1.2.2.1,()),((0 : Int),(0 : Int),()),()))) = some (outR (valR neg d e)):=by
  rw [zua n hn neg d hd hl e,za]
  unfold outR
  rcases zie neg d e with h | ⟨h1,h2⟩
  · rw [h,if_pos rfl]; rfl
  · rw [h1,if_neg (by decide)]; rfl
theorem zb9 (n : Nat) (hn : 200000 ≤ n) (s : List UInt8) (hs : s.length ≤ 10000) (neg : Bool) (q : Nat) (hq : q ≤ s.length) :
    F.zn.L8 n
          (fun e6_0 e6_4 e6_6 e6_7 e6_8 e6_b0_0 e6_b0_1 e6_b0_2 e6_b1_0 e6_b1_1 =>
            bif e6_8 then
              some (((false,(0 : Int),(0 : Int),()),((11 : Int),(e6_0.length : Int),()),()))
            else
            bif decide (e6_7 ≥ (0 : Int)) then
              (F.zf n e6_4 e6_6 (IntKind.wrap .i64 (e6_7 - (e6_6.length : Int)))).bind fun y7 =>
                bif !y7.2.1 then
                  some (((false,(0 : Int),(0 : Int),()),((10 : Int),(0 : Int),()),()))
                else
                  some (((y7.1.1,y7.1.2.1,y7.1.2.2.1,()),((0 : Int),(0 : Int),()),()))
            else
              (F.zf n e6_4 e6_6 (0 : Int)).bind fun y8 =>
                bif !y8.2.1 then
                  some (((false,(0 : Int),(0 : Int),()),((10 : Int),(0 : Int),()),()))
                else
                  some (((y8.1.1,y8.1.2.1,y8.1.2.2.1,()),((0 : Int),(0 : Int),()),())))
          (fun e9_b0_0 e9_b0_1 e9_b0_2 e9_b1_0 e9_b1_1 =>
            some (((e9_b0_0,e9_b0_1,e9_b0_2,()),(e9_b1_0,e9_b1_1,()),()))) n s neg (q : Int) [] (-1 : Int) true false (0 : Int) (0 : Int) (0 : Int) (0 : Int)
    = some (if (lookQ q s).1 = 0 then outR (valR neg (tw (s.drop q) ++ (if (s.drop (p1q q s)).head? = some 46 then tw (s.drop (p1q q s + 1)) else [])) (-(((if (s.drop (p1q q s)).head? = some 46 then tw (s.drop (p1q q s + 1)) else [] : List UInt8).length : Nat) : Int))) else badR (lookQ q s)):=by
  rw [znc n _ _ _ s neg (by omega) (s.drop q) q n [] true rfl hq (by simp; omega) (by simp)]
  have hp1 : q + (tw (s.drop q)).length = p1q q s:=rfl
  have hp3 : p1q q s + 1 + (tw (s.drop (p1q q s + 1))).length = p3q q s:=rfl
  have hA : (tw (s.drop q)).length ≤ 10000:=by have:=ze6 (s.drop q); simp at this; omega
  have hB : (tw (s.drop (p1q q s + 1))).length ≤ 10000:=by have:=ze6 (s.drop (p1q q s + 1)); simp at this; omega
  have hAB : (tw (s.drop q)).length + (tw (s.drop (p1q q s + 1))).length ≤ 10000:=by
    have h1:=ze6 (s.drop q)
    have h2:=ze6 (s.drop (p1q q s + 1))
    simp at h1 h2
    omega
  rw [hp1,hp3]
  simp only [List.nil_append,Bool.true_and]
  have look : ∀ f : FaultR,lookQ q s = f→(¬ f.1 = 0)→some (badR f) = some (if (lookQ q s).1 = 0 then outR (valR neg (tw (s.drop q) ++ (if (s.drop (p1q q s)).head? = some 46 then tw (s.drop (p1q q s + 1)) else [])) (-(((if (s.drop (p1q q s)).head? = some 46 then tw (s.drop (p1q q s + 1)) else [] : List UInt8).length : Nat) : Int))) else badR (lookQ q s)):=by
    intro f hf h0
    rw [hf,if_neg h0]
  by_cases hend : p1q q s = s.length
  ·
    have hdrop : s.drop (p1q q s) = []:=List.drop_eq_nil_of_le (by omega)
    have hno : ¬ ((s.drop (p1q q s)).head? = some 46):=by rw [hdrop]; simp
    rw [if_pos hend]
    by_cases hz : (tw (s.drop q)).length = 0
    · have hl : lookQ q s = (11,(s.length : Int),()):=by
        unfold lookQ endR
        rw [if_neg (fun h => hno h.2),if_neg (fun h => by have:=h.1; omega),if_pos hend,hend]
      rw [decide_eq_true hz,cond_true]
      exact look _ hl (by show ¬ (11 : Int) = 0; decide)
    · have hh : ¬ (-1 : Int) ≥ 0:=by omega
      have hl : lookQ q s = (0,0,()):=by
        unfold lookQ endR
        rw [if_neg (fun h => hno h.2),if_pos ⟨by omega,hend⟩]
      rw [decide_eq_false hz,cond_false,zf hh,hl,if_pos rfl,if_neg hno,List.append_nil]
      exact zkh n hn neg _ (zbm _) hA 0
  · rw [if_neg hend]
    by_cases hpt : (s.drop (p1q q s)).head? = some 46
    · by_cases hz : (tw (s.drop q)).length = 0
      · have hl : lookQ q s = (14,(p1q q s : Int),()):=by
          unfold lookQ endR
          rw [if_neg (fun h => by have:=h.1; omega),if_neg (fun h => hend h.2),if_neg hend]
        rw [if_neg (by simp [hz])]
        exact look _ hl (by show ¬ (14 : Int) = 0; decide)
      · rw [if_pos ⟨hpt,by simp [hz]⟩]
        have hpp : q < p1q q s ∧ (s.drop (p1q q s)).head? = some 46:=⟨by omega,hpt⟩
        by_cases h3 : p3q q s = s.length
        · rw [if_pos h3]
          by_cases hb : (tw (s.drop (p1q q s + 1))).length = 0
          · have hl : lookQ q s = (11,(s.length : Int),()):=by
              unfold lookQ endR
              rw [if_pos hpp,if_neg (fun h => by have:=h.1; omega),if_pos h3,h3]
            rw [decide_eq_true hb,cond_true]
            exact look _ hl (by show ¬ (11 : Int) = 0; decide)
          · have hl : lookQ q s = (0,0,()):=by
              unfold lookQ endR
              rw [if_pos hpp,if_pos ⟨by omega,h3⟩]
            rw [decide_eq_false hb,cond_false,zd (by omega),hl,if_pos rfl,if_pos hpt]
            have hw : IntKind.wrap .i64 (((tw (s.drop q)).length : Int) - ((tw (s.drop q) ++ tw (s.drop (p1q q s + 1))).length : Int)) = -(((tw (s.drop (p1q q s + 1))).length : Nat) : Int):=by
              rw [List.length_append,zl (by omega)]; omega
            rw [hw]
            exact zkh n hn neg _ (z7.2 ⟨zbm _,zbm _⟩) (by rw [List.length_append]; exact hAB) _
        · have hl : lookQ q s = (14,(p3q q s : Int),()):=by
            unfold lookQ endR
            rw [if_pos hpp,if_neg (fun h => h3 h.2),if_neg h3]
          rw [if_neg h3]
          exact look _ hl (by show ¬ (14 : Int) = 0; decide)
    · have hl : lookQ q s = (14,(p1q q s : Int),()):=by
        unfold lookQ endR
        rw [if_neg (fun h => hpt h.2),if_neg (fun h => hend h.2),if_neg hend]
      rw [if_neg (fun h => hpt h.1)]
      exact look _ hl (by show ¬ (14 : Int) = 0; decide)
theorem zc8 (n : Nat) (hn : 200000 ≤ n) (s : List UInt8) (hs : s.length ≤ 10000) : F.zn n s = some (parseR s):=by
  unfold F.zn
  cases s with
  | nil => exact zb9 n hn [] hs false 0 (by simp)
  | cons b s =>
    have ei : idx (b :: s) (0 : Int) = some b:=rfl
    rw [zd (by simp),ei,za]
    by_cases h : b = 45
    · subst h
      have e2 : ((((45 : UInt8).toNat : Nat) : Int) == 45) = true:=rfl
      rw [e2,cond_true]
      exact zb9 n hn (45 :: s) hs true 1 (by simp)
    · have e2 : ((b.toNat : Int) == 45) = false:=by
        have : ¬ (b.toNat : Int) = 45:=fun hh => h (zbc (by simp; omega))
        simpa using this
      rw [e2,cond_false]
      have hp : p0 (b :: s) = 0:=by unfold p0; rw [if_neg (by simpa using h)]
      have hneg : negD (b :: s) = false:=by unfold negD; simpa using h
      have:=zb9 n hn (b :: s) hs false 0 (by simp)
      refine this.trans ?_
      unfold parseR lookR behindD aheadD
      rw [hp,hneg]
end Go.AM
set_option linter.unusedVariables false
set_option linter.unusedSimpArgs false
namespace Go.AM
abbrev DecL:=Bool × Int × Int
abbrev TagL:=List UInt8 × List UInt8
def DecLOK (d : DecL) : Prop:=True ∧ (0 ≤ d.2.1 ∧ d.2.1 ≤ 18446744073709551615) ∧ -9223372036854775808 ≤ d.2.2 ∧ d.2.2 ≤ 9223372036854775807
def decC (d : DecL) : Int:=checkR d.1 d.2.1.toNat d.2.2
def nameOK (s : List UInt8) : Bool:=(textF 1 s 1 200).1 == 0
def tagGood (t : TagL) : Bool:=((textF 2 t.1 1 64).1 == 0) && ((textF 3 t.2 0 100).1 == 0)
theorem zbs (c : Int) (s : List UInt8) (lo hi : Int) : (((textF c s lo hi).1 == 0) && ((textF c s lo hi).2.1 == 0)) = ((textF c s lo hi).1 == 0):=by
  by_cases h : (textF c s lo hi).1 = 0
  · rw [h,zkf h]; rfl
  · rw [beq_eq_false_iff_ne.2 h]; rfl
theorem zes (n : Nat) (hn : 100 ≤ n) (c : Int) (s : List UInt8) (lo hi : Int) (hm : may c = true) (hlo : 0 ≤ lo) (hhi : lo ≤ hi) (hs : s.length < 4611686018427387904) (hl : s.length < n) : F.za0 n c s lo hi = some (textF c s lo hi):=by
  unfold F.za0 textF
  rw [zhd n hn c s hs hl,za,if_neg (by simp [hm]; omega)]
  by_cases h3 : (s.length : Int) < lo
  · rw [zd h3,if_pos h3]
  · rw [zf h3,if_neg h3]
    by_cases h4 : (s.length : Int) > hi
    · rw [zd h4,if_pos h4]
    · rw [zf h4,if_neg h4]
      by_cases h5 : 0 ≤ badK (cls c) 0 s
      · rw [zd (by omega),if_pos h5]
      · rw [zf (by omega),if_neg h5]
def TagLOK (t : TagL) : Prop:=t.1.length ≤ 10000 ∧ t.2.length ≤ 10000
theorem zub (n : Nat) (hn : 200000 ≤ n) {t : TagL} (h : TagLOK t) : F.zbj n (t.1,t.2,()) = some (bif tagGood t then 0 else 19):=by
  obtain ⟨h1,h2⟩:=h
  unfold F.zbj tagGood
  simp only [zbk n 2 t.1 1 64 (by omega) (by omega),zbk n 3 t.2 0 100 (by omega) (by omega),za,zbs]
  cases ((textF 2 t.1 1 64).1 == 0) <;> cases ((textF 3 t.2 0 100).1 == 0) <;> rfl
def kindB (k : Int) : Bool:=decide (1 ≤ k) && decide (k ≤ 5)
def valsB (vs : List DecL) : Bool:=decide (1 ≤ vs.length) && (decide (vs.length ≤ 64) && vs.all fun d => decC d == 0)
def rateB (k r : Int) : Bool:=decide (1 ≤ r) && (decide (r ≤ 1000000) && (!(k == 2) || r == 1000000))
def tagsB (ts : List TagL) : Bool:=decide (ts.length ≤ 32) && ts.all tagGood
def timeB (t : Int) : Bool:=decide (0 ≤ t) && decide (t ≤ 1099511627776)
def chkM (m : MetD) : Int:=
  bif !nameOK m.1 then 15 else bif !kindB m.2.1 then 16 else bif !valsB m.2.2.1 then 17 else bif !rateB m.2.1 m.2.2.2.1 then 18 else bif !tagsB m.2.2.2.2.1 then 19 else bif !timeB m.2.2.2.2.2.1 then 20 else 0
def MetOK (m : MetD) : Prop:=m.1.length ≤ 10000 ∧ (m.2.2.1.length ≤ 10000 ∧ ∀ d ∈ m.2.2.1,DecLOK d) ∧ (m.2.2.2.2.1.length ≤ 10000 ∧ ∀ t ∈ m.2.2.2.2.1,TagLOK t)
end Go.AM
set_option linter.unusedVariables false
set_option linter.unusedSimpArgs false
namespace Go.AM
theorem zpe (x : UInt8) : cls 1 x = wordI (x.toNat : Int):=rfl
theorem zpf {X : Type} (n : Nat) (rec : List UInt8→Int→Option X) (k0 : List UInt8→Option X) (kr : Bool→Option X) (s : List UInt8) (k : Nat) (hk : k < s.length) (hs : s.length ≤ 10000) (x : UInt8) (hx : s[k]? = some x) :
    F.zv.L2.step n rec k0 kr s (k : Int) = if cls 1 x = true then rec s ((k + 1 : Nat) : Int) else kr false:=by
  unfold F.zv.L2.step
  rw [zd (by omega),zp,hx,zj (by omega),za,zpe]
  unfold wordI btw
  generalize hv : ((x.toNat : Nat) : Int) = v
  generalize rec s ((k + 1 : Nat) : Int) = A
  generalize kr false = B
  simp only [Bool.cond_eq_ite,Bool.not_eq_true',Bool.or_eq_true,Bool.and_eq_true,decide_eq_true_eq,beq_iff_eq,beq_eq_false_iff_ne,ne_eq]
  repeat' split
  all_goals first
    | rfl
    | (exfalso; omega)
theorem ziu (n : Nat) (X : Type) (k0 : List UInt8→Option X) (kr : Bool→Option X) (s : List UInt8) (hs : s.length ≤ 10000) : ∀ (r : List UInt8) (k m : Nat),s.drop k = r→r.length < m →
    F.zv.L2 n k0 kr m s (k : Int) = if r.all (cls 1) = true then k0 s else kr false:=by
  intro r
  induction r with
  | nil =>
    intro k m hk hm
    have:=zo hk
    cases m with
    | zero => simp at hm
    | succ m =>
      show F.zv.L2.step n (F.zv.L2 n k0 kr m) k0 kr s (k : Int) = _
      unfold F.zv.L2.step
      rw [zf (by omega)]
      rfl
  | cons x r ih =>
    intro k m hk hm
    obtain ⟨h1,h2,h3⟩:=zn hk
    cases m with
    | zero => simp at hm
    | succ m =>
      show F.zv.L2.step n (F.zv.L2 n k0 kr m) k0 kr s (k : Int) = _
      rw [zpf n _ _ _ s k h1 hs x h2,List.all_cons]
      cases hx : cls 1 x
      · rfl
      · rw [if_pos rfl,ih (k + 1) m h3 (by simp at hm; omega)]
        rfl
theorem zet (s : List UInt8) : nameOK s = (s.all (cls 1) && (decide (1 ≤ s.length) && decide (s.length ≤ 200))):=by
  unfold nameOK textF
  rw [if_neg (by simp [may])]
  by_cases h1 : (s.length : Int) < 1
  · rw [if_pos h1]
    have : decide (1 ≤ s.length) = false:=decide_eq_false (by omega)
    rw [this]; simp
  rw [if_neg h1]
  have e1 : decide (1 ≤ s.length) = true:=decide_eq_true (by omega)
  by_cases h2 : (s.length : Int) > 200
  · rw [if_pos h2]
    have : decide (s.length ≤ 200) = false:=decide_eq_false (by omega)
    rw [this]; simp
  rw [if_neg h2]
  have e2 : decide (s.length ≤ 200) = true:=decide_eq_true (by omega)
  rw [e1,e2]
  by_cases h3 : 0 ≤ badK (cls 1) 0 s
  · rw [if_pos h3]
    have : s.all (cls 1) = false:=by
      have:=(zcj (cls 1) 0 s).1 h3
      simpa using this
    rw [this]; rfl
  · rw [if_neg h3]
    have : s.all (cls 1) = true:=Classical.byContradiction fun hh => h3 ((zcj _ _ _).2 hh)
    rw [this]; rfl
theorem zrx (n : Nat) (hn : 200000 ≤ n) (s : List UInt8) (hs : s.length ≤ 10000) : F.zv n s = some (nameOK s):=by
  unfold F.zv
  have L:=ziu n Bool (fun e2_0 => bif decide ((e2_0.length : Int) ≥ (1 : Int)) then some (decide ((e2_0.length : Int) ≤ (200 : Int))) else some (false)) (fun e3_2 => some (e3_2)) s hs s 0 n rfl (by omega)
  refine L.trans ?_
  rw [zet]
  cases h : s.all (cls 1)
  · rfl
  · rw [if_pos rfl]
    by_cases h1 : 1 ≤ s.length
    · rw [zd (by omega),decide_eq_true h1]
      have e2 : decide ((s.length : Int) ≤ 200) = decide (s.length ≤ 200):=by apply decide_eq_decide.2; omega
      rw [e2]; rfl
    · rw [zf (by omega),decide_eq_false h1]; rfl
end Go.AM
set_option linter.unusedVariables false
set_option linter.unusedSimpArgs false
namespace Go.AM
end Go.AM
set_option linter.unusedVariables false
set_option linter.unusedSimpArgs false
namespace Go.AM
end Go.AM
set_option linter.unusedVariables false
set_option linter.unusedSimpArgs false
namespace Go.AM
end Go.AM
set_option linter.unusedVariables false
set_option linter.unusedSimpArgs false
namespace Go.AM
theorem zf4 {m : MetD} (h : chkM m = 0) : nameOK m.1 = true ∧ kindB m.2.1 = true ∧ valsB m.2.2.1 = true ∧ rateB m.2.1 m.2.2.2.1 = true ∧ tagsB m.2.2.2.2.1 = true ∧ timeB m.2.2.2.2.2.1 = true:=by
  unfold chkM at h
  revert h
  cases nameOK m.1 <;> cases kindB m.2.1 <;> cases valsB m.2.2.1 <;> cases rateB m.2.1 m.2.2.2.1 <;> cases tagsB m.2.2.2.2.1 <;> cases timeB m.2.2.2.2.2.1 <;> simp
end Go.AM
set_option linter.unusedVariables false
set_option linter.unusedSimpArgs false
namespace Go.AM
end Go.AM
set_option linter.unusedVariables false
set_option linter.unusedSimpArgs false
namespace Go.AM
abbrev NumR:=Int × (Int × Int × Unit) × Unit
def numR (v c at' : Int) : NumR:=(v,(c,at',()),())
theorem zf5 : cls 4 = isDig:=funext cls4
theorem zry (n : Nat) (c a : Int) : F.zam n c a = some (0,(c,a,()),()):=rfl
theorem za6 {s : List UInt8} {k : Nat} (h : ¬ 0 ≤ badK isDig k s) : Digs s:=Classical.byContradiction fun hh => h ((zcj _ _ _).2 hh)
theorem textF4 (s : List UInt8) (hs : s.length < 4611686018427387904) : textF 4 s 1 (IntKind.wrap .i64 ((s.length : Int) + 1)) = if s = [] then (13,0,()) else if 0 ≤ badK isDig 0 s then (14,badK isDig 0 s,()) else (0,0,()):=by
  unfold textF
  rw [zj hs,zf5]
  have hm : may 4 = true:=rfl
  rw [if_neg (by simp [hm]; omega)]
  cases s with
  | nil => rfl
  | cons b s =>
    rw [if_neg (show ¬ (((b :: s).length : Nat) : Int) < 1 from by simp; omega),if_neg (show ¬ (((b :: s).length : Nat) : Int) > (((b :: s).length + 1 : Nat) : Int) from by omega),if_neg (show ¬ (b :: s = []) from by simp)]
theorem znd (n : Nat) (X : Type) (k0 : Int→Option X) (kr : Int→Bool→Option X) (s : List UInt8) (hs : s.length < 4611686018427387904) : ∀ (r : List UInt8) (k m : Nat),s.drop k = r→r.length < m→Digs r→val (s.take k) < 9223372036854775808 →
    F.zq.L3 n k0 kr m s (val (s.take k) : Int) (k : Int) = if val s < 9223372036854775808 then k0 (val s) else kr 0 false:=by
  intro r
  induction r with
  | nil =>
    intro k m hk hm hd hv
    have hk:=zo hk
    cases m with
    | zero => simp at hm
    | succ m =>
      show F.zq.L3.step n _ k0 kr s _ k = _
      unfold F.zq.L3.step
      rw [zf (by omega)]
      rw [List.take_of_length_le hk] at hv ⊢
      rw [if_pos hv]
  | cons x r ih =>
    intro k m hk hm hd hv
    obtain ⟨h1,h2,h3⟩:=zn hk
    obtain ⟨d1,d2⟩:=zw.1 hd
    have hx:=zab.1 d1
    cases m with
    | zero => simp at hm
    | succ m =>
      show F.zq.L3.step n (F.zq.L3 n k0 kr m) k0 kr s _ k = _
      unfold F.zq.L3.step
      have htk : s.take (k + 1) = s.take k ++ [x]:=by rw [List.take_add_one,h2]; rfl
      have hvk : val (s.take (k + 1)) = val (s.take k) * 10 + dv x:=by rw [htk,zby]
      have hsv : val (s.take (k + 1)) ≤ val s:=by
        have e : s = s.take (k + 1) ++ s.drop (k + 1):=(List.take_append_drop _ _).symm
        have h5 : val s = val (s.take (k + 1)) * 10 ^ (s.drop (k + 1)).length + val (s.drop (k + 1)):=by
          conv => lhs; rw [e]
          rw [zbf]
        have:=Nat.le_mul_of_pos_right (val (s.take (k + 1))) (Nat.pow_pos (n:=(s.drop (k + 1)).length) (show 0 < 10 by omega))
        omega
      have hdx : IntKind.wrap .i64 (IntKind.wrap .u8 ((x.toNat : Int) - 48)) = (dv x : Int):=by
        have h8 : IntKind.wrap .u8 ((x.toNat : Int) - 48) = (x.toNat : Int) - 48:=IntWalk.u8_in _ (by omega)
        rw [h8,zl (by omega)]; unfold dv; omega
      have hdl:=ze4 d1
      rw [zd (by omega),zp,h2,za,hdx,zl (x:=9223372036854775807 - (dv x : Int)) (by omega)]
      have hdiv : ((9223372036854775807 : Int) - (dv x : Int)).tdiv 10 = (((9223372036854775807 - dv x) / 10 : Nat) : Int):=by
        rw [show ((9223372036854775807 : Int) - (dv x : Int)) = ((9223372036854775807 - dv x : Nat) : Int) from by omega]; rfl
      rw [hdiv,zl (x:=(((9223372036854775807 - dv x) / 10 : Nat) : Int)) (by omega)]
      by_cases hb : val (s.take (k + 1)) < 9223372036854775808
      · rw [zf (by omega),zl (x:=10 * (val (s.take k) : Int)) (by omega),zl (by omega),zj (by omega),show (10 * (val (s.take k) : Int) + (dv x : Int)) = (val (s.take (k + 1)) : Int) from by omega]
        exact ih (k + 1) m h3 (by simp at hm; omega) d2 hb
      · rw [zd (by omega),if_neg (by omega)]
theorem zig (n : Nat) (s : List UInt8) (hs : s.length < 4611686018427387904) (hn : s.length < n) (hd : Digs s) : F.zq n s = some (if val s < 9223372036854775808 then ((val s : Int),true,()) else (0,false,())):=by
  unfold F.zq
  refine (znd n _ _ _ s hs s 0 n rfl hn hd (by rw [List.take_zero,zci]; omega)).trans ?_
  by_cases h : val s < 9223372036854775808
  · rw [if_pos h,if_pos h]
  · rw [if_neg h,if_neg h]
end Go.AM
set_option linter.unusedVariables false
set_option linter.unusedSimpArgs false
namespace Go.AM
def pad6 (k : Nat) : List UInt8:=(Lib.decDigits (1000000 + k)).drop 1
theorem zrz {k : Nat} (h : k < 1000000) : Lib.decDigits (1000000 + k) = 49 :: pad6 k ∧ (pad6 k).length = 6 ∧ Digs (pad6 k) ∧ val (pad6 k) = k:=by
  have hN : (Lib.decDigits (1000000 + k)).length = 7:=by rw [zo4]; exact Lib.nDigits_unique 6 _ (by omega) (by omega)
  have hd:=zdc (1000000 + k)
  have hv:=zdd (1000000 + k)
  unfold pad6
  cases e : Lib.decDigits (1000000 + k) with
  | nil => rw [e] at hN; simp at hN
  | cons b r =>
    rw [e] at hN hd hv
    have hr : r.length = 6:=by simpa using hN
    obtain ⟨d1,d2⟩:=zw.1 hd
    have:=zbq d2
    rw [hr] at this
    rw [zah,hr] at hv
    have hb : dv b = 1:=by omega
    have : b = 49:=zeq d1 rfl hb
    subst this
    refine ⟨rfl,hr,d2,?_⟩
    show val r = k
    omega
def rateText (k : Int) : List UInt8 × Int × Unit:=
  if k < 1 ∨ k > 1000000 then ([],10,()) else if k = 1000000 then ([49],0,()) else ([48,46] ++ trz (pad6 k.toNat),0,())
def rateR (s : List UInt8) : NumR:=
  if s = [49] then numR 1000000 0 0 else if s = [] then numR 0 13 0 else if s.head? ≠ some 48 then numR 0 11 0 else if (s.drop 1).head? ≠ some 46 then numR 0 11 1
  else if s.drop 2 = [] then numR 0 13 2 else if 0 ≤ badK isDig 0 (s.drop 2) then numR 0 14 (2 + badK isDig 0 (s.drop 2)) else if 6 < (s.drop 2).length then numR 0 12 8
  else if val (s.drop 2) = 0 then numR 0 10 0 else numR ((val (s.drop 2) * 10 ^ (6 - (s.drop 2).length) : Nat) : Int) 0 0
theorem zhe (n : Nat) (X : Type) (k3 : Int→Int→Int→Int→Int→Int→Int→Option X) (d : List UInt8) (hd : Digs d) (hl : d.length ≤ 6) (a b c e f g : Int) : ∀ (j i m : Nat),i + j = 6→j < m →
    F.zo.L23 n k3 m d (i : Int) a b c e f g (val ((d ++ List.replicate (6 - d.length) 48).take i) : Int) = k3 a b c e f g ((val d * 10 ^ (6 - d.length) : Nat) : Int):=by
  have hD : Digs (d ++ List.replicate (6 - d.length) 48):=z7.2 ⟨hd,zbx _⟩
  have hL : (d ++ List.replicate (6 - d.length) (48 : UInt8)).length = 6:=by simp; omega
  intro j
  induction j with
  | zero =>
    intro i m hi hm
    cases m with
    | zero => omega
    | succ m =>
      show F.zo.L23.step n _ k3 d _ _ _ _ _ _ _ _ = _
      unfold F.zo.L23.step
      rw [zf (by omega),List.take_of_length_le (by omega),zz]
  | succ j ih =>
    intro i m hi hm
    cases m with
    | zero => omega
    | succ m =>
      show F.zo.L23.step n (F.zo.L23 n k3 m) k3 d _ _ _ _ _ _ _ _ = _
      unfold F.zo.L23.step
      rw [zd (by omega),zj (by omega)]
      have hb : val ((d ++ List.replicate (6 - d.length) 48).take i) < 10 ^ i:=by
        have:=zbq (zo1 i hD)
        rw [List.length_take,hL,Nat.min_eq_left (by omega)] at this
        exact this
      have hp : (10 : Nat) ^ i ≤ 10 ^ 6:=Nat.pow_le_pow_right (by omega) (by omega)
      have hstep : ∀ x,(d ++ List.replicate (6 - d.length) (48 : UInt8))[i]? = some x→val ((d ++ List.replicate (6 - d.length) 48).take (i + 1)) = val ((d ++ List.replicate (6 - d.length) 48).take i) * 10 + dv x:=by
        intro x hx
        rw [List.take_add_one,hx]
        exact zby _ _
      by_cases hlt : i < d.length
      · have hx : (d ++ List.replicate (6 - d.length) (48 : UInt8))[i]? = d[i]?:=List.getElem?_append_left hlt
        rw [zd (by omega),zb6 hlt,za]
        have hg : d[i]? = some d[i]:=by simp [hlt]
        have hdx:=List.all_eq_true.1 hd d[i] (List.getElem_mem hlt)
        have hdi:=zab.1 hdx
        have hv:=hstep d[i] (hx.trans hg)
        have hdl:=ze4 hdx
        have h8 : IntKind.wrap .i64 (IntKind.wrap .u8 ((d[i].toNat : Int) - 48)) = (dv d[i] : Int):=by
          rw [IntWalk.u8_in _ (by omega),zl (by omega)]; unfold dv; omega
        rw [h8,zl (x:=10 * _) (by omega),zl (by omega),show 10 * (val ((d ++ List.replicate (6 - d.length) (48 : UInt8)).take i) : Int) + (dv d[i] : Int) = (val ((d ++ List.replicate (6 - d.length) (48 : UInt8)).take (i + 1)) : Int) from by omega]
        exact ih (i + 1) m (by omega) (by omega)
      · have hx : (d ++ List.replicate (6 - d.length) (48 : UInt8))[i]? = some 48:=by
          rw [List.getElem?_append_right (by omega),List.getElem?_replicate,if_pos (by omega)]
        have hv:=hstep 48 hx
        rw [zsm] at hv
        rw [zf (by omega),zl (x:=10 * _) (by omega),zl (by omega),show 10 * (val ((d ++ List.replicate (6 - d.length) (48 : UInt8)).take i) : Int) + 0 = (val ((d ++ List.replicate (6 - d.length) (48 : UInt8)).take (i + 1)) : Int) from by omega]
        exact ih (i + 1) m (by omega) (by omega)
theorem zhf (n : Nat) (X : Type) (k0 : List UInt8→Int→Int→Int→Int→Option X) (s : List UInt8) (m : Nat) (hm : 3 ≤ m) :
    F.zo.L5 n k0 m s (48,46,()) 0 0 0 0 0 = if s = [] then k0 s 0 0 13 0 else if s.head? ≠ some 48 then k0 s 0 0 11 0 else if (s.drop 1).head? ≠ some 46 then k0 s 0 0 11 1 else k0 s 0 0 0 0:=by
  obtain ⟨m,rfl⟩ : ∃ q,m = q + 3:=⟨m - 3,by omega⟩
  show F.zo.L5.step n (F.zo.L5 n k0 (m + 2)) k0 s _ _ _ _ _ _ = _
  have hb : ∀ (b c : UInt8),((b.toNat : Int) == (c.toNat : Int)) = decide (b = c):=by
    intro b c
    by_cases h : b = c
    · simp [h]
    · have : ¬ (b.toNat : Int) = (c.toNat : Int):=fun hh => h (zbc (by omega))
      simp [h,this]
  cases s with
  | nil => rfl
  | cons b r =>
    have e48 : ((b.toNat : Int) == 48) = decide (b = 48):=hb b 48
    unfold F.zo.L5.step
    have a1 : decide ((0 : Int) < 2) = true:=rfl
    have a2 : ((0 : Int) == 0) = true:=rfl
    have a3 : ((0 : Int) == (((b :: r).length : Nat) : Int)) = false:=by
      have : ¬ (0 : Int) = (((b :: r).length : Nat) : Int):=by simp; omega
      simpa using this
    have a4 : decide ((0 : Int) ≥ (((b :: r).length : Nat) : Int)) = false:=by
      have : ¬ (0 : Int) ≥ (((b :: r).length : Nat) : Int):=by simp only [List.length_cons]; omega
      exact decide_eq_false this
    have a5 : idx (b :: r) (0 : Int) = some b:=rfl
    rw [a1,a2,a3,a4,a5,cond_true,cond_true,cond_false,cond_false,za,e48]
    by_cases h1 : b = 48
    · subst h1
      simp only [decide_true,Bool.not_true,cond_false]
      show F.zo.L5.step n (F.zo.L5 n k0 (m + 1)) k0 _ _ 1 _ _ _ _ = _
      unfold F.zo.L5.step
      have c1 : decide ((1 : Int) < 2) = true:=rfl
      have c2 : ((1 : Int) == 0) = false:=rfl
      have c3 : ((1 : Int) == 1) = true:=rfl
      rw [c1,c2,c3,cond_true,cond_false,cond_true]
      cases r with
      | nil => rfl
      | cons c r =>
        have e46 : ((c.toNat : Int) == 46) = decide (c = 46):=hb c 46
        have b3 : ((1 : Int) == (((48 :: c :: r).length : Nat) : Int)) = false:=by
          have : ¬ (1 : Int) = (((48 :: c :: r).length : Nat) : Int):=by simp; omega
          simpa using this
        have b4 : decide ((1 : Int) ≥ (((48 :: c :: r).length : Nat) : Int)) = false:=by
          have : ¬ (1 : Int) ≥ (((48 :: c :: r).length : Nat) : Int):=by simp; omega
          simpa using this
        have b5 : idx (48 :: c :: r) (1 : Int) = some c:=rfl
        rw [b3,b4,b5,cond_false,cond_false,za,e46]
        by_cases h2 : c = 46
        · subst h2
          rfl
        · simp [h2]
    · simp [h1]
theorem zki (n : Nat) (hn : 100 ≤ n) (s : List UInt8) (hs : s.length ≤ 1000000) (hl : s.length < n) : F.zo n s = some (rateR s):=by
  unfold F.zo rateR
  by_cases h1 : s = [49]
  · rw [if_pos h1,h1]; rfl
  have e1 : (s == [49]) = false:=by simpa using h1
  rw [e1,cond_false,if_neg h1,zhf n _ _ s n (by omega)]
  by_cases h2 : s = []
  · rw [if_pos h2,if_pos h2]; rfl
  rw [if_neg h2,if_neg h2]
  by_cases h3 : s.head? ≠ some 48
  · rw [if_pos h3,if_pos h3]; rfl
  rw [if_neg h3,if_neg h3]
  by_cases h4 : (s.drop 1).head? ≠ some 46
  · rw [if_pos h4,if_pos h4]; rfl
  rw [if_neg h4,if_neg h4]
  have e2 : (!((0 : Int) == 0 && (0 : Int) == 0)) = false:=rfl
  simp only [e2,cond_false]
  have hlen : 2 ≤ s.length:=by
    cases s with
    | nil => exact absurd rfl h2
    | cons b r => cases r with
      | nil => simp at h4
      | cons => simp
  have hsub : sub s 2 (s.length : Int) = some (s.drop 2):=by
    have:=zq s 2 s.length hlen (Nat.le_refl _)
    rw [List.take_length] at this
    exact this
  have hdl : (s.drop 2).length + 2 = s.length:=by simp; omega
  rw [hsub,za,zbk n 4 _ _ _ (by omega) (by omega),za,textF4 _ (by omega)]
  generalize s.drop 2 = d at hdl ⊢
  by_cases h5 : d = []
  · rw [if_pos h5,if_pos h5]; rfl
  rw [if_neg h5,if_neg h5]
  by_cases h6 : 0 ≤ badK isDig 0 d
  · rw [if_pos h6,if_pos h6]
    have:=zmg isDig 0 d
    have e : (!((14 : Int) == 0 && badK isDig 0 d == 0)) = true:=rfl
    simp only [e,cond_true,zry,za]
    rw [zl (by omega)]
    rfl
  rw [if_neg h6,if_neg h6]
  simp only [e2,cond_false]
  have hd:=za6 h6
  by_cases h7 : 6 < d.length
  · rw [zd (by omega),if_pos h7]; rfl
  rw [zf (by omega),if_neg h7]
  have:=zhe n _ (fun e12_b0_0 e12_b0_1 e12_b1_0 e12_b1_1 e12_b2_0 e12_b2_1 e12_b3_0 =>
                    bif e12_b3_0 == (0 : Int) then
                      (F.zam n (10 : Int) (0 : Int)).bind fun y13 =>
                        some ((y13.1,(y13.2.1.1,y13.2.1.2.1,()),()))
                    else
                      some ((e12_b3_0,((0 : Int),(0 : Int),()),()))) d hd (by omega) 0 0 0 0 0 0 6 0 n (by omega) (by omega)
  refine this.trans ?_
  have hpp : 0 < 10 ^ (6 - d.length):=Nat.pow_pos (by omega)
  by_cases h8 : val d = 0
  · rw [if_pos h8,h8,Nat.zero_mul]; rfl
  · rw [if_neg h8]
    have : ¬ ((val d * 10 ^ (6 - d.length) : Nat) : Int) = 0:=by
      have:=Nat.mul_pos (Nat.pos_of_ne_zero h8) hpp
      omega
    have e : (((val d * 10 ^ (6 - d.length) : Nat) : Int) == 0) = false:=by simpa using this
    rw [e,cond_false]
    rfl
end Go.AM
set_option linter.unusedVariables false
set_option linter.unusedSimpArgs false
namespace Go.AM
theorem zpg (d : List UInt8) : rateR (48 :: 46 :: d) = if d = [] then numR 0 13 2 else if 0 ≤ badK isDig 0 d then numR 0 14 (2 + badK isDig 0 d) else if 6 < d.length then numR 0 12 8
    else if val d = 0 then numR 0 10 0 else numR ((val d * 10 ^ (6 - d.length) : Nat) : Int) 0 0:=by
  unfold rateR
  rw [if_neg (by simp),if_neg (by simp),if_neg (by simp),if_neg (by simp)]
  rfl
theorem ziv {k : Int} (hk : 1 ≤ k ∧ k < 1000000) : rateText k = (48 :: 46 :: trz (pad6 k.toNat),0,()):=by
  unfold rateText
  rw [if_neg (by omega),if_neg (by omega)]; rfl
theorem zhg {s : List UInt8} (h : (rateR s).2.1.1 = 0) : (rateR s).2.1.2.1 = 0 ∧ 1 ≤ (rateR s).1 ∧ (rateR s).1 ≤ 1000000 ∧ (rateText (rateR s).1).2.1 = 0 ∧
    ∃ a j,s = a ++ List.replicate j 48 ∧ (rateText (rateR s).1).1 = a ∧ a ≠ [] ∧ (∀ x,a.getLast? = some x→x ≠ 48):=by
  by_cases h1 : s = [49]
  · subst h1
    exact ⟨rfl,by decide,by decide,rfl,[49],0,rfl,rfl,by simp,by simp⟩
  have e:=h
  unfold rateR at e
  rw [if_neg h1] at e
  by_cases h2 : s = []
  · rw [if_pos h2] at e; cases e
  rw [if_neg h2] at e
  by_cases h3 : s.head? ≠ some 48
  · rw [if_pos h3] at e; cases e
  rw [if_neg h3] at e
  by_cases h4 : (s.drop 1).head? ≠ some 46
  · rw [if_pos h4] at e; cases e
  clear e
  obtain ⟨d,rfl⟩ : ∃ d,s = 48 :: 46 :: d:=by
    cases s with
    | nil => exact absurd rfl h2
    | cons b r => cases r with
      | nil => simp at h4
      | cons c r =>
        simp at h3 h4
        exact ⟨r,by rw [h3,h4]⟩
  rw [zpg] at h ⊢
  by_cases g1 : d = []
  · rw [if_pos g1] at h; cases h
  rw [if_neg g1] at h ⊢
  by_cases g2 : 0 ≤ badK isDig 0 d
  · rw [if_pos g2] at h; cases h
  rw [if_neg g2] at h ⊢
  by_cases g3 : 6 < d.length
  · rw [if_pos g3] at h; cases h
  rw [if_neg g3] at h ⊢
  by_cases g4 : val d = 0
  · rw [if_pos g4] at h; cases h
  rw [if_neg g4]
  have hd:=za6 g2
  have hp : 0 < 10 ^ (6 - d.length):=Nat.pow_pos (by omega)
  have hpos:=Nat.mul_pos (Nat.pos_of_ne_zero g4) hp
  have hub : val d * 10 ^ (6 - d.length) < 1000000:=by
    have h5:=zbq (z7.2 ⟨hd,zbx (6 - d.length)⟩)
    rw [zz,List.length_append,List.length_replicate,show d.length + (6 - d.length) = 6 from by omega] at h5
    exact h5
  have hk : 1 ≤ ((val d * 10 ^ (6 - d.length) : Nat) : Int) ∧ ((val d * 10 ^ (6 - d.length) : Nat) : Int) < 1000000:=by omega
  have hf:=ziv hk
  obtain ⟨p1,p2,p3,p4⟩:=zrz hub
  have hpd : pad6 (val d * 10 ^ (6 - d.length)) = d ++ List.replicate (6 - d.length) 48:=
    zmb p3 (z7.2 ⟨hd,zbx _⟩) (by simp; omega) (by rw [p4,zz])
  have ht : trz (pad6 (val d * 10 ^ (6 - d.length))) = trz d:=by rw [hpd,zia]
  have hne : trz d ≠ []:=fun hh => g4 ((zhc hd).1 hh)
  show (0 : Int) = 0 ∧ _ ∧ _ ∧ (rateText ((val d * 10 ^ (6 - d.length) : Nat) : Int)).2.1 = 0 ∧ ∃ a j,_ ∧ (rateText ((val d * 10 ^ (6 - d.length) : Nat) : Int)).1 = a ∧ _
  rw [hf]
  refine ⟨rfl,hk.1,by show ((val d * 10 ^ (6 - d.length) : Nat) : Int) ≤ 1000000; omega,rfl,48 :: 46 :: trz d,d.length - (trz d).length,?_,?_,by simp,?_⟩
  · rw [List.cons_append,List.cons_append,← zbz]
  · show 48 :: 46 :: trz (pad6 (val d * 10 ^ (6 - d.length))) = _
    rw [ht]
  · intro x hx
    refine zcp (l:=d) ?_
    rw [← hx]
    cases e : trz d with
    | nil => exact absurd e hne
    | cons b r => simp [List.getLast?_cons]
end Go.AM
set_option linter.unusedVariables false
set_option linter.unusedSimpArgs false
namespace Go.AM
def kindOf (s : List UInt8) : Int:=if s = [99] then 1 else if s = [103] then 2 else if s = [109,115] then 3 else if s = [104] then 4 else 0
def sdKindR (s : List UInt8) : Int × Int × Unit:=if kindOf s = 0 then (0,16,()) else (kindOf s,0,())
theorem zne (n : Nat) (k : Int) : F.zbe n k = some (wordL k):=by
  unfold F.zbe wordL
  by_cases h1 : k = 1
  · subst h1; rfl
  by_cases h2 : k = 2
  · subst h2; rfl
  by_cases h3 : k = 3
  · subst h3; rfl
  by_cases h4 : k = 4
  · subst h4; rfl
  rw [beq_eq_false_iff_ne.2 h1,beq_eq_false_iff_ne.2 h2,beq_eq_false_iff_ne.2 h3,beq_eq_false_iff_ne.2 h4,if_neg h1,if_neg h2,if_neg h3,if_neg h4]
  rfl
theorem zbn (n m : Nat) {X : Type} (k0 : Unit→Option X) (kr : Int→Int→Option X) (s : List UInt8) (v : Int) : F.zt.L2 n k0 kr (m + 1) s v = F.zt.L2.step n (F.zt.L2 n k0 kr m) k0 kr s v:=rfl
theorem zde (n : Nat) {X : Type} (rec : List UInt8→Int→Option X) (k0 : Unit→Option X) (kr : Int→Int→Option X) (s : List UInt8) (v : Int) (h : v ≤ 5) (h1 : 1 ≤ v) : F.zt.L2.step n rec k0 kr s v = if v ≤ 4 ∧ wordL v = s then kr v 0 else rec s (v + 1):=by
  unfold F.zt.L2.step
  rw [zd h]
  simp only [O.word,za]
  rw [zl (by omega)]
  by_cases h4 : v ≤ 4
  · have hE : wordE v = 0:=by unfold wordE; rw [if_pos (by omega)]
    rw [hE]
    by_cases hs : wordL v = s
    · rw [if_pos ⟨h4,hs⟩,hs]; simp
    · rw [if_neg (fun hh => hs hh.2),beq_eq_false_iff_ne.2 hs]; rfl
  · have hE : wordE v = 16:=by unfold wordE; rw [if_neg (by omega)]
    rw [hE,if_neg (fun hh => h4 hh.1)]; rfl
theorem zph (n : Nat) (hn : 10 ≤ n) (s : List UInt8) : F.zt n s = some (sdKindR s):=by
  unfold F.zt
  obtain ⟨m,hm⟩ : ∃ q,n = q + 6:=⟨n - 6,by omega⟩
  have key : ∀ (X : Type) (k0 : Unit→Option X) (kr : Int→Int→Option X),F.zt.L2 n k0 kr (m + 6) s 1 = if kindOf s = 0 then k0 () else kr (kindOf s) 0:=by
    intro X k0 kr
    rw [zbn n (m + 5),zde n _ _ _ _ _ (by omega) (by omega)]
    unfold kindOf
    have w1 : wordL 1 = [99]:=rfl
    have w2 : wordL 2 = [103]:=rfl
    have w3 : wordL 3 = [109,115]:=rfl
    have w4 : wordL 4 = [104]:=rfl
    by_cases h1 : s = [99]
    · rw [if_pos ⟨by omega,by rw [h1]; rfl⟩,if_pos h1]; rfl
    rw [if_neg (fun h => h1 (by rw [← h.2]; rfl)),if_neg h1,zbn n (m + 4),zde n _ _ _ _ _ (by omega) (by omega)]
    by_cases h2 : s = [103]
    · rw [if_pos ⟨by omega,by rw [h2]; rfl⟩,if_pos h2]; rfl
    rw [if_neg (fun h => h2 (by rw [← h.2]; rfl)),if_neg h2,zbn n (m + 3),zde n _ _ _ _ _ (by omega) (by omega)]
    by_cases h3 : s = [109,115]
    · rw [if_pos ⟨by omega,by rw [h3]; rfl⟩,if_pos h3]; rfl
    rw [if_neg (fun h => h3 (by rw [← h.2]; rfl)),if_neg h3,zbn n (m + 2),zde n _ _ _ _ _ (by omega) (by omega)]
    by_cases h4 : s = [104]
    · rw [if_pos ⟨by omega,by rw [h4]; rfl⟩,if_pos h4]; rfl
    rw [if_neg (fun h => h4 (by rw [← h.2]; rfl)),if_neg h4,zbn n (m + 1),zde n _ _ _ _ _ (by omega) (by omega),if_neg (fun h => by have:=h.1; omega),zbn n m]
    unfold F.zt.L2.step
    rw [zf (by omega)]
    rfl
  rw [← hm] at key
  rw [key]
  unfold sdKindR
  by_cases h : kindOf s = 0
  · rw [if_pos h,if_pos h]
  · rw [if_neg h,if_neg h]
theorem zkj (n : Nat) (hn : 10 ≤ n) (s : List UInt8) : F.zw n s = some (kindOf s):=by
  unfold F.zw
  obtain ⟨m,hm⟩ : ∃ q,n = q + 6:=⟨n - 6,by omega⟩
  have at' : ∀ (X : Type) (rec : List UInt8→Int→Option X) (k0 : Unit→Option X) (kr : Int→Option X) (v : Int),1 ≤ v→v ≤ 4→F.zw.L2.step n rec k0 kr s v = if wordL v = s then kr v else rec s (v + 1):=by
    intro X rec k0 kr v h1 h4
    unfold F.zw.L2.step
    rw [zd h4,zne,za,zl (by omega)]
    by_cases hs : wordL v = s
    · rw [if_pos hs,hs]; simp
    · rw [if_neg hs,beq_eq_false_iff_ne.2 hs]; rfl
  have st : ∀ (X : Type) (k0 : Unit→Option X) (kr : Int→Option X) (m : Nat) (v : Int),F.zw.L2 n k0 kr (m + 1) s v = F.zw.L2.step n (F.zw.L2 n k0 kr m) k0 kr s v:=fun _ _ _ _ _ => rfl
  have key : ∀ (X : Type) (k0 : Unit→Option X) (kr : Int→Option X),F.zw.L2 n k0 kr (m + 6) s 1 = if kindOf s = 0 then k0 () else kr (kindOf s):=by
    intro X k0 kr
    rw [st _ _ _ (m + 5),at' _ _ _ _ _ (by omega) (by omega)]
    unfold kindOf
    by_cases h1 : s = [99]
    · rw [if_pos (by rw [h1]; rfl),if_pos h1]; rfl
    rw [if_neg (fun h => h1 (by rw [← h]; rfl)),if_neg h1,st _ _ _ (m + 4),at' _ _ _ _ _ (by omega) (by omega)]
    by_cases h2 : s = [103]
    · rw [if_pos (by rw [h2]; rfl),if_pos h2]; rfl
    rw [if_neg (fun h => h2 (by rw [← h]; rfl)),if_neg h2,st _ _ _ (m + 3),at' _ _ _ _ _ (by omega) (by omega)]
    by_cases h3 : s = [109,115]
    · rw [if_pos (by rw [h3]; rfl),if_pos h3]; rfl
    rw [if_neg (fun h => h3 (by rw [← h]; rfl)),if_neg h3,st _ _ _ (m + 2),at' _ _ _ _ _ (by omega) (by omega)]
    by_cases h4 : s = [104]
    · rw [if_pos (by rw [h4]; rfl),if_pos h4]; rfl
    rw [if_neg (fun h => h4 (by rw [← h]; rfl)),if_neg h4,st _ _ _ (m + 1)]
    unfold F.zw.L2.step
    rw [zf (by omega)]
    rfl
  rw [← hm] at key
  rw [key]
  by_cases h : kindOf s = 0
  · rw [if_pos h,h]
  · rw [if_neg h]
end Go.AM
set_option linter.unusedVariables false
set_option linter.unusedSimpArgs false
namespace Go.AM
abbrev KRS (X : Type):=List UInt8→List UInt8→Int→List (Bool × Int × Int)→Int→List (List UInt8 × List UInt8)→Int→Int→Int→Option X
section
variable {X : Type} (n : Nat) (kr : KRS X)
def badK' (kr : KRS X) (s : List UInt8) (c a : Int) : Option X:=kr s [] 0 [] 0 [] 0 c a
theorem zpi (c9 : Bool) (s : List UInt8) (b10 : List UInt8) (b11 : Int) (b12 : List (Bool × Int × Int)) (b13 : Int) (b14 : List (List UInt8 × List UInt8)) (b15 b20 b21 b3 : Int) (d0 : List UInt8) (d1 : Int) (d2 : List (Bool × Int × Int)) (d3 : Int) (d4 : List (List UInt8 × List UInt8)) (d5 : Int) (k0 k1 k2 k3 : Nat) :
    F.za.C31 n kr c9 s b10 b11 b12 b13 b14 b15 b20 b21 b3 d0 d1 d2 d3 d4 d5 k0 k1 k2 k3 = if c9 = true then badK' kr s 11 (IntKind.wrap .i64 (b3 - 1)) else kr s d0 d1 d2 d3 d4 d5 0 0:=by
  cases c9 <;> rfl
theorem zpj (hn : 100 ≤ n) (c9 : Bool) (kind : Int) (rate : List UInt8) (hr : rate.length ≤ 10000) (hl : rate.length < n) (at' : Int) (s : List UInt8) (b10 : List UInt8) (b11 : Int) (b12 : List (Bool × Int × Int)) (b13 : Int) (b14 : List (List UInt8 × List UInt8)) (b15 b20 b21 b3 : Int) (d0 : List UInt8) (d1 : Int) (d2 : List (Bool × Int × Int)) (d3 : Int) (d4 : List (List UInt8 × List UInt8)) (d5 : Int) (e0 : Bool) (e1 e2 f0 f1 : Int) (k0 k1 k2 k3 : Nat) :
    F.za.C28 n kr c9 kind rate at' s b10 b11 b12 b13 b14 b15 b20 b21 b3 d0 d1 d2 d3 d4 d5 e0 e1 e2 f0 f1 k0 k1 k2 k3 =
      if ¬ (rateR rate).2.1.1 = 0 ∨ (kind = 2 ∧ ¬ (rateR rate).1 = 1000000) then badK' kr s 18 at' else if c9 = true then badK' kr s 11 (IntKind.wrap .i64 (b3 - 1)) else kr s d0 d1 d2 (rateR rate).1 d4 d5 0 0:=by
  unfold F.za.C28
  rw [zki n hn rate (by omega) hl,za]
  have c30 : ∀ (kn : Bool→List UInt8→List UInt8→Int→List (Bool × Int × Int)→Int→List (List UInt8 × List UInt8)→Int→Int→Int→Int→List UInt8→Int→List (Bool × Int × Int)→Int→List (List UInt8 × List UInt8)→Int→Nat→Nat→Nat→Nat→Option X) (t : Bool) (r : Int),F.za.C30 n kr kn c9 at' t s b10 b11 b12 b13 b14 b15 b20 b21 b3 d0 d1 d2 r d4 d5 k0 k1 k2 k3 = if t = true then badK' kr s 18 at' else kn c9 s b10 b11 b12 b13 b14 b15 b20 b21 b3 d0 d1 d2 r d4 d5 k0 k1 k2 k3:=by
    intro kn t r
    cases t <;> rfl
  by_cases h0 : (rateR rate).2.1.1 = 0
  · have h1:=(zhg h0).1
    have e : (!((rateR rate).2.1.1 == 0 && (rateR rate).2.1.2.1 == 0)) = false:=by rw [h0,h1]; rfl
    rw [e,cond_false]
    by_cases hk : kind = 2
    · have ek : (kind == 2) = true:=by simp [hk]
      rw [ek,cond_true]
      refine (c30 _ _ _).trans ?_
      by_cases hr1 : (rateR rate).1 = 1000000
      · have e2 : (!((rateR rate).1 == 1000000)) = false:=by simp [hr1]
        rw [e2,if_neg (by simp),if_neg (by simp [h0,hr1])]
        exact zpi n kr c9 s b10 b11 b12 b13 b14 b15 b20 b21 b3 d0 d1 d2 _ d4 d5 k0 k1 k2 k3
      · have e2 : (!((rateR rate).1 == 1000000)) = true:=by simpa using hr1
        rw [e2,if_pos rfl,if_pos (Or.inr ⟨hk,hr1⟩)]
    · have ek : (kind == 2) = false:=by simpa using hk
      rw [ek,cond_false]
      refine (c30 _ _ _).trans ?_
      rw [if_neg (by simp),if_neg (by simp [h0,hk])]
      exact zpi n kr c9 s b10 b11 b12 b13 b14 b15 b20 b21 b3 d0 d1 d2 _ d4 d5 k0 k1 k2 k3
  · have e : (!((rateR rate).2.1.1 == 0 && (rateR rate).2.1.2.1 == 0)) = true:=by
      have : ((rateR rate).2.1.1 == 0) = false:=by simpa using h0
      rw [this]; rfl
    rw [e,cond_true]
    refine (c30 _ _ _).trans ?_
    rw [if_pos rfl,if_pos (Or.inl h0)]
def rateS (kr : KRS X) (s name : List UInt8) (kind : Int) (v : List (Bool × Int × Int)) (r0 : Int) (tags : List (List UInt8 × List UInt8)) (time : Int) (is3 : Bool) (p : Nat) : Option X:=
  if is3 = false then kr s name kind v r0 tags time 0 0
  else if ¬ (s.drop p).head? = some 64 then badK' kr s 11 p
  else if ¬ (rateR (seg 124 (s.drop (p + 1)))).2.1.1 = 0 ∨ (kind = 2 ∧ ¬ (rateR (seg 124 (s.drop (p + 1)))).1 = 1000000) then badK' kr s 18 ((p + 1 : Nat) : Int)
  else if 124 ∈ s.drop (p + 1) then badK' kr s 11 ((p + 1 + (seg 124 (s.drop (p + 1))).length : Nat) : Int) else kr s name kind v (rateR (seg 124 (s.drop (p + 1)))).1 tags time 0 0
theorem zpk (hn : 20000 ≤ n) (name : List UInt8) (is3 : Bool) (kind : Int) (s : List UInt8) (hs : s.length ≤ 10000) (b10 : List UInt8) (b11 : Int) (b12 : List (Bool × Int × Int)) (b13 : Int) (b14 : List (List UInt8 × List UInt8)) (b15 b20 b21 : Int) (p : Nat) (hp : p ≤ s.length) (d0 : List UInt8) (d1 : Int) (d2 : List (Bool × Int × Int)) (d3 : Int) (d4 : List (List UInt8 × List UInt8)) (d5 : Int) (e0 : Bool) (e1 e2 f0 f1 : Int) (k0 k1 k2 k3 : Nat) :
    F.za.C21 n kr name is3 kind s b10 b11 b12 b13 b14 b15 b20 b21 (p : Int) d0 d1 d2 d3 d4 d5 e0 e1 e2 f0 f1 k0 k1 k2 k3 = rateS kr s name kind [(e0,e1,e2)] d3 d4 d5 is3 p:=by
  unfold F.za.C21 rateS
  cases is3
  · rfl
  · rw [Bool.not_true,cond_false,if_neg (by simp),za3 hp,za,za5,za]
    by_cases h64 : (s.drop p).head? = some 64
    · have hlt:=zme h64
      have hsl:=z6 124 (s.drop (p + 1))
      have hdl : (s.drop (p + 1)).length = s.length - (p + 1):=by simp
      rw [decide_eq_true h64,Bool.not_true,cond_false,if_neg (fun h => h h64),zj (by omega),za3 (by omega),za,zbr n 124 (by omega),za]
      have w1 : IntKind.wrap .i64 (((p + 1 : Nat) : Int) + ((seg 124 (s.drop (p + 1))).length : Int)) = ((p + 1 + (seg 124 (s.drop (p + 1))).length : Nat) : Int):=by rw [zl (by omega)]; omega
      simp only [w1]
      by_cases hm : 124 ∈ s.drop (p + 1)
      · simp only [hm,decide_true,cond_true,if_true]
        rw [zj (by omega)]
        refine (zpj n kr (by omega) true kind _ (by omega) (by omega) _ s b10 b11 b12 b13 b14 b15 b20 b21 _ name kind [(e0,e1,e2)] d3 d4 d5 e0 e1 e2 f0 f1 k0 k1 1 k3).trans ?_
        rw [if_pos rfl,zl (by omega)]
        congr 2
        omega
      · simp only [hm,decide_false,cond_false,if_false]
        exact (zpj n kr (by omega) false kind _ (by omega) (by omega) _ s b10 b11 b12 b13 b14 b15 b20 b21 _ name kind [(e0,e1,e2)] d3 d4 d5 e0 e1 e2 f0 f1 k0 k1 1 k3)
    · rw [decide_eq_false h64,Bool.not_false,cond_true,if_pos h64]
      rfl
def kindS (kr : KRS X) (s name : List UInt8) (word value : List UInt8) (av aw : Int) (v : List (Bool × Int × Int)) (r0 : Int) (tags : List (List UInt8 × List UInt8)) (time : Int) (is3 : Bool) (p : Nat) : Option X:=
  if kindOf word = 0 then badK' kr s 16 aw else if kindOf word = 2 ∧ value.head? = some 45 then badK' kr s 26 av else rateS kr s name (kindOf word) v r0 tags time is3 p
theorem zpl (hn : 20000 ≤ n) (name : List UInt8) (is3 : Bool) (value : List UInt8) (av : Int) (word : List UInt8) (aw : Int) (s : List UInt8) (hs : s.length ≤ 10000) (b10 : List UInt8) (b11 : Int) (b12 : List (Bool × Int × Int)) (b13 : Int) (b14 : List (List UInt8 × List UInt8)) (b15 b20 b21 : Int) (p : Nat) (hp : p ≤ s.length) (d0 : List UInt8) (d1 : Int) (d2 : List (Bool × Int × Int)) (d3 : Int) (d4 : List (List UInt8 × List UInt8)) (d5 : Int) (e0 : Bool) (e1 e2 f0 f1 : Int) (k0 k1 k2 k3 : Nat) :
    F.za.C16 n kr name is3 value av word aw s b10 b11 b12 b13 b14 b15 b20 b21 (p : Int) d0 d1 d2 d3 d4 d5 e0 e1 e2 f0 f1 k0 k1 k2 k3 = kindS kr s name word value av aw [(e0,e1,e2)] d3 d4 d5 is3 p:=by
  unfold F.za.C16 kindS
  rw [zph n (by omega),za]
  unfold sdKindR
  by_cases h0 : kindOf word = 0
  · rw [if_pos h0,if_pos h0]; rfl
  · have e0' : (!((0 : Int) == 0)) = false:=rfl
    rw [if_neg h0,if_neg h0]
    simp only [e0',cond_false]
    by_cases h2 : kindOf word = 2
    · have e2' : (kindOf word == 2) = true:=by simp [h2]
      rw [e2',cond_true,za5,za]
      by_cases h45 : value.head? = some 45
      · rw [decide_eq_true h45,cond_true,if_pos ⟨h2,h45⟩]; rfl
      · rw [decide_eq_false h45,cond_false,if_neg (fun h => h45 h.2)]
        exact zpk n kr hn name is3 _ s hs b10 b11 b12 b13 b14 b15 b20 b21 p hp d0 d1 d2 d3 d4 d5 e0 e1 e2 f0 f1 k0 k1 k2 k3
    · have e2' : (kindOf word == 2) = false:=by simpa using h2
      rw [e2',cond_false,if_neg (fun h => h2 h.1)]
      exact zpk n kr hn name is3 _ s hs b10 b11 b12 b13 b14 b15 b20 b21 p hp d0 d1 d2 d3 d4 d5 e0 e1 e2 f0 f1 k0 k1 k2 k3
def valueS (kr : KRS X) (s name : List UInt8) (value : List UInt8) (av : Nat) (r0 : Int) (tags : List (List UInt8 × List UInt8)) (time : Int) (is2 : Bool) (p : Nat) : Option X:=
  if ¬ (parseR value).2.1.1 = 0 then badK' kr s 17 av else if is2 = false then badK' kr s 11 s.length
  else kindS kr s name (seg 124 (s.drop p)) value av p [((parseR value).1.1,(parseR value).1.2.1,(parseR value).1.2.2.1)] r0 tags time (decide (124 ∈ s.drop p)) (nextP 124 s p)
theorem zpm (hn : 200000 ≤ n) (name : List UInt8) (is2 : Bool) (value : List UInt8) (hv : value.length ≤ 10000) (av : Nat) (s : List UInt8) (hs : s.length ≤ 10000) (b10 : List UInt8) (b11 : Int) (b12 : List (Bool × Int × Int)) (b13 : Int) (b14 : List (List UInt8 × List UInt8)) (b15 b20 b21 : Int) (p : Nat) (hp : p ≤ s.length) (d0 : List UInt8) (d1 : Int) (d2 : List (Bool × Int × Int)) (d3 : Int) (d4 : List (List UInt8 × List UInt8)) (d5 : Int) (k0 k1 k2 k3 : Nat) :
    F.za.C10 n kr name is2 value (av : Int) s b10 b11 b12 b13 b14 b15 b20 b21 (p : Int) d0 d1 d2 d3 d4 d5 k0 k1 k2 k3 = valueS kr s name value av d3 d4 d5 is2 p:=by
  unfold F.za.C10 valueS
  rw [zc7 n hn value hv,za]
  by_cases h0 : (parseR value).2.1.1 = 0
  · have e : (!((parseR value).2.1.1 == 0 && (parseR value).2.1.2.1 == 0)) = false:=by rw [h0,zb7 h0]; rfl
    rw [e,cond_false,if_neg (fun h => h h0)]
    cases is2
    · rfl
    · have hsl:=z6 124 (s.drop p)
      have hdl : (s.drop p).length = s.length - p:=by simp
      have hnl:=zf3 (c:=124) hp
      rw [Bool.not_true,cond_false,if_neg (by simp),za3 hp,za,zbr n 124 (by omega),za]
      have w1 : IntKind.wrap .i64 ((p : Int) + ((seg 124 (s.drop p)).length : Int)) = ((p + (seg 124 (s.drop p)).length : Nat) : Int):=by rw [zl (by omega)]; omega
      simp only [w1]
      by_cases hm : 124 ∈ s.drop p
      · have hq : nextP 124 s p = p + (seg 124 (s.drop p)).length + 1:=by unfold nextP; rw [if_pos hm]
        simp only [hm,decide_true,cond_true]
        rw [zj (by omega),← hq]
        exact zpl n kr (by omega) name true value _ _ _ s hs b10 b11 b12 b13 b14 b15 b20 b21 _ hnl d0 d1 d2 d3 d4 d5 _ _ _ _ _ k0 k1 k2 k3
      · have hq : nextP 124 s p = p + (seg 124 (s.drop p)).length:=by unfold nextP; rw [if_neg hm]; rfl
        simp only [hm,decide_false,cond_false]
        rw [← hq]
        exact zpl n kr (by omega) name false value _ _ _ s hs b10 b11 b12 b13 b14 b15 b20 b21 _ hnl d0 d1 d2 d3 d4 d5 _ _ _ _ _ k0 k1 k2 k3
  · have e : (!((parseR value).2.1.1 == 0 && (parseR value).2.1.2.1 == 0)) = true:=by
      have : ((parseR value).2.1.1 == 0) = false:=by simpa using h0
      rw [this]; rfl
    rw [e,cond_true,if_pos h0]
    rfl
def nameS (kr : KRS X) (s name : List UInt8) (r0 : Int) (tags : List (List UInt8 × List UInt8)) (time : Int) (is1 : Bool) (p : Nat) : Option X:=
  if ¬ (textF 1 name 1 200).1 = 0 then badK' kr s 15 0 else if is1 = false then badK' kr s 11 s.length
  else valueS kr s name (seg 124 (s.drop p)) p r0 tags time (decide (124 ∈ s.drop p)) (nextP 124 s p)
theorem zsp (hn : 200000 ≤ n) (name : List UInt8) (hnl : name.length ≤ 10000) (is1 : Bool) (s : List UInt8) (hs : s.length ≤ 10000) (b10 : List UInt8) (b11 : Int) (b12 : List (Bool × Int × Int)) (b13 : Int) (b14 : List (List UInt8 × List UInt8)) (b15 b20 b21 : Int) (p : Nat) (hp : p ≤ s.length) (d0 : List UInt8) (d1 : Int) (d2 : List (Bool × Int × Int)) (d3 : Int) (d4 : List (List UInt8 × List UInt8)) (d5 : Int) (k0 k1 k2 k3 : Nat) :
    F.za.C5 n kr name is1 s b10 b11 b12 b13 b14 b15 b20 b21 (p : Int) d0 d1 d2 d3 d4 d5 k0 k1 k2 k3 = nameS kr s name d3 d4 d5 is1 p:=by
  unfold F.za.C5 nameS
  rw [zbk n 1 name 1 200 (by omega) (by omega),za]
  by_cases h0 : (textF 1 name 1 200).1 = 0
  · have e : (!((textF 1 name 1 200).1 == 0 && (textF 1 name 1 200).2.1 == 0)) = false:=by rw [h0,zkf h0]; rfl
    rw [e,cond_false,if_neg (fun h => h h0)]
    cases is1
    · rfl
    · have hsl:=z6 124 (s.drop p)
      have hdl : (s.drop p).length = s.length - p:=by simp
      have hnx:=zf3 (c:=124) hp
      rw [Bool.not_true,cond_false,if_neg (by simp),za3 hp,za,zbr n 124 (by omega),za]
      have w1 : IntKind.wrap .i64 ((p : Int) + ((seg 124 (s.drop p)).length : Int)) = ((p + (seg 124 (s.drop p)).length : Nat) : Int):=by rw [zl (by omega)]; omega
      simp only [w1]
      by_cases hm : 124 ∈ s.drop p
      · have hq : nextP 124 s p = p + (seg 124 (s.drop p)).length + 1:=by unfold nextP; rw [if_pos hm]
        simp only [hm,decide_true,cond_true]
        rw [zj (by omega),← hq]
        exact zpm n kr hn name true _ (by omega) p s hs b10 b11 b12 b13 b14 b15 b20 b21 _ hnx d0 d1 d2 d3 d4 d5 k0 k1 k2 k3
      · have hq : nextP 124 s p = p + (seg 124 (s.drop p)).length:=by unfold nextP; rw [if_neg hm]; rfl
        simp only [hm,decide_false,cond_false]
        rw [← hq]
        exact zpm n kr hn name false _ (by omega) p s hs b10 b11 b12 b13 b14 b15 b20 b21 _ hnx d0 d1 d2 d3 d4 d5 k0 k1 k2 k3
  · have e : (!((textF 1 name 1 200).1 == 0 && (textF 1 name 1 200).2.1 == 0)) = true:=by
      have : ((textF 1 name 1 200).1 == 0) = false:=by simpa using h0
      rw [this]; rfl
    rw [e,cond_true,if_pos h0]
    rfl
end
def finK : KRS MetR:=fun _ a b c d e f x y => some ((a,b,c,d,e,f,()),(x,y,()),())
def sdParse (s : List UInt8) : Option MetR:=nameS finK s (seg 58 s) 1000000 [] 0 (decide (58 ∈ s)) (nextP 58 s 0)
theorem znf (n : Nat) (hn : 200000 ≤ n) (s : List UInt8) (hs : s.length ≤ 10000) : F.za n s = sdParse s:=by
  unfold F.za sdParse
  have h0 : sub s (0 : Int) (s.length : Int) = some s:=za3 (s:=s) (p:=0) (Nat.zero_le _)
  have hsl:=z6 58 s
  have hnx:=zf3 (c:=58) (s:=s) (p:=0) (Nat.zero_le _)
  rw [h0,za,zbr n 58 (by omega),za]
  have w1 : IntKind.wrap .i64 ((0 : Int) + ((seg 58 s).length : Int)) = (((seg 58 s).length : Nat) : Int):=by rw [zl (by omega)]; omega
  simp only [w1]
  by_cases hm : 58 ∈ s
  · have hq : nextP 58 s 0 = (seg 58 s).length + 1:=by unfold nextP; rw [List.drop_zero,if_pos hm]; omega
    simp only [hm,decide_true,cond_true]
    rw [zj (by omega),← hq]
    exact zsp n finK hn _ (by omega) true s hs _ _ _ _ _ _ _ _ _ hnx _ _ _ _ _ _ _ _ _ _
  · have hq : nextP 58 s 0 = (seg 58 s).length:=by unfold nextP; rw [List.drop_zero,if_neg hm]; omega
    simp only [hm,decide_false,cond_false]
    rw [← hq]
    exact zsp n finK hn _ (by omega) false s hs _ _ _ _ _ _ _ _ _ hnx _ _ _ _ _ _ _ _ _ _
end Go.AM
set_option linter.unusedVariables false
set_option linter.unusedSimpArgs false
namespace Go.AM
end Go.AM
set_option linter.unusedVariables false
set_option linter.unusedSimpArgs false
namespace Go.AM
theorem zdu {s : List UInt8} {k : Nat} (h : k < s.length) : idx s (k : Int) = some s[k] ∧ (s.drop k).head? = some s[k]:=by
  refine ⟨zb6 h,?_⟩
  rw [List.head?_drop]; simp [h]
theorem zan (x : UInt8) (c : UInt8) : (((x.toNat : Nat) : Int) == ((c.toNat : Nat) : Int)) = decide (x = c):=by
  by_cases h : x = c
  · subst h; simp
  · rw [decide_eq_false h,beq_eq_false_iff_ne]
    intro hh
    exact h (zbc (by omega))
end Go.AM
set_option linter.unusedVariables false
set_option linter.unusedSimpArgs false
namespace Go.AM
theorem zpn (n : Nat) (X : Type) (k0 : List UInt8→Option X) (kr : Int→Option X) (c : UInt8) (s : List UInt8) (hs : s.length ≤ 1000000) : ∀ (r : List UInt8) (k m : Nat),s.drop k = r→r.length < m →
    F.zp.L2 n k0 kr m s (c.toNat : Int) (k : Int) = if c ∈ r then kr ((k + (seg c r).length : Nat) : Int) else k0 s:=by
  intro r
  induction r with
  | nil =>
    intro k m hk hm
    have:=zo hk
    obtain ⟨m,rfl⟩ : ∃ q,m = q + 1:=⟨m - 1,by omega⟩
    show F.zp.L2.step n (F.zp.L2 n k0 kr m) k0 kr s _ (k : Int) = _
    unfold F.zp.L2.step
    rw [zf (by omega),if_neg (by simp)]
  | cons x r ih =>
    intro k m hk hm
    obtain ⟨h1,h2,h3⟩:=zn hk
    obtain ⟨m,rfl⟩ : ∃ q,m = q + 1:=⟨m - 1,by omega⟩
    show F.zp.L2.step n (F.zp.L2 n k0 kr m) k0 kr s _ (k : Int) = _
    unfold F.zp.L2.step
    rw [zd (by omega),zp,h2,za,zan,zaf]
    by_cases hx : x = c
    · rw [decide_eq_true hx,cond_true,if_pos (by simp [hx]),if_pos hx]; rfl
    · rw [decide_eq_false hx,cond_false,if_neg hx,zj (by omega),ih (k + 1) m h3 (by simp at hm; omega)]
      have hx' : ¬ c = x:=fun h => hx h.symm
      by_cases hm : c ∈ r
      · rw [if_pos hm,if_pos (by simp [hm]),List.length_cons]
        congr 1
        omega
      · rw [if_neg hm,if_neg (by simp [hm,hx'])]
theorem zb0 (n : Nat) (c : UInt8) (s : List UInt8) (hs : s.length ≤ 1000000) (hn : s.length < n) (p : Nat) (hp : p ≤ s.length) : F.zp n s (p : Int) (c.toNat : Int) = some (((p + (seg c (s.drop p)).length : Nat)) : Int):=by
  unfold F.zp
  refine (zpn n Int _ _ c s hs (s.drop p) p n rfl (by simp; omega)).trans ?_
  by_cases h : c ∈ s.drop p
  · rw [if_pos h]
  · rw [if_neg h,zaj h]
    congr 1
    simp; omega
theorem zb1 {s : List UInt8} {c : UInt8} {p : Nat} (hp : p ≤ s.length) : sub s (p : Int) ((p + (seg c (s.drop p)).length : Nat) : Int) = some (seg c (s.drop p)):=by
  have hl:=z6 c (s.drop p)
  simp at hl
  rw [zq s p _ (by omega) (by omega),List.drop_take,Nat.add_sub_cancel_left,zcr]
theorem zdf {s : List UInt8} {c : UInt8} {p : Nat} (hp : p ≤ s.length) : ((((p + (seg c (s.drop p)).length : Nat) : Int)) == (s.length : Int)) = !decide (c ∈ s.drop p):=by
  by_cases h : c ∈ s.drop p
  · have:=zae h
    simp at this
    rw [decide_eq_true h,Bool.not_true,beq_eq_false_iff_ne]
    omega
  · rw [decide_eq_false h,zaj h]
    simp; omega
theorem zgu (n : Nat) (hn : 200000 ≤ n) (s : List UInt8) (hs : s.length ≤ 10000) : F.za2 n s = some (nameOK s):=by
  unfold F.za2 nameOK
  rw [zes n (by omega) 1 s 1 200 rfl (by omega) (by omega) (by omega) (by omega),za,zbs]
end Go.AM
set_option linter.unusedVariables false
set_option linter.unusedSimpArgs false
namespace Go.AM
theorem zpo (n : Nat) (X : Type) (k0 : List UInt8→Int→Int→Option X) (b0 b1 : Int) : ∀ (j m : Nat) (v : List UInt8),v.length + j = 6→j < m→F.z6.L17 n k0 m v b0 b1 = k0 (v ++ List.replicate j 48) b0 b1:=by
  intro j
  induction j with
  | zero =>
    intro m v h hm
    obtain ⟨m,rfl⟩ : ∃ q,m = q + 1:=⟨m - 1,by omega⟩
    show F.z6.L17.step n (F.z6.L17 n k0 m) k0 v b0 b1 = _
    unfold F.z6.L17.step
    rw [zf (by omega),List.replicate_zero,List.append_nil]
  | succ j ih =>
    intro m v h hm
    obtain ⟨m,rfl⟩ : ∃ q,m = q + 1:=⟨m - 1,by omega⟩
    show F.z6.L17.step n (F.z6.L17 n k0 m) k0 v b0 b1 = _
    unfold F.z6.L17.step
    rw [zd (by omega),zd (by rw [zbb]; omega),ih m _ (by simp; omega) (by omega),List.append_assoc,List.replicate_succ]
    rfl
theorem zkk (n : Nat) (hn : 100 ≤ n) (s : List UInt8) (hs : s.length ≤ 1000000) (hl : s.length < n) : F.z6 n s = some (rateR s):=by
  unfold F.z6 rateR
  by_cases h1 : s = [49]
  · rw [if_pos h1,h1]; rfl
  rw [beq_eq_false_iff_ne.2 h1,cond_false,if_neg h1]
  by_cases h2 : s = []
  · rw [if_pos h2,h2]; rfl
  rw [beq_eq_false_iff_ne.2 h2,cond_false,if_neg h2]
  have hp : 0 < s.length:=List.length_pos_iff.2 h2
  obtain ⟨i0,g0⟩:=zdu hp
  rw [List.drop_zero] at g0
  have i0' : idx s (0 : Int) = some s[0]:=i0
  have b0 : (((s[0].toNat : Nat) : Int) == 48) = decide (s[0] = 48):=zan s[0] 48
  rw [i0',za,b0,g0]
  by_cases h3 : s[0] = 48
  · rw [decide_eq_true h3,Bool.not_true,cond_false,if_neg (by simp [h3])]
    by_cases h4 : (s.length : Int) < 2
    · have : (s.drop 1).head? = none:=by rw [List.drop_eq_nil_of_le (by omega)]; rfl
      rw [zd h4,this,if_pos (by simp)]; rfl
    rw [zf h4]
    obtain ⟨i1,g1⟩:=zdu (s:=s) (k:=1) (by omega)
    have i1' : idx s (1 : Int) = some s[1]:=i1
    have b1 : (((s[1].toNat : Nat) : Int) == 46) = decide (s[1] = 46):=zan s[1] 46
    rw [i1',za,b1,g1]
    by_cases h5 : s[1] = 46
    · rw [decide_eq_true h5,Bool.not_true,cond_false,if_neg (by simp [h5])]
      have hdl : (s.drop 2).length + 2 = s.length:=by simp; omega
      have hsub : sub s (2 : Int) (s.length : Int) = some (s.drop 2):=za3 (s:=s) (p:=2) (by omega)
      rw [hsub,za]
      generalize s.drop 2 = d at hdl ⊢
      by_cases h6 : d = []
      · rw [if_pos h6,h6]; rfl
      rw [beq_eq_false_iff_ne.2 h6,cond_false,if_neg h6,zhd n hn 4 d (by omega) (by omega),za,zf5]
      by_cases h7 : 0 ≤ badK isDig 0 d
      · rw [zd (by omega),if_pos h7]
        have:=zmg isDig 0 d
        rw [zl (by omega)]
        rfl
      rw [zf (by omega),if_neg h7]
      have hd:=za6 h7
      by_cases h8 : 6 < d.length
      · rw [zd (by omega),if_pos h8]; rfl
      rw [zf (by omega),if_neg h8,zpo n _ _ 0 0 (6 - d.length) n d (by omega) (by omega)]
      have hD : Digs (d ++ List.replicate (6 - d.length) 48):=z7.2 ⟨hd,zbx _⟩
      have hv:=zbq hD
      have hlen : (d ++ List.replicate (6 - d.length) (48 : UInt8)).length = 6:=by simp; omega
      rw [hlen] at hv
      rw [zig n _ (by omega) (by omega) hD,za,if_pos (by omega),zz] at *
      have hpp : 0 < 10 ^ (6 - d.length):=Nat.pow_pos (by omega)
      by_cases h9 : val d = 0
      · rw [if_pos h9,h9,Nat.zero_mul]; rfl
      · have:=Nat.mul_pos (Nat.pos_of_ne_zero h9) hpp
        rw [if_neg h9,beq_eq_false_iff_ne.2 (by simp only; omega)]
        rfl
    · rw [decide_eq_false h5,if_pos (by simp [h5])]; rfl
  · rw [decide_eq_false h3,if_pos (by simp [h3])]; rfl
end Go.AM
set_option linter.unusedVariables false
set_option linter.unusedSimpArgs false
namespace Go.AM
section
variable {X : Type} (n : Nat) (kr : KRS X)
theorem zus (e : Nat) (r : Int) (s : List UInt8) (b10 : List UInt8) (b11 : Int) (b12 : List DecL) (b13 : Int) (b14 : List TagL) (b15 b20 b21 : Int) (e0 : Bool) (e1 e2 : Int) (d0 : List UInt8) (d1 : Int) (d2 : List DecL) (d3 : Int) (d4 : List TagL) (d5 : Int) (k0 k1 k2 k3 : Nat) :
    F.zg.C27 n (kr s) s (e : Int) r b10 b11 b12 b13 b14 b15 b20 b21 e0 e1 e2 d0 d1 d2 d3 d4 d5 k0 k1 k2 k3 = if e < s.length then badK' kr s 11 (e : Int) else kr s d0 d1 d2 r d4 d5 0 0:=by
  unfold F.zg.C27
  by_cases h : e < s.length
  · rw [zd (by omega),if_pos h]; rfl
  · rw [zf (by omega),if_neg h]
theorem zut (hn : 20000 ≤ n) (a : Nat) (p : Nat) (kind : Int) (s : List UInt8) (ha : a ≤ s.length) (hs : s.length ≤ 10000) (hp : p ≤ s.length) (b10 : List UInt8) (b11 : Int) (b12 : List DecL) (b13 : Int) (b14 : List TagL) (b15 b20 b21 : Int) (e0 : Bool) (e1 e2 : Int) (k0 k1 : Nat) :
    F.zg.C18 n (kr s) s (a : Int) ((p + (seg 124 (s.drop p)).length : Nat) : Int) kind b10 b11 b12 b13 b14 b15 b20 b21 e0 e1 e2 k0 k1 = rateS kr s (s.take a) kind [(e0,e1,e2)] 1000000 [] 0 (decide (124 ∈ s.drop p)) (nextP 124 s p):=by
  unfold F.zg.C18 rateS
  have hsub : sub s (0 : Int) (a : Int) = some (s.take a):=by
    have:=zq s 0 a (by omega) ha
    rw [List.drop_zero] at this
    exact this
  rw [hsub,za,zdf hp]
  by_cases hm : 124 ∈ s.drop p
  · have hq : nextP 124 s p = p + (seg 124 (s.drop p)).length + 1:=by unfold nextP; rw [if_pos hm]
    have hlt:=zae hm
    simp at hlt
    rw [decide_eq_true hm,Bool.not_true,cond_false,if_neg (by simp),hq,zj (by omega)]
    generalize hQ : p + (seg 124 (s.drop p)).length = q at *
    by_cases h1 : q + 1 = s.length
    · have e1' : ((((q + 1 : Nat)) : Int) == (s.length : Int)) = true:=by simp; omega
      have : ¬ (s.drop (q + 1)).head? = some 64:=by rw [List.drop_eq_nil_of_le (by omega)]; simp
      rw [e1',cond_true,if_pos this]; rfl
    · have e1' : ((((q + 1 : Nat)) : Int) == (s.length : Int)) = false:=by rw [beq_eq_false_iff_ne]; omega
      obtain ⟨i1,g1⟩:=zdu (s:=s) (k:=q + 1) (by omega)
      have b1 : (((s[q + 1].toNat : Nat) : Int) == 64) = decide (s[q + 1] = 64):=zan _ 64
      rw [e1',cond_false,i1,za,b1,g1]
      by_cases h2 : s[q + 1] = 64
      · rw [decide_eq_true h2,Bool.not_true,cond_false,if_neg (by simp [h2])]
        have w2 : IntKind.wrap .i64 ((q : Int) + 2) = ((q + 1 + 1 : Nat) : Int):=by rw [zl (by omega)]; omega
        have hsl:=z6 124 (s.drop (q + 1 + 1))
        simp at hsl
        have fe:=zb0 n 124 s (by omega) (by omega) (q + 1 + 1) (by omega)
        rw [w2,show (124 : Int) = ((124 : UInt8).toNat : Int) from rfl,fe,za,zb1 (by omega),za,zkk n (by omega) _ (by omega) (by omega),za]
        have r26 : ∀ (t : Bool) (r : Int) (k2 k3 : Nat),F.zg.C26 n
                    (fun e44_b0_0 e44_b0_1 e44_b0_2 e44_b0_3 e44_b0_4 e44_b0_5 e44_b1_0 e44_b1_1 =>
                      kr s e44_b0_0 e44_b0_1 e44_b0_2 e44_b0_3 e44_b0_4 e44_b0_5 e44_b1_0 e44_b1_1)
                    (fun e45_0 e45_11 e45_12 e45_b0_0 e45_b0_1 e45_b0_2 e45_b0_3 e45_b0_4 e45_b0_5 e45_b1_0 e45_b1_1 e45_b2_0 e45_b2_1 e45_b2_2 e45_b3_0 e45_b3_1 e45_b3_2 e45_b3_3 e45_b3_4 e45_b3_5 e45_k0 e45_k1 e45_k2 e45_k3 =>
                      F.zg.C27 n
                        (fun e46_b0_0 e46_b0_1 e46_b0_2 e46_b0_3 e46_b0_4 e46_b0_5 e46_b1_0 e46_b1_1 =>
                          kr s e46_b0_0 e46_b0_1 e46_b0_2 e46_b0_3 e46_b0_4 e46_b0_5 e46_b1_0 e46_b1_1) e45_0 e45_11 e45_12 e45_b0_0 e45_b0_1 e45_b0_2 e45_b0_3 e45_b0_4 e45_b0_5 e45_b1_0 e45_b1_1 e45_b2_0 e45_b2_1 e45_b2_2 e45_b3_0 e45_b3_1 e45_b3_2 e45_b3_3 e45_b3_4 e45_b3_5 e45_k0 e45_k1 e45_k2 e45_k3) s (q : Int) ((q + 1 + 1 + (seg 124 (s.drop (q + 1 + 1))).length : Nat) : Int) r t b10 b11 b12 b13 b14 b15 b20 b21 e0 e1 e2 (s.take a) kind ([(e0,e1,e2)]) (1000000 : Int) [] (0 : Int) k0 k1 k2 k3
              = if t = true then badK' kr s 18 ((q + 1 + 1 : Nat) : Int) else if 124 ∈ s.drop (q + 1 + 1) then badK' kr s 11 ((q + 1 + 1 + (seg 124 (s.drop (q + 1 + 1))).length : Nat) : Int) else kr s (s.take a) kind [(e0,e1,e2)] r [] 0 0 0:=by
          intro t r k2 k3
          unfold F.zg.C26
          cases t
          · rw [cond_false,if_neg (by simp)]
            refine (zus n kr _ r s b10 b11 b12 b13 b14 b15 b20 b21 e0 e1 e2 (s.take a) kind [(e0,e1,e2)] 1000000 [] 0 k0 k1 k2 k3).trans ?_
            by_cases hm2 : 124 ∈ s.drop (q + 1 + 1)
            · have:=zae hm2
              simp at this
              rw [if_pos hm2,if_pos (by omega)]
            · rw [if_neg hm2,if_neg]
              rw [zaj hm2]
              simp; omega
          · rw [cond_true,if_pos rfl,w2]; rfl
        by_cases h3 : (rateR (seg 124 (s.drop (q + 1 + 1)))).2.1.1 = 0
        · have e3 : ((rateR (seg 124 (s.drop (q + 1 + 1)))).2.1.1 == 0) = true:=by simp [h3]
          rw [e3,Bool.not_true,cond_false]
          by_cases hk : kind = 2
          · have ek : (kind == 2) = true:=by simp [hk]
            rw [ek,cond_true]
            refine (r26 _ _ _ _).trans ?_
            by_cases h4 : (rateR (seg 124 (s.drop (q + 1 + 1)))).1 = 1000000
            · rw [if_neg (show ¬ (¬ (rateR (seg 124 (s.drop (q + 1 + 1)))).2.1.1 = 0 ∨ (kind = 2 ∧ ¬ (rateR (seg 124 (s.drop (q + 1 + 1)))).1 = 1000000)) from by rintro (h | h); exact h h3; exact h.2 h4),h4,if_neg (by simp)]
            · rw [if_pos (by simpa using h4),if_pos (Or.inr ⟨hk,h4⟩)]
          · have ek : (kind == 2) = false:=by simpa using hk
            rw [ek,cond_false]
            refine (r26 _ _ _ _).trans ?_
            rw [if_neg (show ¬ (¬ (rateR (seg 124 (s.drop (q + 1 + 1)))).2.1.1 = 0 ∨ (kind = 2 ∧ ¬ (rateR (seg 124 (s.drop (q + 1 + 1)))).1 = 1000000)) from by rintro (h | h); exact h h3; exact hk h.1),if_neg (by simp)]
        · have e3 : ((rateR (seg 124 (s.drop (q + 1 + 1)))).2.1.1 == 0) = false:=by simpa using h3
          rw [e3,Bool.not_false,cond_true]
          refine (r26 _ _ _ _).trans ?_
          rw [if_pos rfl,if_pos (Or.inl h3)]
      · rw [decide_eq_false h2,Bool.not_false,cond_true,if_pos (by simp [h2])]; rfl
  · rw [decide_eq_false hm,Bool.not_false,cond_true,if_pos rfl]
end
theorem ziw (n : Nat) (hn : 200000 ≤ n) (s : List UInt8) (hs : s.length ≤ 10000) : F.zg n s = sdParse s:=by
  unfold F.zg sdParse nameS
  have f0 : F.zp n s (0 : Int) (58 : Int) = some (((seg 58 s).length : Nat) : Int):=by
    have:=zb0 n 58 s (by omega) (by omega) 0 (by omega)
    rw [List.drop_zero,Nat.zero_add] at this
    exact this
  have hl:=z6 58 s
  have s0 : sub s (0 : Int) (((seg 58 s).length : Nat) : Int) = some (seg 58 s):=by
    have:=zb1 (s:=s) (c:=58) (p:=0) (by omega)
    rw [List.drop_zero,Nat.zero_add] at this
    exact this
  have e0 : ((((seg 58 s).length : Nat) : Int) == (s.length : Int)) = !decide (58 ∈ s):=by
    have:=zdf (s:=s) (c:=58) (p:=0) (by omega)
    rw [List.drop_zero,Nat.zero_add] at this
    exact this
  rw [f0,za,s0,za,zgu n hn _ (by omega),za,e0]
  unfold nameOK
  by_cases h1 : (textF 1 (seg 58 s) 1 200).1 = 0
  · have e1 : ((textF 1 (seg 58 s) 1 200).1 == 0) = true:=by simp [h1]
    rw [e1,Bool.not_true,cond_false,if_neg (fun h => h h1)]
    by_cases hm : 58 ∈ s
    · have hlt := zae hm
      have hq : nextP 58 s 0 = (seg 58 s).length + 1:=by unfold nextP; rw [List.drop_zero,if_pos hm]; omega
      have htk : s.take (seg 58 s).length = seg 58 s:=zcr 58 s
      rw [decide_eq_true hm,Bool.not_true,cond_false,if_neg (by simp),hq,zj (by omega)]
      unfold valueS
      generalize hA : (seg 58 s).length = a at *
      have hsl:=z6 124 (s.drop (a + 1))
      simp at hsl
      rw [show (124 : Int) = ((124 : UInt8).toNat : Int) from rfl,zb0 n 124 s (by omega) (by omega) (a + 1) (by omega),za,zb1 (by omega),za,zc8 n hn _ (by omega),za,zdf (by omega)]
      by_cases h2 : (parseR (seg 124 (s.drop (a + 1)))).2.1.1 = 0
      · have e2 : ((parseR (seg 124 (s.drop (a + 1)))).2.1.1 == 0) = true:=by simp [h2]
        rw [e2,Bool.not_true,cond_false,if_neg (fun h => h h2)]
        by_cases hm2 : 124 ∈ s.drop (a + 1)
        · have hlt2:=zae hm2
          simp at hlt2
          have hq2 : nextP 124 s (a + 1) = a + 1 + (seg 124 (s.drop (a + 1))).length + 1:=by unfold nextP; rw [if_pos hm2]
          rw [decide_eq_true hm2,Bool.not_true,cond_false,if_neg (by simp),hq2,zj (by omega)]
          unfold kindS
          generalize hB : a + 1 + (seg 124 (s.drop (a + 1))).length = b at *
          have hsl3:=z6 124 (s.drop (b + 1))
          simp at hsl3
          rw [zb0 n 124 s (by omega) (by omega) (b + 1) (by omega),za,zb1 (by omega),za,zkj n (by omega),za]
          by_cases h3 : kindOf (seg 124 (s.drop (b + 1))) = 0
          · rw [h3,if_pos rfl]; rfl
          · rw [beq_eq_false_iff_ne.2 h3,cond_false,if_neg h3]
            have fin:=zut n finK (by omega) a (b + 1) (kindOf (seg 124 (s.drop (b + 1)))) s (by omega) hs (by omega) [] 0 [] 0 [] 0 0 0 (parseR (seg 124 (s.drop (a + 1)))).1.1 (parseR (seg 124 (s.drop (a + 1)))).1.2.1 (parseR (seg 124 (s.drop (a + 1)))).1.2.2.1 0 0
            rw [htk] at fin
            by_cases h4 : kindOf (seg 124 (s.drop (b + 1))) = 2
            · have e4 : (kindOf (seg 124 (s.drop (b + 1))) == 2) = true:=by simp [h4]
              obtain ⟨i1,g1⟩:=zdu (s:=s) (k:=a + 1) (by omega)
              have b1 : (((s[a + 1].toNat : Nat) : Int) == 45) = decide (s[a + 1] = 45):=zan _ 45
              have hv : (seg 124 (s.drop (a + 1))).head? = some s[a + 1]:=by
                have hd : s.drop (a + 1) = s[a + 1] :: s.drop (a + 1 + 1):=List.drop_eq_getElem_cons (by omega)
                have hne : ¬ s[a + 1] = 124:=by
                  intro hh
                  rw [hd,zaf,if_pos hh] at h2
                  exact absurd h2 (by decide)
                rw [hd,zaf,if_neg hne]; rfl
              rw [e4,cond_true,i1,za,b1,hv]
              by_cases h5 : s[a + 1] = 45
              · rw [decide_eq_true h5,cond_true,if_pos ⟨h4,by rw [h5]⟩]; rfl
              · rw [decide_eq_false h5,cond_false,if_neg (fun h => h5 (Option.some.inj h.2))]
                exact fin
            · have e4 : (kindOf (seg 124 (s.drop (b + 1))) == 2) = false:=by simpa using h4
              rw [e4,cond_false,if_neg (fun h => h4 h.1)]
              exact fin
        · rw [decide_eq_false hm2,Bool.not_false,cond_true,if_pos rfl]
          have : a + 1 + (seg 124 (s.drop (a + 1))).length = s.length:=by rw [zaj hm2]; simp; omega
          rw [this]; rfl
      · have e2 : ((parseR (seg 124 (s.drop (a + 1)))).2.1.1 == 0) = false:=by simpa using h2
        rw [e2,if_pos h2]; rfl
    · rw [decide_eq_false hm,Bool.not_false,cond_true,if_pos rfl,zaj hm]; rfl
  · have e1 : ((textF 1 (seg 58 s) 1 200).1 == 0) = false:=by simpa using h1
    rw [e1,if_pos h1]; rfl
end Go.AM
set_option linter.unusedVariables false
set_option linter.unusedSimpArgs false
namespace Go.AM
theorem zdg {c : UInt8} {a : List UInt8} (h : c ∉ a) (t : List UInt8) : seg c (a ++ c :: t) = a:=by
  induction a with
  | nil => show seg c (c :: t) = []; rw [zaf,if_pos rfl]
  | cons b a ih =>
    show seg c (b :: (a ++ c :: t)) = _
    rw [zaf,if_neg (fun hh => h (by simp [hh])),ih (fun hh => h (by simp [hh]))]
theorem zbd {c : UInt8} {s : List UInt8} (h : c ∈ s) : s = seg c s ++ c :: s.drop ((seg c s).length + 1):=by
  induction s with
  | nil => simp at h
  | cons b s ih =>
    rw [zaf]
    by_cases hb : b = c
    · rw [if_pos hb,hb]; rfl
    · rw [if_neg hb]
      have hm : c ∈ s:=by
        rcases List.mem_cons.1 h with h | h
        · exact absurd h.symm hb
        · exact h
      have:=ih hm
      simp only [List.length_cons,List.drop_succ_cons,List.cons_append]
      rw [← this]
theorem zf6 (c : UInt8) (s : List UInt8) : c ∉ seg c s:=by
  induction s with
  | nil => simp [seg]
  | cons b s ih =>
    rw [zaf]
    by_cases hb : b = c
    · rw [if_pos hb]; simp
    · rw [if_neg hb]
      intro hm
      rcases List.mem_cons.1 hm with h | h
      · exact hb h.symm
      · exact ih h
theorem zeu {c : UInt8} {s a t : List UInt8} {p : Nat} (hs : s.drop p = a ++ c :: t) (h : c ∉ a) : nextP c s p = p + a.length + 1 ∧ s.drop (p + a.length + 1) = t:=by
  constructor
  · unfold nextP
    rw [hs,zdg h,if_pos (by simp)]
  · rw [Nat.add_assoc,← List.drop_drop,hs]
    simp
theorem zpp {c : UInt8} {s a : List UInt8} {p : Nat} (hs : s.drop p = a) (h : c ∉ a) : nextP c s p = p + a.length:=by
  unfold nextP
  rw [hs,if_neg h,zaj h]; omega
theorem zpq {s : List UInt8} (h : nameOK s = true) : (58 : UInt8) ∉ s:=by
  rw [zet] at h
  simp only [Bool.and_eq_true,List.all_eq_true] at h
  intro hm
  have:=h.1 58 hm
  revert this
  decide
abbrev badM (c a : Int) : MetR:=(([],0,[],0,[],0,()),(c,a,()),())
end Go.AM
set_option linter.unusedVariables false
set_option linter.unusedSimpArgs false
namespace Go.AM
theorem zln (s : List UInt8) : ((parseR s).2.1.1 ≠ 0 ∧ (parseR s).1 = (false,0,0,()) ∧ 0 ≤ (parseR s).2.1.2.1 ∧ (parseR s).2.1.2.1 ≤ s.length) ∨
    (∃ (neg : Bool) (c : Nat) (e : Int),parseR s = ((neg,(c : Int),e,()),(0,0,()),()) ∧ c < two64 ∧ (-9223372036854775808 ≤ e ∧ e ≤ 9223372036854775807) ∧ checkR neg c e = 0):=by
  unfold parseR
  by_cases h : (lookR s).1 = 0
  · rw [if_pos h]
    have hD : Digs (aheadD s ++ behindD s):=z7.2 ⟨zbm _,zfn s⟩
    generalize aheadD s ++ behindD s = d at hD
    generalize (-((behindD s).length : Int)) = E
    generalize negD s = neg
    by_cases hv : val d = 0
    · refine Or.inr ⟨false,0,0,?_,by decide,by omega,?_⟩
      · have : valR neg d E = zeroD:=by unfold valR; rw [if_pos hv]
        rw [this]; rfl
      · have d0 : Lib.decDigits 0 = [48]:=zfz (by omega)
        unfold checkR
        rw [d0]; rfl
    · obtain ⟨c0,z,h1,h2⟩:=zc1 (val d) (by omega)
      rw [zaq hD h2 h1]
      generalize E + (z : Int) = Y
      by_cases hY : Y < -18
      · refine Or.inl ?_
        have : normR neg c0 Y = ((false,0,0,()),10,()):=by unfold normR; rw [if_pos hY]
        rw [this]
        exact ⟨by decide,rfl,by decide,by show (0 : Int) ≤ s.length; omega⟩
      · by_cases hf : c0 * 10 ^ (Y - 18).toNat < two64
        · have e1 : normR neg c0 Y = ((neg,((c0 * 10 ^ (Y - 18).toNat : Nat) : Int),(if Y ≤ 18 then Y else 18),()),0,()):=by unfold normR; rw [if_neg hY,if_pos hf]
          rw [e1]
          have hE : -18 ≤ (if Y ≤ 18 then Y else 18) ∧ (if Y ≤ 18 then Y else 18) ≤ 18:=by split <;> omega
          refine Or.inr ⟨neg,c0 * 10 ^ (Y - 18).toNat,(if Y ≤ 18 then Y else 18),rfl,hf,by omega,?_⟩
          unfold checkR
          rw [if_neg (by omega),zaq (zdc _) h2 (zdd _)]
          have e2 : (if Y ≤ 18 then Y else 18) + (((Y - 18).toNat : Nat) : Int) = Y:=by split <;> omega
          rw [e2,e1,if_pos ⟨rfl,rfl⟩]
        · refine Or.inl ?_
          have : normR neg c0 Y = ((false,0,0,()),10,()):=by unfold normR; rw [if_neg hY,if_neg hf]
          rw [this]
          exact ⟨by decide,rfl,by decide,by show (0 : Int) ≤ s.length; omega⟩
  · rw [if_neg h]
    refine Or.inl ⟨h,rfl,?_⟩
    show 0 ≤ (lookR s).2.1 ∧ (lookR s).2.1 ≤ s.length
    have endle : ∀ (r : Prop) [Decidable r] (a l : Nat),a ≤ l→0 ≤ (endR r a l).2.1 ∧ (endR r a l).2.1 ≤ (l : Int):=by
      intro r _ a l hl
      unfold endR
      split
      · show (0 : Int) ≤ 0 ∧ (0 : Int) ≤ l; omega
      · split
        · show (0 : Int) ≤ a ∧ (a : Int) ≤ l; omega
        · show (0 : Int) ≤ a ∧ (a : Int) ≤ l; omega
    unfold lookR lookQ
    split
    · rename_i hp
      exact endle _ _ _ (zuw hp.2)
    · exact endle _ _ _ (zm8 (zm7 s))
end Go.AM
set_option linter.unusedVariables false
set_option linter.unusedSimpArgs false
namespace Go.AM
theorem zng {w : List UInt8} (h : ¬ kindOf w = 0) : w = wordL (kindOf w) ∧ 1 ≤ kindOf w ∧ kindOf w ≤ 4 ∧ (124 : UInt8) ∉ w:=by
  unfold kindOf at h ⊢
  by_cases h1 : w = [99]
  · subst h1; decide
  rw [if_neg h1] at h ⊢
  by_cases h2 : w = [103]
  · subst h2; decide
  rw [if_neg h2] at h ⊢
  by_cases h3 : w = [109,115]
  · subst h3; decide
  rw [if_neg h3] at h ⊢
  by_cases h4 : w = [104]
  · subst h4; decide
  rw [if_neg h4] at h
  exact absurd rfl h
section
variable {X : Type} (kr : KRS X)
theorem zkl {name value word : List UInt8} {d : DecL} (hn : nameOK name = true) (hv : (124 : UInt8) ∉ value) (hp : parseR value = ((d.1,d.2.1,d.2.2,()),(0,0,()),())) (hk : ¬ kindOf word = 0) (hg : ¬ (kindOf word = 2 ∧ value.head? = some 45))
    {s rest : List UInt8} (hs : s = name ++ 58 :: (value ++ 124 :: (word ++ rest))) (hr : rest = [] ∨ rest.head? = some 124) :
    nameS kr s (seg 58 s) 1000000 [] 0 (decide (58 ∈ s)) (nextP 58 s 0) = rateS kr s name (kindOf word) [d] 1000000 [] 0 (decide (rest.head? = some 124)) (name.length + 1 + value.length + 1 + word.length + (if rest.head? = some 124 then 1 else 0)):=by
  have hnf:=zpq hn
  obtain ⟨hw1,hw2,hw3,hw4⟩:=zng hk
  have h58 : (58 : UInt8) ∈ s:=by rw [hs]; simp
  have hseg : seg 58 s = name:=by rw [hs]; exact zdg hnf _
  have hd0 : s.drop 0 = name ++ 58 :: (value ++ 124 :: (word ++ rest)):=hs
  obtain ⟨n1,n2⟩:=zeu hd0 hnf
  rw [Nat.zero_add] at n1 n2
  have hm1 : (124 : UInt8) ∈ s.drop (name.length + 1):=by rw [n2]; simp
  obtain ⟨m1,m2⟩:=zeu n2 hv
  have hsv : seg 124 (s.drop (name.length + 1)) = value:=by rw [n2]; exact zdg hv _
  have hname : (textF 1 name 1 200).1 = 0:=by unfold nameOK at hn; simpa using hn
  unfold nameS
  rw [hseg,if_neg (fun h => h hname),decide_eq_true h58,if_neg (by simp),n1,hsv,m1,decide_eq_true hm1]
  unfold valueS
  rw [hp,if_neg (by simp),if_neg (by simp)]
  unfold kindS
  rcases hr with hr | hr
  · subst hr
    rw [List.append_nil] at m2
    have hsw : seg 124 (s.drop (name.length + 1 + value.length + 1)) = word:=by rw [m2]; exact zaj hw4
    have hm2 : ¬ (124 : UInt8) ∈ s.drop (name.length + 1 + value.length + 1):=by rw [m2]; exact hw4
    rw [hsw,if_neg hk,if_neg hg,decide_eq_false hm2,zpp m2 hw4]
    rfl
  · obtain ⟨t,ht⟩ : ∃ t,rest = 124 :: t:=by
      cases rest with
      | nil => simp at hr
      | cons b t => exact ⟨t,by simp at hr; rw [hr]⟩
    subst ht
    have hsw : seg 124 (s.drop (name.length + 1 + value.length + 1)) = word:=by rw [m2]; exact zdg hw4 _
    have hm2 : (124 : UInt8) ∈ s.drop (name.length + 1 + value.length + 1):=by rw [m2]; simp
    rw [hsw,if_neg hk,if_neg hg,decide_eq_true hm2,(zeu m2 hw4).1]
    rfl
theorem zuc {name value word t : List UInt8} {s : List UInt8} (hs : s = name ++ 58 :: (value ++ 124 :: (word ++ 124 :: t))) : s.drop (name.length + 1 + value.length + 1 + word.length + 1) = t ∧ s.length = name.length + 1 + value.length + 1 + word.length + 1 + t.length:=by
  subst hs
  refine ⟨?_,by simp; omega⟩
  rw [show name.length + 1 + value.length + 1 + word.length + 1 = name.length + (1 + (value.length + (1 + (word.length + 1)))) from by omega,List.drop_append,List.drop_eq_nil_of_le (by omega),List.nil_append]
  rw [show name.length + (1 + (value.length + (1 + (word.length + 1)))) - name.length = (value.length + (1 + (word.length + 1))) + 1 from by omega,List.drop_succ_cons,List.drop_append,List.drop_eq_nil_of_le (by omega),List.nil_append,
    show value.length + (1 + (word.length + 1)) - value.length = word.length + 1 + 1 from by omega,List.drop_succ_cons,List.drop_append,List.drop_eq_nil_of_le (by omega),List.nil_append,show word.length + 1 - word.length = 0 + 1 from by omega,List.drop_succ_cons,List.drop_zero]
end
abbrev OkR (name : List UInt8) (k : Int) (d : DecL) (r : Int) : MetR:=((name,k,[d],r,[],0,()),(0,0,()),())
theorem zr0 {name value word : List UInt8} {d : DecL} (hn : nameOK name = true) (hv : (124 : UInt8) ∉ value) (hp : parseR value = ((d.1,d.2.1,d.2.2,()),(0,0,()),())) (hk : ¬ kindOf word = 0) (hg : ¬ (kindOf word = 2 ∧ value.head? = some 45)) :
    sdParse (name ++ 58 :: (value ++ 124 :: word)) = some (OkR name (kindOf word) d 1000000):=by
  unfold sdParse
  have:=zkl finK hn hv hp hk hg (s:=name ++ 58 :: (value ++ 124 :: word)) (rest:=[]) (by rw [List.append_nil]) (Or.inl rfl)
  rw [this]
  rfl
theorem zud {name value word : List UInt8} {d : DecL} (hn : nameOK name = true) (hv : (124 : UInt8) ∉ value) (hp : parseR value = ((d.1,d.2.1,d.2.2,()),(0,0,()),())) (hk : ¬ kindOf word = 0) (hg : ¬ (kindOf word = 2 ∧ value.head? = some 45)) (t : List UInt8) :
    sdParse (name ++ 58 :: (value ++ 124 :: (word ++ 124 :: t))) = some (if ¬ t.head? = some 64 then badM 11 ((name.length + 1 + value.length + 1 + word.length + 1 : Nat) : Int)
      else if ¬ (rateR (seg 124 (t.drop 1))).2.1.1 = 0 ∨ (kindOf word = 2 ∧ ¬ (rateR (seg 124 (t.drop 1))).1 = 1000000) then badM 18 ((name.length + 1 + value.length + 1 + word.length + 1 + 1 : Nat) : Int)
      else if 124 ∈ t.drop 1 then badM 11 ((name.length + 1 + value.length + 1 + word.length + 1 + 1 + (seg 124 (t.drop 1)).length : Nat) : Int)
      else OkR name (kindOf word) d (rateR (seg 124 (t.drop 1))).1):=by
  unfold sdParse
  generalize hs : name ++ 58 :: (value ++ 124 :: (word ++ 124 :: t)) = s
  have:=zkl finK hn hv hp hk hg (s:=s) (rest:=124 :: t) hs.symm (Or.inr rfl)
  have hd:=(zuc hs.symm).1
  rw [this]
  unfold rateS
  have h1 : (if (124 :: t : List UInt8).head? = some 124 then 1 else 0) = 1:=rfl
  have h2 : decide ((124 :: t : List UInt8).head? = some 124) = true:=rfl
  have hd1 : s.drop (name.length + 1 + value.length + 1 + word.length + 1 + 1) = t.drop 1:=by rw [← List.drop_drop,hd]
  rw [h1,h2,if_neg (by simp),hd,hd1]
  repeat' split
  all_goals first | rfl | (exfalso; simp_all)
theorem zkm (s : List UInt8) : (∃ c a : Int,sdParse s = some (badM c a) ∧ c ≠ 0 ∧ 0 ≤ a ∧ a ≤ s.length) ∨
    (∃ name value word tail d r,s = name ++ 58 :: (value ++ 124 :: (word ++ tail)) ∧ nameOK name = true ∧ (124 : UInt8) ∉ value ∧ parseR value = ((d.1,d.2.1,d.2.2,()),(0,0,()),()) ∧ ¬ kindOf word = 0 ∧ ¬ (kindOf word = 2 ∧ value.head? = some 45) ∧
      (tail = [] ∧ r = 1000000 ∨ ∃ rt,tail = 124 :: 64 :: rt ∧ (rateR rt).2.1.1 = 0 ∧ (rateR rt).1 = r ∧ (kindOf word = 2→r = 1000000) ∧ (124 : UInt8) ∉ rt) ∧ sdParse s = some (OkR name (kindOf word) d r)):=by
  by_cases hn : nameOK (seg 58 s) = true
  · by_cases h58 : (58 : UInt8) ∈ s
    · have hsp:=zbd h58
      have hlt:=zae h58
      generalize hname : seg 58 s = name at *
      generalize ht : s.drop (name.length + 1) = t at *
      have htl : t.length + (name.length + 1) = s.length:=by rw [← ht]; simp; omega
      have hn0 : ¬ ¬ (textF 1 name 1 200).1 = 0:=by unfold nameOK at hn; simpa using hn
      have hq : nextP 58 s 0 = name.length + 1:=by unfold nextP; rw [List.drop_zero,if_pos h58,hname]; omega
      have e1 : sdParse s = valueS finK s name (seg 124 t) (name.length + 1) 1000000 [] 0 (decide (124 ∈ t)) (nextP 124 s (name.length + 1)):=by
        unfold sdParse nameS
        rw [hname,if_neg hn0,decide_eq_true h58,if_neg (by simp),hq,ht]
      by_cases hv : (parseR (seg 124 t)).2.1.1 = 0
      · by_cases hb : (124 : UInt8) ∈ t
        · have hsp2:=zbd hb
          have hlt2:=zae hb
          have hfree:=zf6 124 t
          generalize hvalue : seg 124 t = value at *
          generalize ht2 : t.drop (value.length + 1) = t2 at *
          have hd2 : s.drop (name.length + 1 + value.length + 1) = t2:=by rw [Nat.add_assoc (name.length + 1),← List.drop_drop,ht,ht2]
          have htl2 : t2.length + (value.length + 1) = t.length:=by rw [← ht2]; simp; omega
          have hq2 : nextP 124 s (name.length + 1) = name.length + 1 + value.length + 1:=by unfold nextP; rw [ht,if_pos hb,hvalue]
          have e2 : sdParse s = kindS finK s name (seg 124 t2) value (name.length + 1 : Nat) (name.length + 1 + value.length + 1 : Nat) [((parseR value).1.1,(parseR value).1.2.1,(parseR value).1.2.2.1)] 1000000 [] 0 (decide (124 ∈ t2)) (nextP 124 s (name.length + 1 + value.length + 1)):=by
            rw [e1]
            unfold valueS
            rw [if_neg (fun h => h hv),decide_eq_true hb,if_neg (by simp),hq2,hd2]
          by_cases hk : kindOf (seg 124 t2) = 0
          · left
            refine ⟨16,((name.length + 1 + value.length + 1 : Nat) : Int),?_,by decide,by omega,by omega⟩
            rw [e2]
            unfold kindS
            rw [if_pos hk]; rfl
          by_cases hg : kindOf (seg 124 t2) = 2 ∧ value.head? = some 45
          · left
            refine ⟨26,((name.length + 1 : Nat) : Int),?_,by decide,by omega,by omega⟩
            rw [e2]
            unfold kindS
            rw [if_neg hk,if_pos hg]; rfl
          have hat:=zb7 hv
          have hp : parseR value = (((((parseR value).1.1,(parseR value).1.2.1,(parseR value).1.2.2.1) : DecL).1,(parseR value).1.2.1,(parseR value).1.2.2.1,()),(0,0,()),()):=by
            generalize parseR value = z at hv hat
            obtain ⟨⟨a,b,c,_⟩,⟨x,y,_⟩,_⟩:=z
            simp only at hv hat
            subst hv hat
            rfl
          by_cases hb2 : (124 : UInt8) ∈ t2
          · have hsp3:=zbd hb2
            generalize hword : seg 124 t2 = word at *
            generalize ht3 : t2.drop (word.length + 1) = t3 at *
            have hlt3 : word.length + 1 + t3.length = t2.length:=by
              have:=congrArg List.length hsp3
              simp at this
              omega
            have hs : s = name ++ 58 :: (value ++ 124 :: (word ++ 124 :: t3)):=by rw [← hsp3,← hsp2,← hsp]
            have L:=zud hn hfree hp hk hg t3
            rw [← hs] at L
            by_cases c1 : t3.head? = some 64
            · rw [if_neg (fun h => h c1)] at L
              obtain ⟨t4,ht4⟩ : ∃ t4,t3 = 64 :: t4:=by
                cases t3 with
                | nil => simp at c1
                | cons b t => exact ⟨t,by simp at c1; rw [c1]⟩
              subst ht4
              simp only [List.drop_succ_cons,List.drop_zero,List.length_cons] at L hlt3
              by_cases c2 : ¬ (rateR (seg 124 t4)).2.1.1 = 0 ∨ (kindOf word = 2 ∧ ¬ (rateR (seg 124 t4)).1 = 1000000)
              · rw [if_pos c2] at L
                exact Or.inl ⟨18,_,L,by decide,by omega,by omega⟩
              rw [if_neg c2] at L
              by_cases c3 : (124 : UInt8) ∈ t4
              · rw [if_pos c3] at L
                have:=zae c3
                exact Or.inl ⟨11,_,L,by decide,by omega,by omega⟩
              rw [if_neg c3,zaj c3] at L
              rw [zaj c3] at c2
              refine Or.inr ⟨name,value,word,124 :: 64 :: t4,_,_,hs,hn,hfree,hp,hk,hg,Or.inr ⟨t4,rfl,?_,rfl,fun h2 => ?_,c3⟩,L⟩
              · exact Classical.byContradiction fun h => c2 (Or.inl h)
              · exact Classical.byContradiction fun h => c2 (Or.inr ⟨h2,h⟩)
            · rw [if_pos c1] at L
              exact Or.inl ⟨11,_,L,by decide,by omega,by omega⟩
          · have hw : seg 124 t2 = t2:=zaj hb2
            rw [hw] at hk hg
            have hs : s = name ++ 58 :: (value ++ 124 :: (t2 ++ [])):=by rw [List.append_nil,← hsp2,← hsp]
            have L:=zr0 hn hfree hp hk hg
            have hs':=hs
            rw [List.append_nil] at hs'
            rw [← hs'] at L
            exact Or.inr ⟨name,value,t2,[],_,_,hs,hn,hfree,hp,hk,hg,Or.inl ⟨rfl,rfl⟩,L⟩
        · left
          refine ⟨11,(s.length : Int),?_,by decide,by omega,by omega⟩
          rw [e1]
          unfold valueS
          rw [if_neg (fun h => h hv),decide_eq_false hb,if_pos rfl]; rfl
      · left
        refine ⟨17,((name.length + 1 : Nat) : Int),?_,by decide,by omega,by omega⟩
        rw [e1]
        unfold valueS
        rw [if_pos hv]; rfl
    · left
      refine ⟨11,(s.length : Int),?_,by decide,by omega,by omega⟩
      unfold sdParse nameS
      have hn0 : ¬ ¬ (textF 1 (seg 58 s) 1 200).1 = 0:=by unfold nameOK at hn; simpa using hn
      rw [if_neg hn0,decide_eq_false h58,if_pos rfl]; rfl
  · left
    refine ⟨15,0,?_,by decide,by omega,by omega⟩
    unfold sdParse nameS
    rw [if_pos (fun h => hn (by unfold nameOK; simp [h]))]; rfl
end Go.AM
set_option linter.unusedVariables false
set_option linter.unusedSimpArgs false
namespace Go.AM
def parseNum (s : List UInt8) (lo hi : Int) : NumR:=
  if s = [] then numR 0 13 0 else if 0 ≤ badK isDig 0 s then numR 0 14 (badK isDig 0 s) else if s.head? = some 48 ∧ 1 < s.length then numR 0 11 0
  else if 9223372036854775808 ≤ val s ∨ (val s : Int) < lo ∨ (val s : Int) > hi then numR 0 10 0 else numR (val s) 0 0
theorem zuu (n : Nat) {s : List UInt8} (hd : Digs s) (hn : s ≠ []) (hs : s.length ≤ 1000000) : O.atoi n s = some (if val s < 9223372036854775808 then ((val s : Int),false,()) else (Lib.atoiSat s,true,())):=by
  unfold O.atoi
  have : Nat.ble s.length big47 = true:=by rw [Nat.ble_eq]; unfold big47; omega
  rw [this,cond_true,zo5 hd hn]
  by_cases h : val s < 9223372036854775808
  · rw [if_pos h,if_pos h]
  · rw [if_neg h,if_neg h]
theorem zpr (n : Nat) (s : List UInt8) (lo hi : Int) (hs : s.length ≤ 1000000) (hn : s.length < n) : F.zbi n s lo hi = some (parseNum s lo hi):=by
  unfold F.zbi parseNum
  rw [zbk n 4 s _ _ (by omega) hn,za,textF4 s (by omega)]
  by_cases h0 : s = []
  · rw [if_pos h0,if_pos h0]; rfl
  rw [if_neg h0,if_neg h0]
  by_cases h1 : 0 ≤ badK isDig 0 s
  · rw [if_pos h1,if_pos h1]; rfl
  rw [if_neg h1,if_neg h1]
  have e : (!((0 : Int) == 0 && (0 : Int) == 0)) = false:=rfl
  simp only [e,cond_false]
  have hd:=za6 h1
  cases s with
  | nil => exact absurd rfl h0
  | cons b r =>
    have ei : idx (b :: r) (0 : Int) = some b:=rfl
    rw [ei,za,zuu n hd h0 hs,za]
    have tail : ∀ (p : Bool) (A : Option NumR),(bif p then A else A) = A:=by intro p A; cases p <;> rfl
    have core : (bif (if val (b :: r) < 9223372036854775808 then ((val (b :: r) : Int),false,()) else (Lib.atoiSat (b :: r),true,())).2.1 then (F.zam n 10 0).bind fun y6 => some ((y6.1,(y6.2.1.1,y6.2.1.2.1,()),()))
        else bif decide ((if val (b :: r) < 9223372036854775808 then ((val (b :: r) : Int),false,()) else (Lib.atoiSat (b :: r),true,())).1 < lo) then (F.zam n 10 0).bind fun y6 => some ((y6.1,(y6.2.1.1,y6.2.1.2.1,()),()))
        else bif decide ((if val (b :: r) < 9223372036854775808 then ((val (b :: r) : Int),false,()) else (Lib.atoiSat (b :: r),true,())).1 > hi) then (F.zam n 10 0).bind fun y6 => some ((y6.1,(y6.2.1.1,y6.2.1.2.1,()),()))
        else some (((if val (b :: r) < 9223372036854775808 then ((val (b :: r) : Int),false,()) else (Lib.atoiSat (b :: r),true,())).1,((0 : Int),(0 : Int),()),())))
        = some (if 9223372036854775808 ≤ val (b :: r) ∨ (val (b :: r) : Int) < lo ∨ (val (b :: r) : Int) > hi then numR 0 10 0 else numR (val (b :: r)) 0 0):=by
      by_cases hv : val (b :: r) < 9223372036854775808
      · rw [if_pos hv]
        simp only [cond_false]
        by_cases g1 : (val (b :: r) : Int) < lo
        · rw [zd g1,if_pos (Or.inr (Or.inl g1))]; rfl
        · rw [zf g1]
          by_cases g2 : (val (b :: r) : Int) > hi
          · rw [zd g2,if_pos (Or.inr (Or.inr g2))]; rfl
          · rw [zf g2,if_neg (by omega)]; rfl
      · rw [if_neg hv,if_pos (Or.inl (by omega))]; rfl
    by_cases hb : b = 48
    · subst hb
      have e2 : ((((48 : UInt8).toNat : Nat) : Int) == 48) = true:=rfl
      rw [e2,cond_true]
      by_cases hl : 1 < (48 :: r).length
      · rw [zd (by omega),if_pos (show (48 :: r).head? = some 48 ∧ 1 < (48 :: r).length from ⟨rfl,hl⟩)]; rfl
      · rw [zf (by omega),if_neg (show ¬ ((48 :: r).head? = some 48 ∧ 1 < (48 :: r).length) from fun h => hl h.2)]; exact core
    · have e2 : ((b.toNat : Int) == 48) = false:=by
        have : ¬ (b.toNat : Int) = 48:=fun h => hb (zbc (by simp; omega))
        simpa using this
      rw [e2,cond_false,if_neg (show ¬ ((b :: r).head? = some 48 ∧ 1 < (b :: r).length) from fun h => hb (by simpa using h.1))]; exact core
theorem zih (n : Nat) (h100 : 100 ≤ n) (s : List UInt8) (lo hi : Int) (hs : s.length ≤ 1000000) (hn : s.length < n) : F.za9 n s lo hi = some (parseNum s lo hi):=by
  unfold F.za9 parseNum
  by_cases h0 : s = []
  · subst h0; rfl
  have e0 : (s == []) = false:=by simpa using h0
  rw [e0,cond_false,if_neg h0,zhd n h100 4 s (by omega) hn,za,zf5]
  by_cases h1 : 0 ≤ badK isDig 0 s
  · rw [if_pos h1,zd h1]; rfl
  rw [if_neg h1,zf h1]
  have hd:=za6 h1
  cases s with
  | nil => exact absurd rfl h0
  | cons b r =>
    have ei : idx (b :: r) (0 : Int) = some b:=rfl
    rw [ei,za,zig n _ (by omega) hn hd,za]
    have core : (bif !(if val (b :: r) < 9223372036854775808 then ((val (b :: r) : Int),true,()) else (0,false,())).2.1 then some (((0 : Int),((10 : Int),(0 : Int),()),()))
        else bif decide ((if val (b :: r) < 9223372036854775808 then ((val (b :: r) : Int),true,()) else (0,false,())).1 < lo) then some (((0 : Int),((10 : Int),(0 : Int),()),()))
        else bif decide ((if val (b :: r) < 9223372036854775808 then ((val (b :: r) : Int),true,()) else (0,false,())).1 > hi) then some (((0 : Int),((10 : Int),(0 : Int),()),()))
        else some (((if val (b :: r) < 9223372036854775808 then ((val (b :: r) : Int),true,()) else (0,false,())).1,((0 : Int),(0 : Int),()),())))
        = some (if 9223372036854775808 ≤ val (b :: r) ∨ (val (b :: r) : Int) < lo ∨ (val (b :: r) : Int) > hi then numR 0 10 0 else numR (val (b :: r)) 0 0):=by
      by_cases hv : val (b :: r) < 9223372036854775808
      · rw [if_pos hv]
        simp only [cond_false,Bool.not_true]
        by_cases g1 : (val (b :: r) : Int) < lo
        · rw [zd g1,if_pos (Or.inr (Or.inl g1))]; rfl
        · rw [zf g1]
          by_cases g2 : (val (b :: r) : Int) > hi
          · rw [zd g2,if_pos (Or.inr (Or.inr g2))]; rfl
          · rw [zf g2,if_neg (by omega)]; rfl
      · rw [if_neg hv,if_pos (Or.inl (by omega))]; rfl
    by_cases hb : b = 48
    · subst hb
      have e2 : ((((48 : UInt8).toNat : Nat) : Int) == 48) = true:=rfl
      rw [e2,cond_true]
      by_cases hl : 1 < (48 :: r).length
      · rw [zd (by omega),if_pos (show (48 :: r).head? = some 48 ∧ 1 < (48 :: r).length from ⟨rfl,hl⟩)]; rfl
      · rw [zf (by omega),if_neg (show ¬ ((48 :: r).head? = some 48 ∧ 1 < (48 :: r).length) from fun h => hl h.2)]; exact core
    · have e2 : ((b.toNat : Int) == 48) = false:=by
        have : ¬ (b.toNat : Int) = 48:=fun h => hb (zbc (by simp; omega))
        simpa using this
      rw [e2,cond_false,if_neg (show ¬ ((b :: r).head? = some 48 ∧ 1 < (b :: r).length) from fun h => hb (by simpa using h.1))]; exact core
theorem zmj (n : Nat) (s : List UInt8) (hs : s.length ≤ 1000000) (hn : s.length < n) : F.zbc n s = some (parseNum s 1 1099511627776):=by
  unfold F.zbc
  rw [zpr n s _ _ hs hn,za]
theorem zdv {s : List UInt8} {lo hi : Int} (h : (parseNum s lo hi).2.1.1 = 0) : (parseNum s lo hi).2.1.2.1 = 0 ∧ (parseNum s lo hi).1 = (val s : Int) ∧ val s < 9223372036854775808 ∧ lo ≤ (val s : Int) ∧ (val s : Int) ≤ hi ∧ Digs s ∧ Norm s:=by
  unfold parseNum at h ⊢
  by_cases h0 : s = []
  · rw [if_pos h0] at h; cases h
  rw [if_neg h0] at h ⊢
  by_cases h1 : 0 ≤ badK isDig 0 s
  · rw [if_pos h1] at h; cases h
  rw [if_neg h1] at h ⊢
  by_cases h2 : s.head? = some 48 ∧ 1 < s.length
  · rw [if_pos h2] at h; cases h
  rw [if_neg h2] at h ⊢
  by_cases h3 : 9223372036854775808 ≤ val s ∨ (val s : Int) < lo ∨ (val s : Int) > hi
  · rw [if_pos h3] at h; cases h
  rw [if_neg h3]
  refine ⟨rfl,rfl,by omega,by omega,by omega,za6 h1,h0,fun h => ?_⟩
  have h4 : ¬ 1 < s.length:=fun hl => h2 ⟨h,hl⟩
  have : 0 < s.length:=List.length_pos_iff.2 h0
  omega
end Go.AM
set_option linter.unusedVariables false
set_option linter.unusedSimpArgs false
namespace Go.AM
theorem zr1 (x y : DecL) : ((x.1 == y.1) && ((x.2.1 == y.2.1) && (x.2.2 == y.2.2))) = decide (x = y):=by
  obtain ⟨a,b,c⟩:=x
  obtain ⟨a',b',c'⟩:=y
  by_cases h : ((a,b,c) : DecL) = (a',b',c')
  · rw [decide_eq_true h]
    simp only [Prod.mk.injEq] at h
    simp [h.1,h.2.1,h.2.2]
  · rw [decide_eq_false h]
    cases h1 : (a == a') && ((b == b') && (c == c')) with
    | false => rfl
    | true =>
      simp only [Bool.and_eq_true,beq_iff_eq] at h1
      exact absurd (by rw [h1.1,h1.2.1,h1.2.2]) h
theorem zf7 (x y : TagL) : ((x.1 == y.1) && (x.2 == y.2)) = decide (x = y):=by
  obtain ⟨a,b⟩:=x
  obtain ⟨a',b'⟩:=y
  by_cases h : ((a,b) : TagL) = (a',b')
  · rw [decide_eq_true h]
    simp only [Prod.mk.injEq] at h
    simp [h.1,h.2]
  · rw [decide_eq_false h]
    cases h1 : (a == a') && (b == b') with
    | false => rfl
    | true =>
      simp only [Bool.and_eq_true,beq_iff_eq] at h1
      exact absurd (by rw [h1.1,h1.2]) h
theorem znh (n : Nat) (X : Type) (k0 : List UInt8→Int→List DecL→Int→List TagL→Int→List UInt8→Int→List DecL→Int→List TagL→Int→Option X) (kr : Bool→List UInt8→Int→List DecL→Int→List TagL→Int→List UInt8→Int→List DecL→Int→List TagL→Int→Option X) (nm : List UInt8) (k : Int) (vs : List DecL) (r : Int) (ts : List TagL) (t : Int) (hs : vs.length ≤ 10000) : ∀ (j i m : Nat),i + j = vs.length→j < m →
    F.zi.L4 n k0 kr m (i : Int) nm k vs r ts t nm k vs r ts t = k0 nm k vs r ts t nm k vs r ts t:=by
  intro j
  induction j with
  | zero =>
    intro i m hi hm
    obtain ⟨m,rfl⟩ : ∃ q,m = q + 1:=⟨m - 1,by omega⟩
    show F.zi.L4.step n (F.zi.L4 n k0 kr m) k0 kr _ _ _ _ _ _ _ _ _ _ _ _ _ = _
    unfold F.zi.L4.step
    rw [zf (by omega)]
  | succ j ih =>
    intro i m hi hm
    obtain ⟨m,rfl⟩ : ∃ q,m = q + 1:=⟨m - 1,by omega⟩
    show F.zi.L4.step n (F.zi.L4 n k0 kr m) k0 kr _ _ _ _ _ _ _ _ _ _ _ _ _ = _
    unfold F.zi.L4.step
    rw [zd (by omega),zb6 (by omega : i < vs.length),za,za,zr1,decide_eq_true rfl,Bool.not_true,cond_false,zj (by omega),ih (i + 1) m (by omega) (by omega)]
theorem zni (n : Nat) (X : Type) (k0 : List UInt8→Int→List DecL→Int→List TagL→Int→List UInt8→Int→List DecL→Int→List TagL→Int→Option X) (kr : Bool→List UInt8→Int→List DecL→Int→List TagL→Int→List UInt8→Int→List DecL→Int→List TagL→Int→Option X) (nm : List UInt8) (k : Int) (vs : List DecL) (r : Int) (ts : List TagL) (t : Int) (hs : ts.length ≤ 10000) : ∀ (j i m : Nat),i + j = ts.length→j < m →
    F.zi.L9 n k0 kr m (i : Int) nm k vs r ts t nm k vs r ts t = k0 nm k vs r ts t nm k vs r ts t:=by
  intro j
  induction j with
  | zero =>
    intro i m hi hm
    obtain ⟨m,rfl⟩ : ∃ q,m = q + 1:=⟨m - 1,by omega⟩
    show F.zi.L9.step n (F.zi.L9 n k0 kr m) k0 kr _ _ _ _ _ _ _ _ _ _ _ _ _ = _
    unfold F.zi.L9.step
    rw [zf (by omega)]
  | succ j ih =>
    intro i m hi hm
    obtain ⟨m,rfl⟩ : ∃ q,m = q + 1:=⟨m - 1,by omega⟩
    show F.zi.L9.step n (F.zi.L9 n k0 kr m) k0 kr _ _ _ _ _ _ _ _ _ _ _ _ _ = _
    unfold F.zi.L9.step
    rw [zd (by omega),zb6 (by omega : i < ts.length),za,za,zf7,decide_eq_true rfl,Bool.not_true,cond_false,zj (by omega),ih (i + 1) m (by omega) (by omega)]
theorem zix (n : Nat) (hn : 200000 ≤ n) (a : MetD) (h1 : a.2.2.1.length ≤ 10000) (h2 : a.2.2.2.2.1.length ≤ 10000) : F.zi n a a = some true:=by
  obtain ⟨nm,k,vs,r,ts,t,_⟩:=a
  simp only at h1 h2
  unfold F.zi
  simp only [beq_self_eq_true,Bool.not_true,cond_false]
  refine (znh n Bool _ _ nm k vs r ts t h1 vs.length 0 n (by omega) (by omega)).trans ?_
  exact zni n Bool _ _ nm k vs r ts t h2 ts.length 0 n (by omega) (by omega)
end Go.AM
set_option linter.unusedVariables false
set_option linter.unusedSimpArgs false
namespace Go.AM
theorem zr2 {s : List UInt8} (h : (parseR s).2.1.1 = 0) : ∃ (neg : Bool) (c : Nat) (e : Int),parseR s = ((neg,(c : Int),e,()),(0,0,()),()) ∧ c < two64 ∧ (-9223372036854775808 ≤ e ∧ e ≤ 9223372036854775807) ∧ checkR neg c e = 0:=by
  rcases zln s with ⟨h1,_⟩ | h1
  · exact absurd h h1
  · exact h1
end Go.AM
set_option linter.unusedVariables false
set_option linter.unusedSimpArgs false
namespace Go.AM
abbrev timeR (s : List UInt8) : NumR:=parseNum s 1 1099511627776
abbrev OkG (name : List UInt8) (d : DecL) (t : Int) : MetR:=((name,2,[d],1000000,[],t,()),(0,0,()),())
def timeS (name : List UInt8) (d : DecL) (u : List UInt8) (p : Nat) : MetR:=
  if ¬ (timeR (seg 32 u)).2.1.1 = 0 then badM 20 (p : Int) else if 32 ∈ u then badM 11 ((p + (seg 32 u).length : Nat) : Int) else OkG name d (timeR (seg 32 u)).1
def valueG (name : List UInt8) (u : List UInt8) (p : Nat) : MetR:=
  if ¬ (parseR (seg 32 u)).2.1.1 = 0 then badM 17 (p : Int) else if ¬ 32 ∈ u then badM 11 ((p + (seg 32 u).length : Nat) : Int)
  else timeS name ((parseR (seg 32 u)).1.1,(parseR (seg 32 u)).1.2.1,(parseR (seg 32 u)).1.2.2.1) (u.drop ((seg 32 u).length + 1)) (p + (seg 32 u).length + 1)
def grParse (s : List UInt8) : MetR:=
  if nameOK (seg 32 s) = false then badM 15 0 else if ¬ 32 ∈ s then badM 11 ((seg 32 s).length : Int) else valueG (seg 32 s) (s.drop ((seg 32 s).length + 1)) ((seg 32 s).length + 1)
theorem zlo {s : List UInt8} {lo hi : Int} (h : (parseNum s lo hi).2.1.1 = 0) : (parseNum s lo hi).2.1.2.1 = 0:=(zdv h).1
theorem zfo {c a : Int} (h : c = 0→a = 0) : (!((c == 0) && (a == 0))) = !(c == 0):=by
  by_cases hc : c = 0
  · rw [hc,h hc]; rfl
  · rw [beq_eq_false_iff_ne.2 hc]; rfl
section
variable {X : Type} (n : Nat) (rec : Int→Int→Bool→List UInt8→Int→List DecL→Int→List TagL→Int→Int→Int→List UInt8→Int→List DecL→Int→List TagL→Int→Int→Int→List UInt8→Nat→Nat→Nat→Nat→Option X)
  (k0 kr : List UInt8→Int→List DecL→Int→List TagL→Int→Int→Int→List UInt8→Int→List DecL→Int→List TagL→Int→Int→Int→List UInt8→Nat→Nat→Nat→Nat→Option X)
  (b0 : List UInt8) (b1 : Int) (b2 : List DecL) (b3 : Int) (b4 : List TagL) (b5 b6 b7 : Int) (nm : List UInt8) (kd : Int) (vs : List DecL) (rt : Int) (ts : List TagL) (tm c a : Int) (s : List UInt8) (i0 i1 i2 i3 : Nat)
theorem zuy (p i : Int) : F.zm.L2_graphite_cut_1.step n rec k0 kr p i false b0 b1 b2 b3 b4 b5 b6 b7 nm kd vs rt ts tm c a s i0 i1 i2 i3 = k0 b0 b1 b2 b3 b4 b5 b6 b7 nm kd vs rt ts tm c a s i0 i1 i2 i3:=rfl
theorem zr3 (hn : 200000 ≤ n) (p : Nat) (hp : p ≤ s.length) (hs : s.length ≤ 10000) :
    F.zm.L2_graphite_cut_1.step n rec k0 kr (p : Int) 0 true b0 b1 b2 b3 b4 b5 b6 b7 nm kd vs rt ts tm c a s i0 i1 i2 i3 =
      (if nameOK (seg 32 (s.drop p)) = false then kr b0 b1 b2 b3 b4 b5 b6 b7 (seg 32 (s.drop p)) kd vs rt ts tm 15 (p : Int) s i0 i1 i2 i3
      else if ¬ 32 ∈ s.drop p then kr b0 b1 b2 b3 b4 b5 b6 b7 (seg 32 (s.drop p)) kd vs rt ts tm 11 ((p + (seg 32 (s.drop p)).length : Nat) : Int) s i0 i1 i2 i3
      else rec ((p + (seg 32 (s.drop p)).length + 1 : Nat) : Int) 1 true b0 b1 b2 b3 b4 b5 b6 b7 (seg 32 (s.drop p)) kd vs rt ts tm c a s i0 i1 i2 i3):=by
  unfold F.zm.L2_graphite_cut_1.step
  have hl:=z6 32 (s.drop p)
  simp only [List.length_drop] at hl
  rw [cond_true,za3 hp,za,zbr n 32 (by simp; omega),za]
  simp only [beq_self_eq_true,cond_true]
  rw [zbk n 1 _ 1 200 (by omega) (by omega),za,zbs]
  have e1 : ((textF 1 (seg 32 (s.drop p)) 1 200).1 == 0) = nameOK (seg 32 (s.drop p)):=rfl
  have w1 : IntKind.wrap .i64 ((p : Int) + ((seg 32 (s.drop p)).length : Int)) = ((p + (seg 32 (s.drop p)).length : Nat) : Int):=by rw [zl (by omega)]; omega
  have w2 : IntKind.wrap .i64 ((p : Int) + (IntKind.wrap .i64 (((seg 32 (s.drop p)).length : Int) + (1 : Int)))) = ((p + (seg 32 (s.drop p)).length + 1 : Nat) : Int):=by rw [zl (x:=((seg 32 (s.drop p)).length : Int) + 1) (by omega),zl (by omega)]; omega
  have w3 : IntKind.wrap .i64 ((0 : Int) + 1) = 1:=rfl
  rw [e1,w1,w2,w3]
  cases nameOK (seg 32 (s.drop p))
  · rfl
  · have d2 : decide ((0 : Int) < 2) = true:=rfl
    rw [Bool.not_true,cond_false,if_neg (by simp),d2]
    by_cases hm : 32 ∈ s.drop p
    · rw [decide_eq_true hm,if_neg (fun h => h hm)]; rfl
    · rw [decide_eq_false hm,if_pos hm]; rfl
theorem zr4 (hn : 200000 ≤ n) (p : Nat) (hp : p ≤ s.length) (hs : s.length ≤ 10000) :
    F.zm.L2_graphite_cut_1.step n rec k0 kr (p : Int) 1 true b0 b1 b2 b3 b4 b5 b6 b7 nm kd vs rt ts tm c a s i0 i1 i2 i3 =
      (if ¬ (parseR (seg 32 (s.drop p))).2.1.1 = 0 then kr b0 b1 b2 b3 b4 b5 b6 b7 nm kd vs rt ts tm 17 (p : Int) s i0 i1 i2 i3
      else if ¬ 32 ∈ s.drop p then kr b0 b1 b2 b3 b4 b5 b6 b7 nm kd [((parseR (seg 32 (s.drop p))).1.1,(parseR (seg 32 (s.drop p))).1.2.1,(parseR (seg 32 (s.drop p))).1.2.2.1)] rt ts tm 11 ((p + (seg 32 (s.drop p)).length : Nat) : Int) s i0 i1 1 i3
      else rec ((p + (seg 32 (s.drop p)).length + 1 : Nat) : Int) 2 true b0 b1 b2 b3 b4 b5 b6 b7 nm kd [((parseR (seg 32 (s.drop p))).1.1,(parseR (seg 32 (s.drop p))).1.2.1,(parseR (seg 32 (s.drop p))).1.2.2.1)] rt ts tm c a s i0 i1 1 i3):=by
  unfold F.zm.L2_graphite_cut_1.step
  have hl:=z6 32 (s.drop p)
  simp only [List.length_drop] at hl
  rw [cond_true,za3 hp,za,zbr n 32 (by simp; omega),za]
  have g1 : ((1 : Int) == 0) = false:=rfl
  simp only [beq_self_eq_true,cond_true,g1,cond_false]
  have w1 : IntKind.wrap .i64 ((p : Int) + ((seg 32 (s.drop p)).length : Int)) = ((p + (seg 32 (s.drop p)).length : Nat) : Int):=by rw [zl (by omega)]; omega
  have w2 : IntKind.wrap .i64 ((p : Int) + (IntKind.wrap .i64 (((seg 32 (s.drop p)).length : Int) + (1 : Int)))) = ((p + (seg 32 (s.drop p)).length + 1 : Nat) : Int):=by rw [zl (x:=((seg 32 (s.drop p)).length : Int) + 1) (by omega),zl (by omega)]; omega
  have w3 : IntKind.wrap .i64 ((1 : Int) + 1) = 2:=rfl
  rw [zc7 n hn _ (by omega),za,zfo (fun h => zb7 h),w1,w2,w3]
  by_cases h0 : (parseR (seg 32 (s.drop p))).2.1.1 = 0
  · have e0 : ((parseR (seg 32 (s.drop p))).2.1.1 == 0) = true:=by simp [h0]
    have d2 : decide ((1 : Int) < 2) = true:=rfl
    rw [e0,Bool.not_true,cond_false,if_neg (fun h => h h0),d2]
    by_cases hm : 32 ∈ s.drop p
    · rw [decide_eq_true hm,if_neg (fun h => h hm)]; rfl
    · rw [decide_eq_false hm,if_pos hm]; rfl
  · have e0 : ((parseR (seg 32 (s.drop p))).2.1.1 == 0) = false:=by simpa using h0
    rw [e0,if_pos h0]; rfl
theorem zr5 (hn : 200000 ≤ n) (p : Nat) (hp : p ≤ s.length) (hs : s.length ≤ 10000) :
    F.zm.L2_graphite_cut_1.step n rec k0 kr (p : Int) 2 true b0 b1 b2 b3 b4 b5 b6 b7 nm kd vs rt ts tm c a s i0 i1 i2 i3 =
      (if ¬ (timeR (seg 32 (s.drop p))).2.1.1 = 0 then kr b0 b1 b2 b3 b4 b5 b6 b7 nm kd vs rt ts tm 20 (p : Int) s i0 i1 i2 i3
      else if 32 ∈ s.drop p then kr b0 b1 b2 b3 b4 b5 b6 b7 nm kd vs rt ts (timeR (seg 32 (s.drop p))).1 11 ((p + (seg 32 (s.drop p)).length : Nat) : Int) s i0 i1 i2 i3
      else rec ((p + (seg 32 (s.drop p)).length + 1 : Nat) : Int) 3 false b0 b1 b2 b3 b4 b5 b6 b7 nm kd vs rt ts (timeR (seg 32 (s.drop p))).1 c a s i0 i1 i2 i3):=by
  unfold F.zm.L2_graphite_cut_1.step
  have hl:=z6 32 (s.drop p)
  simp only [List.length_drop] at hl
  rw [cond_true,za3 hp,za,zbr n 32 (by simp; omega),za]
  have g1 : ((2 : Int) == 0) = false:=rfl
  have g2 : ((2 : Int) == 1) = false:=rfl
  simp only [g1,g2,cond_false]
  have w1 : IntKind.wrap .i64 ((p : Int) + ((seg 32 (s.drop p)).length : Int)) = ((p + (seg 32 (s.drop p)).length : Nat) : Int):=by rw [zl (by omega)]; omega
  have w2 : IntKind.wrap .i64 ((p : Int) + (IntKind.wrap .i64 (((seg 32 (s.drop p)).length : Int) + (1 : Int)))) = ((p + (seg 32 (s.drop p)).length + 1 : Nat) : Int):=by rw [zl (x:=((seg 32 (s.drop p)).length : Int) + 1) (by omega),zl (by omega)]; omega
  have w3 : IntKind.wrap .i64 ((2 : Int) + 1) = 3:=rfl
  rw [zmj n _ (by omega) (by omega),za,zfo (fun h => zlo h),w1,w2,w3]
  by_cases h0 : (timeR (seg 32 (s.drop p))).2.1.1 = 0
  · have e0 : ((timeR (seg 32 (s.drop p))).2.1.1 == 0) = true:=by simp [h0]
    have d2 : decide ((2 : Int) < 2) = false:=rfl
    rw [e0,Bool.not_true,cond_false,if_neg (fun h => h h0),d2]
    by_cases hm : 32 ∈ s.drop p
    · rw [decide_eq_true hm,if_pos hm]; rfl
    · rw [decide_eq_false hm,if_neg hm]; rfl
  · have e0 : ((timeR (seg 32 (s.drop p))).2.1.1 == 0) = false:=by simpa using h0
    rw [e0,if_pos h0]; rfl
end
theorem znj (n : Nat) (hn : 200000 ≤ n) (s : List UInt8) (hs : s.length ≤ 10000) : F.zm n s = some (grParse s):=by
  unfold F.zm
  generalize hk0 : (fun (e6_b0_0 : List UInt8) (e6_b0_1 : Int) (e6_b0_2 : List DecL) (e6_b0_3 : Int) (e6_b0_4 : List TagL) (e6_b0_5 e6_b1_0 e6_b1_1 : Int) (e6_b2_0 : List UInt8) (e6_b2_1 : Int) (e6_b2_2 : List DecL) (e6_b2_3 : Int) (e6_b2_4 : List TagL) (e6_b2_5 e6_b3_0 e6_b3_1 : Int) (e6_b4_0 : List UInt8) (e6_k0 e6_k1 e6_k2 e6_k3 : Nat) =>
      bif !((e6_b3_0 == (0 : Int)) && (e6_b3_1 == (0 : Int))) then
        some (((([],(0 : Int),[],(0 : Int),[],(0 : Int),()),(e6_b3_0,e6_b3_1,()),()) : MetR))
      else
        some (((e6_b2_0,e6_b2_1,e6_b2_2,e6_b2_3,e6_b2_4,e6_b2_5,()),(e6_b3_0,e6_b3_1,()),()))) = k0
  have hbad : ∀ (b0 : List UInt8) (b1 : Int) (b2 : List DecL) (b3 : Int) (b4 : List TagL) (b5 b6 b7 : Int) (nm : List UInt8) (kd : Int) (vs : List DecL) (rt : Int) (ts : List TagL) (tm c a : Int) (s : List UInt8) (i0 i1 i2 i3 : Nat),¬ c = 0→k0 b0 b1 b2 b3 b4 b5 b6 b7 nm kd vs rt ts tm c a s i0 i1 i2 i3 = some (badM c a):=by
    intro b0 b1 b2 b3 b4 b5 b6 b7 nm kd vs rt ts tm c a s i0 i1 i2 i3 hc
    rw [← hk0]
    simp only
    rw [beq_eq_false_iff_ne.2 hc]; rfl
  have hok : ∀ (b0 : List UInt8) (b1 : Int) (b2 : List DecL) (b3 : Int) (b4 : List TagL) (b5 b6 b7 : Int) (nm : List UInt8) (kd : Int) (vs : List DecL) (rt : Int) (ts : List TagL) (tm : Int) (s : List UInt8) (i0 i1 i2 i3 : Nat),k0 b0 b1 b2 b3 b4 b5 b6 b7 nm kd vs rt ts tm 0 0 s i0 i1 i2 i3 = some ((nm,kd,vs,rt,ts,tm,()),(0,0,()),()):=by
    intro b0 b1 b2 b3 b4 b5 b6 b7 nm kd vs rt ts tm s i0 i1 i2 i3
    rw [← hk0]; rfl
  obtain ⟨q,hq⟩ : ∃ q,n = q + 1 + 1 + 1 + 1:=⟨n - 4,by omega⟩
  have st : ∀ m p i b b0 b1 b2 b3 b4 b5 b6 b7 nm kd vs rt ts tm c a s i0 i1 i2 i3,F.zm.L2_graphite_cut_1 n k0 k0 (m + 1) p i b b0 b1 b2 b3 b4 b5 b6 b7 nm kd vs rt ts tm c a s i0 i1 i2 i3 = F.zm.L2_graphite_cut_1.step n (F.zm.L2_graphite_cut_1 n k0 k0 m) k0 k0 p i b b0 b1 b2 b3 b4 b5 b6 b7 nm kd vs rt ts tm c a s i0 i1 i2 i3:=fun _ _ _ _ _ _ _ _ _ _ _ _ _ _ _ _ _ _ _ _ _ _ _ _ _ => rfl
  have key : F.zm.L2_graphite_cut_1 n k0 k0 (q + 1 + 1 + 1 + 1) 0 0 true [] 0 [] 0 [] 0 0 0 [] 2 [] 1000000 [] 0 0 0 s 0 0 0 0 = some (grParse s):=by
    have hl:=z6 32 s
    have r0:=zr3 n (F.zm.L2_graphite_cut_1 n k0 k0 (q + 1 + 1 + 1)) k0 k0 [] 0 [] 0 [] 0 0 0 [] 2 [] 1000000 [] 0 0 0 s 0 0 0 0 hn 0 (by omega) hs
    rw [st]
    refine r0.trans ?_
    rw [List.drop_zero,Nat.zero_add]
    unfold grParse
    by_cases h1 : nameOK (seg 32 s) = false
    · rw [if_pos h1,if_pos h1]; exact hbad _ _ _ _ _ _ _ _ _ _ _ _ _ _ _ _ _ _ _ _ _ (by decide)
    rw [if_neg h1,if_neg h1]
    by_cases h2 : ¬ 32 ∈ s
    · rw [if_pos h2,if_pos h2]; exact hbad _ _ _ _ _ _ _ _ _ _ _ _ _ _ _ _ _ _ _ _ _ (by decide)
    rw [if_neg h2,if_neg h2]
    have hlt:=zae (Classical.not_not.1 h2)
    generalize hA : (seg 32 s).length = A at *
    have hl2:=z6 32 (s.drop (A + 1))
    simp only [List.length_drop] at hl2
    rw [st,zr4 n _ k0 k0 _ _ _ _ _ _ _ _ _ _ _ _ _ _ _ _ s _ _ _ _ hn (A + 1) (by omega) hs]
    unfold valueG
    by_cases h3 : ¬ (parseR (seg 32 (s.drop (A + 1)))).2.1.1 = 0
    · rw [if_pos h3,if_pos h3]; exact hbad _ _ _ _ _ _ _ _ _ _ _ _ _ _ _ _ _ _ _ _ _ (by decide)
    rw [if_neg h3,if_neg h3]
    by_cases h4 : ¬ 32 ∈ s.drop (A + 1)
    · rw [if_pos h4,if_pos h4]; exact hbad _ _ _ _ _ _ _ _ _ _ _ _ _ _ _ _ _ _ _ _ _ (by decide)
    rw [if_neg h4,if_neg h4]
    have hlt2:=zae (Classical.not_not.1 h4)
    simp only [List.length_drop] at hlt2
    have hd2 : (s.drop (A + 1)).drop ((seg 32 (s.drop (A + 1))).length + 1) = s.drop (A + 1 + (seg 32 (s.drop (A + 1))).length + 1):=by rw [List.drop_drop]; rfl
    rw [hd2]
    generalize hB : A + 1 + (seg 32 (s.drop (A + 1))).length = B at *
    rw [st,zr5 n _ k0 k0 _ _ _ _ _ _ _ _ _ _ _ _ _ _ _ _ s _ _ _ _ hn (B + 1) (by omega) hs]
    unfold timeS
    by_cases h5 : ¬ (timeR (seg 32 (s.drop (B + 1)))).2.1.1 = 0
    · rw [if_pos h5,if_pos h5]; exact hbad _ _ _ _ _ _ _ _ _ _ _ _ _ _ _ _ _ _ _ _ _ (by decide)
    rw [if_neg h5,if_neg h5]
    by_cases h6 : 32 ∈ s.drop (B + 1)
    · rw [if_pos h6,if_pos h6]; exact hbad _ _ _ _ _ _ _ _ _ _ _ _ _ _ _ _ _ _ _ _ _ (by decide)
    rw [if_neg h6,if_neg h6,st,zuy]
    exact hok _ _ _ _ _ _ _ _ _ _ _ _ _ _ _ _ _ _ _
  rw [← hq] at key
  exact key
theorem zr6 (n : Nat) (hn : 100 ≤ n) (s : List UInt8) (hs : s.length ≤ 1000000) (hl : s.length < n) : F.zax n s = some (timeR s):=by
  unfold F.zax
  rw [zih n hn s _ _ hs hl,za]
theorem wrong12 (n : Nat) (c a : Int) : F.zaw n c a = some (badM c a):=rfl
theorem zr7 (n : Nat) (hn : 200000 ≤ n) (s : List UInt8) (hs : s.length ≤ 10000) : F.zba n s = some (grParse s):=by
  unfold F.zba grParse
  have f0 : F.zp n s (0 : Int) (32 : Int) = some (((seg 32 s).length : Nat) : Int):=by
    have:=zb0 n 32 s (by omega) (by omega) 0 (by omega)
    rw [List.drop_zero,Nat.zero_add] at this
    exact this
  have hl:=z6 32 s
  have s0 : sub s (0 : Int) (((seg 32 s).length : Nat) : Int) = some (seg 32 s):=by
    have:=zb1 (s:=s) (c:=32) (p:=0) (by omega)
    rw [List.drop_zero,Nat.zero_add] at this
    exact this
  have e0 : ((((seg 32 s).length : Nat) : Int) == (s.length : Int)) = !decide (32 ∈ s):=by
    have:=zdf (s:=s) (c:=32) (p:=0) (by omega)
    rw [List.drop_zero,Nat.zero_add] at this
    exact this
  simp only [f0,za,s0,zgu n hn _ (by omega : (seg 32 s).length ≤ 10000),e0,wrong12]
  by_cases h1 : nameOK (seg 32 s) = false
  · rw [if_pos h1,h1]; rfl
  rw [if_neg h1]
  have h1' : nameOK (seg 32 s) = true:=by simpa using h1
  rw [h1',Bool.not_true,cond_false]
  by_cases h2 : 32 ∈ s
  · have hlt:=zae h2
    rw [if_neg (fun h => h h2),decide_eq_true h2,Bool.not_true,cond_false,zj (by omega)]
    generalize hA : (seg 32 s).length = A at *
    have hl2:=z6 32 (s.drop (A + 1))
    simp only [List.length_drop] at hl2
    unfold valueG
    rw [show (32 : Int) = ((32 : UInt8).toNat : Int) from rfl,zb0 n 32 s (by omega) (by omega) (A + 1) (by omega),za,zb1 (by omega),za,zc8 n hn _ (by omega),za,zdf (by omega)]
    by_cases h3 : (parseR (seg 32 (s.drop (A + 1)))).2.1.1 = 0
    · have e3 : ((parseR (seg 32 (s.drop (A + 1)))).2.1.1 == 0) = true:=by simp [h3]
      rw [if_neg (fun h => h h3),e3,Bool.not_true,cond_false]
      by_cases h4 : 32 ∈ s.drop (A + 1)
      · have hlt2:=zae h4
        simp only [List.length_drop] at hlt2
        have hd2 : (s.drop (A + 1)).drop ((seg 32 (s.drop (A + 1))).length + 1) = s.drop (A + 1 + (seg 32 (s.drop (A + 1))).length + 1):=by rw [List.drop_drop]; rfl
        rw [if_neg (fun h => h h4),decide_eq_true h4,Bool.not_true,cond_false,zj (by omega),hd2]
        generalize hB : A + 1 + (seg 32 (s.drop (A + 1))).length = B at *
        have hl3:=z6 32 (s.drop (B + 1))
        simp only [List.length_drop] at hl3
        unfold timeS
        rw [zb0 n 32 s (by omega) (by omega) (B + 1) (by omega),za,zb1 (by omega),za,zr6 n (by omega) _ (by omega) (by omega),za]
        by_cases h5 : (timeR (seg 32 (s.drop (B + 1)))).2.1.1 = 0
        · have e5 : ((timeR (seg 32 (s.drop (B + 1)))).2.1.1 == 0) = true:=by simp [h5]
          rw [if_neg (fun h => h h5),e5,Bool.not_true,cond_false]
          by_cases h6 : 32 ∈ s.drop (B + 1)
          · have:=zae h6
            simp only [List.length_drop] at this
            rw [if_pos h6,zd (by omega)]
          · rw [if_neg h6,zf (by rw [zaj h6]; simp; omega)]
        · have e5 : ((timeR (seg 32 (s.drop (B + 1)))).2.1.1 == 0) = false:=by simpa using h5
          rw [if_pos h5,e5]; rfl
      · rw [if_pos h4,decide_eq_false h4]; rfl
    · have e3 : ((parseR (seg 32 (s.drop (A + 1)))).2.1.1 == 0) = false:=by simpa using h3
      rw [if_pos h3,e3]; rfl
  · rw [if_pos h2,decide_eq_false h2]; rfl
end Go.AM
set_option linter.unusedVariables false
set_option linter.unusedSimpArgs false
namespace Go.AM
theorem zr8 (s : List UInt8) : (∃ c a : Int,grParse s = badM c a ∧ c ≠ 0 ∧ 0 ≤ a ∧ a ≤ s.length) ∨
    (∃ name value time d,s = name ++ 32 :: (value ++ 32 :: time) ∧ nameOK name = true ∧ (32 : UInt8) ∉ name ∧ (32 : UInt8) ∉ value ∧ (32 : UInt8) ∉ time ∧ parseR value = ((d.1,d.2.1,d.2.2,()),(0,0,()),()) ∧ (timeR time).2.1.1 = 0 ∧ grParse s = OkG name d (timeR time).1):=by
  unfold grParse
  have hl:=z6 32 s
  by_cases h1 : nameOK (seg 32 s) = false
  · rw [if_pos h1]
    exact Or.inl ⟨15,0,rfl,by decide,by omega,by omega⟩
  rw [if_neg h1]
  by_cases h2 : ¬ 32 ∈ s
  · rw [if_pos h2]
    exact Or.inl ⟨11,_,rfl,by decide,by omega,by omega⟩
  rw [if_neg h2]
  have h2':=Classical.not_not.1 h2
  have hsp:=zbd h2'
  have hfr:=zf6 32 s
  have hlen:=congrArg List.length hsp
  simp only [List.length_append,List.length_cons] at hlen
  generalize seg 32 s = name at *
  generalize s.drop (name.length + 1) = t at *
  unfold valueG
  have hl2:=z6 32 t
  by_cases h3 : ¬ (parseR (seg 32 t)).2.1.1 = 0
  · rw [if_pos h3]
    exact Or.inl ⟨17,_,rfl,by decide,by omega,by omega⟩
  rw [if_neg h3]
  by_cases h4 : ¬ 32 ∈ t
  · rw [if_pos h4]
    exact Or.inl ⟨11,_,rfl,by decide,by omega,by omega⟩
  rw [if_neg h4]
  have h4':=Classical.not_not.1 h4
  have hsp2:=zbd h4'
  have hfr2:=zf6 32 t
  have hlen2:=congrArg List.length hsp2
  simp only [List.length_append,List.length_cons] at hlen2
  generalize seg 32 t = value at *
  generalize t.drop (value.length + 1) = u at *
  unfold timeS
  have hl3:=z6 32 u
  by_cases h5 : ¬ (timeR (seg 32 u)).2.1.1 = 0
  · rw [if_pos h5]
    exact Or.inl ⟨20,_,rfl,by decide,by omega,by omega⟩
  rw [if_neg h5]
  by_cases h6 : 32 ∈ u
  · rw [if_pos h6]
    exact Or.inl ⟨11,_,rfl,by decide,by omega,by omega⟩
  rw [if_neg h6]
  rw [zaj h6] at h5 ⊢
  have h3':=Classical.not_not.1 h3
  have hat:=zb7 h3'
  refine Or.inr ⟨name,value,u,((parseR value).1.1,(parseR value).1.2.1,(parseR value).1.2.2.1),by rw [← hsp2,← hsp],by simpa using h1,hfr,hfr2,h6,?_,Classical.not_not.1 h5,rfl⟩
  generalize parseR value = z at h3' hat
  obtain ⟨⟨a,b,c,_⟩,⟨x,y,_⟩,_⟩:=z
  simp only at h3' hat
  subst h3' hat
  rfl
end Go.AM
set_option linter.unusedVariables false
set_option linter.unusedSimpArgs false
namespace Go.AM
theorem zii (n : Nat) (X : Type) (k0 : List UInt8→List UInt8→Option X) (kr : Bool→Option X) (a b : List UInt8) (k m : Nat) (h : a.length ≤ k ∨ b.length ≤ k) (hm : 0 < m) : F.zr.L2 n k0 kr m a b (k : Int) = k0 a b:=by
  obtain ⟨m,rfl⟩ : ∃ p,m = p + 1:=⟨m - 1,by omega⟩
  show F.zr.L2.step n (F.zr.L2 n k0 kr m) k0 kr _ _ _ = _
  unfold F.zr.L2.step
  by_cases hk : (k : Int) < (a.length : Int)
  · rw [zd hk,zf (by omega)]
  · rw [zf hk]
theorem zkn (n : Nat) (a b : List UInt8) (ha : a.length ≤ 1000000) (hb : b.length ≤ 1000000) (hn : a.length < n) : F.zr n a b = some (Op.bytesLess a b):=by
  have L : ∀ (r q : List UInt8) (k m : Nat),a.drop k = r→b.drop k = q→k ≤ a.length→k ≤ b.length→r.length < m →
      F.zr.L2 n (fun e5_0 e5_1 => some (decide ((e5_0.length : Int) < (e5_1.length : Int)))) (fun e6_4 => some (e6_4)) m a b (k : Int) = some (Op.bytesLess r q):=by
    intro r
    induction r with
    | nil =>
      intro q k m h1 h2 ka kb hm
      have l1:=zo h1
      rw [zii n Bool _ _ a b k m (Or.inl l1) (by omega)]
      cases q with
      | nil =>
        have l2:=zo h2
        show some (decide _) = some false
        by_cases hk : a.length < b.length
        · omega
        · rw [decide_eq_false (by omega)]
      | cons y q =>
        obtain ⟨l2,_,_⟩:=zn h2
        show some (decide _) = some true
        rw [decide_eq_true (by omega)]
    | cons x r ih =>
      intro q k m h1 h2 ka kb hm
      obtain ⟨l1,g1,t1⟩:=zn h1
      cases q with
      | nil =>
        have l2:=zo h2
        rw [zii n Bool _ _ a b k m (Or.inr l2) (by omega)]
        show some (decide _) = some false
        rw [decide_eq_false (by omega)]
      | cons y q =>
        obtain ⟨l2,g2,t2⟩:=zn h2
        obtain ⟨m,rfl⟩ : ∃ p,m = p + 1:=⟨m - 1,by simp at hm; omega⟩
        rw [F.zr.L2]
        unfold F.zr.L2.step
        dsimp only
        rw [zd (by omega),zd (by omega),zp,zp,g1,g2]
        simp only [za,blc]
        by_cases e : x = y
        · subst e
          rw [beq_self_eq_true,Bool.not_true,cond_false,zj (by omega),ih q (k + 1) m t1 t2 (by omega) (by omega) (by simp at hm; omega)]
          have hx : ¬ x < x:=by rw [zi1]; omega
          rw [decide_eq_false hx]; simp
        · have e' : ¬ ((x.toNat : Int)) = (y.toNat : Int):=fun h => e (zi2.2 (by omega))
          rw [beq_eq_false_iff_ne.2 e',Bool.not_false,cond_true,beq_eq_false_iff_ne.2 e]
          simp only [Bool.false_and,Bool.or_false,Option.some.injEq]
          apply decide_eq_decide.2
          rw [zi1]; omega
  unfold F.zr
  exact L a b 0 n rfl rfl (by omega) (by omega) hn
theorem zue (n : Nat) (a b : TagL) (ha : TagLOK a) (hb : TagLOK b) (hn : 200000 ≤ n) : F.zbf n (a.1,a.2,()) (b.1,b.2,()) = some (ltT a b):=by
  unfold F.zbf ltT
  simp only
  rw [zkn n a.1 b.1 (by have:=ha.1; omega) (by have:=hb.1; omega) (by have:=ha.1; omega),zkn n a.2 b.2 (by have:=ha.2; omega) (by have:=hb.2; omega) (by have:=ha.2; omega)]
  simp only [za]
  by_cases e : a.1 = b.1
  · rw [if_pos e,e,zb5,beq_self_eq_true]; rfl
  · rw [if_neg e,beq_eq_false_iff_ne.2 e]
    cases Op.bytesLess a.1 b.1 <;> rfl
def insD (t : TagL) : List TagL→List TagL
  | [] => [t]
  | x :: r => if ltT x t then x :: insD t r else if x = t then x :: r else t :: x :: r
def normT (l : List TagL) : List TagL:=l.foldl (fun o t => insD t o) []
abbrev StrictT (l : List TagL) : Prop:=l.Pairwise fun a b => ltT a b = true
theorem zdw (t : TagL) : ∀ (l : List TagL) (x : TagL),x ∈ insD t l ↔ x = t ∨ x ∈ l
  | [],x => by simp [insD]
  | y :: r,x => by
    unfold insD
    split
    · simp only [List.mem_cons,zdw t r x]
      constructor
      · rintro (h | h | h) <;> simp [h]
      · rintro (h | h | h) <;> simp [h]
    · split
      · rename_i e
        subst e
        simp only [List.mem_cons]
        constructor
        · rintro (h | h) <;> simp [h]
        · rintro (h | h | h) <;> simp [h]
      · simp only [List.mem_cons]
theorem zfp (t : TagL) : ∀ (l : List TagL),StrictT l→StrictT (insD t l)
  | [],_ => by simp [insD,StrictT]
  | y :: r,h => by
    obtain ⟨h1,h2⟩:=List.pairwise_cons.1 h
    unfold insD
    split
    · rename_i hy
      refine List.pairwise_cons.2 ⟨fun x hx => ?_,zfp t r h2⟩
      rcases (zdw t r x).1 hx with rfl | hx
      · exact hy
      · exact h1 x hx
    · rename_i hy
      split
      · exact h
      · rename_i hne
        have hty : ltT t y = true:=by
          cases hc : ltT t y
          · exact absurd (zcz (by simpa using hy) hc) hne
          · rfl
        refine List.pairwise_cons.2 ⟨fun x hx => ?_,h⟩
        rcases List.mem_cons.1 hx with rfl | hx
        · exact hty
        · exact zcy hty (h1 x hx)
theorem zd7 : ∀ (a b : List TagL),StrictT a→StrictT b→(∀ x,x ∈ a ↔ x ∈ b)→a = b
  | [],[],_,_,_ => rfl
  | [],y :: b,_,_,h => by have:=(h y).2 (by simp); cases this
  | x :: a,[],_,_,h => by have:=(h x).1 (by simp); cases this
  | x :: a,y :: b,ha,hb,h => by
    obtain ⟨h1,h2⟩:=List.pairwise_cons.1 ha
    obtain ⟨h3,h4⟩:=List.pairwise_cons.1 hb
    have e : x = y:=by
      rcases List.mem_cons.1 ((h x).1 (by simp)) with e | e
      · exact e
      · rcases List.mem_cons.1 ((h y).2 (by simp)) with e' | e'
        · exact e'.symm
        · have:=zh7 (h1 y e'); rw [h3 x e] at this; cases this
    subst e
    rw [zd7 a b h2 h4 (fun z => ?_)]
    have hx:=h z
    simp only [List.mem_cons] at hx
    constructor
    · intro hz
      rcases hx.1 (Or.inr hz) with rfl | h'
      · have:=h1 _ hz; rw [zcd] at this; cases this
      · exact h'
    · intro hz
      rcases hx.2 (Or.inr hz) with rfl | h'
      · have:=h3 _ hz; rw [zcd] at this; cases this
      · exact h'
theorem zdx : ∀ (l o : List TagL),StrictT o→StrictT (l.foldl (fun o t => insD t o) o) ∧ ∀ x,x ∈ l.foldl (fun o t => insD t o) o ↔ x ∈ o ∨ x ∈ l
  | [],o,h => ⟨h,fun x => by simp⟩
  | t :: l,o,h => by
    obtain ⟨h1,h2⟩:=zdx l (insD t o) (zfp t o h)
    refine ⟨h1,fun x => ?_⟩
    rw [List.foldl_cons,h2 x,zdw,List.mem_cons]
    constructor
    · rintro ((h | h) | h) <;> simp [h]
    · rintro (h | h | h) <;> simp [h]
theorem zev (l : List TagL) : StrictT (normT l):=(zdx l [] List.Pairwise.nil).1
theorem zij (l : List TagL) (x : TagL) : x ∈ normT l ↔ x ∈ l:=by
  unfold normT; rw [(zdx l [] List.Pairwise.nil).2 x]; simp
theorem zdy (t : TagL) : ∀ l,(insD t l).length ≤ l.length + 1
  | [] => by simp [insD]
  | y :: r => by
    unfold insD
    have:=zdy t r
    split
    · simp; omega
    · split <;> simp
theorem zik (l : List TagL) : (normT l).length ≤ l.length:=by
  have : ∀ (l o : List TagL),(l.foldl (fun o t => insD t o) o).length ≤ o.length + l.length:=by
    intro l
    induction l with
    | nil => intro o; simp
    | cons t l ih => intro o; have h1:=ih (insD t o); have h2:=zdy t o; simp only [List.foldl_cons,List.length_cons]; omega
  have h:=this l []
  simp only [List.length_nil,Nat.zero_add] at h
  exact h
def dedF (D : List TagL) (t : TagL) : List TagL:=if D.getLast? = some t then D else D ++ [t]
theorem zil : ∀ (s D : List TagL),SortedT s→StrictT D→(∀ a ∈ D,∀ b ∈ s,ltT b a = false)→StrictT (s.foldl dedF D) ∧ ∀ x,x ∈ s.foldl dedF D ↔ x ∈ D ∨ x ∈ s
  | [],D,_,h,_ => ⟨h,fun x => by simp⟩
  | t :: s, D, hs, hD, hb => by
    obtain ⟨h1,h2⟩:=List.pairwise_cons.1 hs
    have key : StrictT (dedF D t) ∧ (∀ x,x ∈ dedF D t ↔ x ∈ D ∨ x = t):=by
      unfold dedF
      split
      · rename_i e
        have ht : t ∈ D:=List.mem_of_getLast? e
        exact ⟨hD,fun x => ⟨Or.inl,fun h => h.elim id (fun e => e ▸ ht)⟩⟩
      · rename_i e
        refine ⟨?_,fun x => by simp⟩
        refine List.pairwise_append.2 ⟨hD,List.pairwise_singleton _ _,fun a ha b hb' => ?_⟩
        rw [List.mem_singleton.1 hb']
        have h0:=hb a ha t (by simp)
        cases hc : ltT a t
        · exfalso
          have : a = t:=zcz hc h0
          subst this
          apply e
          have : ∀ (D : List TagL),StrictT D→(∀ x ∈ D,ltT a x = false)→a ∈ D→D.getLast? = some a:=by
            intro D
            induction D with
            | nil => intro _ _ h; cases h
            | cons y D ih =>
              intro hp hm hin
              obtain ⟨p1,p2⟩:=List.pairwise_cons.1 hp
              cases D with
              | nil => rcases List.mem_cons.1 hin with rfl | h
                       · rfl
                       · cases h
              | cons z D =>
                rw [List.getLast?_cons_cons]
                refine ih p2 (fun x hx => hm x (List.mem_cons_of_mem _ hx)) ?_
                rcases List.mem_cons.1 hin with rfl | h
                · have:=p1 z (by simp); rw [hm z (by simp)] at this; cases this
                · exact h
          exact this D hD (fun x hx => hb x hx a (by simp)) ha
        · rfl
    obtain ⟨k1,k2⟩:=key
    obtain ⟨f1,f2⟩:=zil s (dedF D t) h2 k1 (fun a ha b hb' => by
      rcases (k2 a).1 ha with ha | rfl
      · exact hb a ha b (List.mem_cons_of_mem _ hb')
      · exact h1 b hb')
    refine ⟨f1,fun x => ?_⟩
    rw [List.foldl_cons,f2 x,k2 x,List.mem_cons]
    constructor
    · rintro ((h | h) | h) <;> simp [h]
    · rintro (h | h | h) <;> simp [h]
theorem zr9 (l : List TagL) : (sortTags l).foldl dedF [] = normT l:=by
  obtain ⟨h1,h2⟩:=zil (sortTags l) [] (zbp l) List.Pairwise.nil (fun a ha => by cases ha)
  refine zd7 _ _ h1 (zev l) (fun x => ?_)
  rw [h2 x,zij,(za4 l).mem_iff]; simp
theorem ze7 {α : Type} : ∀ (l : List α) (k : Nat) (x : α),upd l k x = l.set k x
  | [],_,_ => rfl
  | _ :: l,0,_ => rfl
  | _ :: l,k + 1,x => by simp [upd,ze7 l k x]
end Go.AM
set_option linter.unusedVariables false
set_option linter.unusedSimpArgs false
namespace Go.AM
theorem zko {α : Type} {L D : List α} {k : Nat} (h : L.take D.length = D) (hk : D.length = k + 1) : L[k]? = D.getLast?:=by
  rw [List.getLast?_eq_getElem?]
  have : D[D.length - 1]? = (L.take D.length)[D.length - 1]?:=by rw [h]
  rw [this,hk,List.getElem?_take]
  simp
theorem zsa {α : Type} {L D : List α} (x : α) (h : L.take D.length = D) (hk : D.length < L.length) : (L.set D.length x).take (D ++ [x]).length = D ++ [x]:=by
  rw [List.length_append,List.length_singleton,List.take_add_one,List.take_set_of_le (Nat.le_refl _),h]
  simp [hk]
theorem zsb {α : Type} (L : List α) (i k : Nat) (x : α) (h : i ≤ k) : (L.set i x).drop (k + 1) = L.drop (k + 1):=List.drop_set_of_lt (by omega)
theorem zps (n : Nat) (X : Type) (k0 : (Nat × Nat)→Int→(Nat × List TagL)→(Nat × List TagL)→(Nat × List TagL)→Option X) (v N : Nat) (hN : N ≤ 100000) (b0 b1 : Nat × List TagL) :
    ∀ (r D L : List TagL) (i m : Nat),L.drop i = r→i ≤ N→r.length < m→D.length ≤ i→(i = 0 ↔ D = [])→L.length = N→L.take D.length = D →
    ∃ L',L'.take (r.foldl dedF D).length = r.foldl dedF D ∧ L'.length = N ∧ F.zz.L5 n k0 m (v,N) (D.length : Int) (v,N) (N : Int) (i : Int) b0 b1 (v,L) = k0 (v,N) ((r.foldl dedF D).length : Int) b0 b1 (v,L'):=by
  intro r
  induction r with
  | nil =>
    intro D L i m hr hi hm hD h0 hL hT
    obtain ⟨m,rfl⟩ : ∃ p,m = p + 1:=⟨m - 1,by omega⟩
    refine ⟨L,hT,hL,?_⟩
    rw [F.zz.L5]
    unfold F.zz.L5.step
    dsimp only
    rw [zf (by have:=zo hr; omega)]
    rfl
  | cons x r ih =>
    intro D L i m hr hi hm hD h0 hL hT
    obtain ⟨m,rfl⟩ : ∃ p,m = p + 1:=⟨m - 1,by simp at hm; omega⟩
    obtain ⟨l1,g1,t1⟩:=zn hr
    have hw : IntKind.wrap .i64 ((D.length : Int) + 1) = ((D.length + 1 : Nat) : Int):=zj (by omega)
    have hput : ∃ L',L'.take (r.foldl dedF (D ++ [x])).length = r.foldl dedF (D ++ [x]) ∧ L'.length = N ∧ F.zz.L5 n k0 m (v,N) (((D ++ [x]).length : Nat) : Int) (v,N) (N : Int) ((i + 1 : Nat) : Int) b0 b1 (v,L.set D.length x) = k0 (v,N) ((r.foldl dedF (D ++ [x])).length : Int) b0 b1 (v,L'):=
      ih (D ++ [x]) (L.set D.length x) (i + 1) m (by rw [zsb L D.length i x hD]; exact t1) (by omega) (by simp at hm; omega) (by simp; omega) (by simp) (by simpa using hL) (zsa x hT (by omega))
    rw [F.zz.L5]
    unfold F.zz.L5.step
    dsimp only
    rw [List.foldl_cons]
    have hb1 : (decide ((0 : Int) ≤ (i : Int)) && decide ((i : Int) < (N : Int))) = true:=by simp; omega
    have hb2 : (decide ((0 : Int) ≤ (D.length : Int)) && decide ((D.length : Int) < (N : Int))) = true:=by simp; omega
    have hbe : Nat.beq v v = true:=Nat.beq_refl v
    rw [zd (by omega : (i : Int) < (N : Int)),hb1,hbe,cond_true,cond_true,zp,g1,za,zj (by omega : i < 4611686018427387904)]
    by_cases hi0 : i = 0
    · have hD0:=h0.1 hi0
      have e0 : ((i : Int) == 0) = true:=by simp [hi0]
      rw [e0,cond_true,hb2,cond_true,cond_true,zb6 (by omega : D.length < L.length),za,hw,Int.toNat_natCast,ze7]
      have hd : dedF D x = D ++ [x]:=by rw [hD0]; rfl
      rw [hd]
      obtain ⟨L',q1,q2,q3⟩:=hput
      refine ⟨L',q1,q2,?_⟩
      rw [← q3,List.length_append,List.length_singleton]
    · have e0 : ((i : Int) == 0) = false:=by simpa using hi0
      have hne : D ≠ []:=fun h => hi0 (h0.2 h)
      have hpos : 0 < D.length:=List.length_pos_iff.2 hne
      have hwp : IntKind.wrap .i64 ((D.length : Int) - 1) = ((D.length - 1 : Nat) : Int):=by rw [zl (by omega)]; omega
      have hb3 : (decide ((0 : Int) ≤ ((D.length - 1 : Nat) : Int)) && decide (((D.length - 1 : Nat) : Int) < (N : Int))) = true:=by simp; omega
      obtain ⟨y,hy⟩ : ∃ y,D.getLast? = some y:=⟨_,List.getLast?_eq_some_getLast hne⟩
      have gl : L[D.length - 1]? = some y:=by rw [zko hT (by omega),hy]
      rw [e0,cond_false,hwp,hb3,cond_true,cond_true,zp,gl,za,zf7]
      by_cases hxy : x = y
      · rw [decide_eq_true hxy,Bool.not_true,cond_false]
        have hd : dedF D x = D:=by unfold dedF; rw [hy,hxy,if_pos rfl]
        rw [hd]
        exact ih D L (i + 1) m t1 (by omega) (by simp at hm; omega) (by omega) (by simp [hne]) hL hT
      · rw [decide_eq_false hxy,Bool.not_false,cond_true,hb2,cond_true,cond_true,zb6 (by omega : D.length < L.length),za,hw,Int.toNat_natCast,ze7]
        have hd : dedF D x = D ++ [x]:=by unfold dedF; rw [hy,if_neg (by simpa using fun h : y = x => hxy h.symm)]
        rw [hd]
        obtain ⟨L',q1,q2,q3⟩:=hput
        refine ⟨L',q1,q2,?_⟩
        rw [← q3,List.length_append,List.length_singleton]
theorem zuf (n : Nat) (l : List TagL) : F.zaf n l = some l:=by
  unfold F.zaf
  rw [beq_self_eq_true,cond_true,show (0 : Int) = ((0 : Nat) : Int) from rfl,zq l 0 l.length (by omega) (by omega)]
  simp
theorem zf8 (n : Nat) (hn : 200000 ≤ n) (l : List TagL) (hl : l.length ≤ 100000) (v : Nat) (b0 b1 : Nat × List TagL) :
    F.zz.L5 n (fun (e11_3 : Nat × Nat) (e11_4 : Int) (e11_b0_0 e11_b1_0 e11_b2_0 : Nat × List TagL) =>
          bif Nat.beq e11_3.1 e11_b2_0.1 then
            (sub e11_b2_0.2 (0 : Int) e11_4).bind fun x12 =>
              (F.zaf n x12).bind fun y13 =>
                some (y13)
          else
            none) n (v,l.length) (0 : Int) (v,l.length) (l.length : Int) (0 : Int) b0 b1 (v,sortTags l) = some (normT l):=by
  obtain ⟨L', q1,q2,q3⟩:=zps n _ (fun (e11_3 : Nat × Nat) (e11_4 : Int) (e11_b0_0 e11_b1_0 e11_b2_0 : Nat × List TagL) =>
          bif Nat.beq e11_3.1 e11_b2_0.1 then
            (sub e11_b2_0.2 (0 : Int) e11_4).bind fun x12 =>
              (F.zaf n x12).bind fun y13 =>
                some (y13)
          else
            none) v l.length hl b0 b1 (sortTags l) [] (sortTags l) 0 n rfl (by omega) (by rw [za8]; omega) (by simp) (by simp) (za8 l) rfl
  refine q3.trans ?_
  rw [zr9] at q1 ⊢
  dsimp only
  rw [Nat.beq_refl,cond_true,show (0 : Int) = ((0 : Nat) : Int) from rfl,zq L' 0 _ (by omega) (by rw [q2]; exact zik l),q1]
  simp only [za,List.drop_zero,zuf]
theorem zkp (n : Nat) (hn : 200000 ≤ n) (l : List TagL) (hl : l.length ≤ 100000) : F.zz n l = some (normT l):=by
  have e1 : (decide ((0 + l.length) * 32 ≤ 2 ^ 46) && decide (0 < 32 ∧ 32 ≤ 2 ^ 20)) = true:=by
    rw [decide_eq_true (by omega)]; rfl
  have e2 : ∀ l : List TagL,l.length ≤ 100000→(Nat.beq (sortTags l).length l.length && Nat.blt l.length strMax) = true:=by
    intro l hl
    rw [za8,Nat.beq_refl,Bool.true_and,zbb]
    exact Nat.ble_eq ▸ (by omega : l.length + 1 ≤ 4611686018427387904)
  unfold F.zz
  rw [List.nil_append,e1,cond_true,e2 l hl,cond_true]
  cases l with
  | nil =>
    have h1:=zf8 n hn [] (by simp) 1 (1,[]) (1,[])
    have h2:=zf8 n hn [] (by simp) 2 (1,[]) (1,[])
    refine Eq.trans (b:=both (some (normT [])) (some (normT []))) ?_ (znw _)
    rw [List.isEmpty_nil,cond_true]
    congr 1
  | cons t l =>
    exact zf8 n hn (t :: l) hl 2 (1,[]) (1,[])
theorem zbe {X : Type} {v : List TagL} (h : v.length ≤ 100000) (y : Option X) : (bif decide ((v.length + 1) * 32 ≤ 2 ^ 46) && decide (0 < 32 ∧ 32 ≤ 2 ^ 20) then y else none) = y:=by
  rw [decide_eq_true (by omega)]; rfl
theorem zkq (n : Nat) (X : Type) (k2 : List TagL→Int→List TagL→Bool→Nat→Option X) (l out : List TagL) (i : Int) (hl : out.length ≤ 100000) (vk0 : Nat) : ∀ (r more : List TagL) (k m : Nat),out.drop k = r→r.length < m→more.length + r.length ≤ 50000 →
    F.zh.L8 n k2 m l out i more true (k : Int) vk0 more.length = k2 l i (more ++ r) true (more ++ r).length:=by
  intro r
  induction r with
  | nil =>
    intro more k m h1 hm hs
    obtain ⟨m,rfl⟩ : ∃ p,m = p + 1:=⟨m - 1,by omega⟩
    rw [F.zh.L8]
    unfold F.zh.L8.step
    dsimp only
    rw [zf (by have:=zo h1; omega),List.append_nil]
  | cons x r ih =>
    intro more k m h1 hm hs
    obtain ⟨m,rfl⟩ : ∃ p,m = p + 1:=⟨m - 1,by simp at hm; omega⟩
    obtain ⟨l1,g1,t1⟩:=zn h1
    simp only [List.length_cons] at hs hm
    rw [F.zh.L8]
    unfold F.zh.L8.step
    dsimp only
    rw [zd (by omega),Bool.not_true,cond_false,zp,g1,za,zbe (by omega),Nat.beq_refl,cond_true,zj (by omega)]
    rw [ih (more ++ [x]) (k + 1) m t1 (by omega) (by simp; omega)]
    simp
theorem zpt (n : Nat) (hn : 200000 ≤ n) (X : Type) (k2 : List TagL→Int→List TagL→Bool→Nat→Option X) (l out : List TagL) (i : Nat) (t : TagL) (hi : l[i]? = some t) (ht : TagLOK t) (ho : ∀ x ∈ out,TagLOK x) (hl : out.length ≤ 100000) (vk0 : Nat) : ∀ (r more : List TagL) (k m : Nat),out.drop k = r→r.length < m→more.length + r.length ≤ 40000 →
    ∃ p M,F.zh.L8 n k2 m l out (i : Int) more false (k : Int) vk0 more.length = k2 l (i : Int) M p M.length ∧ (bif p then M else M ++ [t]) = more ++ insD t r ∧ M.length ≤ more.length + r.length + 1:=by
  intro r
  induction r with
  | nil =>
    intro more k m h1 hm hs
    obtain ⟨m,rfl⟩ : ∃ p,m = p + 1:=⟨m - 1,by omega⟩
    refine ⟨false,more,?_,rfl,by simp⟩
    rw [F.zh.L8]
    unfold F.zh.L8.step
    dsimp only
    rw [zf (by have:=zo h1; omega)]
  | cons x r ih =>
    intro more k m h1 hm hs
    obtain ⟨m,rfl⟩ : ∃ p,m = p + 1:=⟨m - 1,by simp at hm; omega⟩
    obtain ⟨l1,g1,t1⟩:=zn h1
    simp only [List.length_cons] at hs hm
    have hx : TagLOK x:=ho x (List.mem_of_getElem? g1)
    rw [F.zh.L8]
    unfold F.zh.L8.step
    dsimp only
    rw [zd (by omega),Bool.not_false,cond_true,zp,zp,g1,hi]
    simp only [za,zue n x t hx ht hn]
    cases hlt : ltT x t
    · rw [Bool.not_false,cond_true,zf7,zj (by omega)]
      unfold insD
      rw [hlt,if_neg (by simp)]
      by_cases e : x = t
      · rw [decide_eq_true e,Bool.not_true,cond_false,zbe (by omega),Nat.beq_refl,cond_true,if_pos e]
        refine ⟨true,_,zkq n X k2 l out i hl vk0 r (more ++ [x]) (k + 1) m t1 (by omega) (by simp; omega),by simp,by simp⟩
      · rw [decide_eq_false e,Bool.not_false,cond_true,zbe (by omega),Nat.beq_refl,cond_true,zbe (by simp; omega),Nat.beq_refl,cond_true,if_neg e]
        refine ⟨true,_,zkq n X k2 l out i hl vk0 r ((more ++ [t]) ++ [x]) (k + 1) m t1 (by omega) (by simp; omega),by simp,by simp; omega⟩
    · rw [Bool.not_true,cond_false,zbe (by omega),Nat.beq_refl,cond_true,zj (by omega)]
      obtain ⟨p,M,q1,q2,q3⟩:=ih (more ++ [x]) (k + 1) m t1 (by omega) (by simp; omega)
      refine ⟨p,M,q1,?_,by simp only [List.length_append,List.length_cons,List.length_nil] at q3 ⊢; omega⟩
      rw [q2,insD,hlt,if_pos rfl]
      simp
theorem zpu (n : Nat) (hn : 200000 ≤ n) (X : Type) (k0 : List TagL→Nat→Option X) (l : List TagL) (hl : l.length ≤ 10000) (hok : ∀ t ∈ l,TagLOK t) : ∀ (r out : List TagL) (i m : Nat),l.drop i = r→r.length < m→out.length ≤ i→(∀ x ∈ out,x ∈ l) →
    F.zh.L3 n k0 m l out (i : Int) out.length = k0 (r.foldl (fun o t => insD t o) out) (r.foldl (fun o t => insD t o) out).length:=by
  intro r
  induction r with
  | nil =>
    intro out i m h1 hm ho hmem
    obtain ⟨m,rfl⟩ : ∃ p,m = p + 1:=⟨m - 1,by omega⟩
    rw [F.zh.L3]
    unfold F.zh.L3.step
    dsimp only
    rw [zf (by have:=zo h1; omega)]
    rfl
  | cons t r ih =>
    intro out i m h1 hm ho hmem
    obtain ⟨m,rfl⟩ : ∃ p,m = p + 1:=⟨m - 1,by simp at hm; omega⟩
    obtain ⟨l1,g1,t1⟩:=zn h1
    have ht : t ∈ l:=List.mem_of_getElem? g1
    rw [F.zh.L3]
    unfold F.zh.L3.step
    dsimp only
    rw [zd (by omega)]
    obtain ⟨p,M,q1,q2,q3⟩:=zpt n (by omega) X _ l out i t g1 (hok t ht) (fun x hx => hok x (hmem x hx)) (by omega) out.length out [] 0 n rfl (by omega) (by simp; omega)
    refine q1.trans ?_
    simp only [List.length_nil,Nat.zero_add,List.nil_append] at q2 q3
    have hwi : IntKind.wrap .i64 ((i : Int) + 1) = ((i + 1 : Nat) : Int):=zj (by omega)
    have hin : ∀ x ∈ insD t out,x ∈ l:=fun x hx => by
      rcases (zdw t out x).1 hx with rfl | h
      · exact ht
      · exact hmem x h
    rw [List.foldl_cons,hwi]
    cases p
    · rw [Bool.not_false,cond_true,zp,g1,za,zbe (by omega),Nat.beq_refl,cond_true]
      have q2 : M ++ [t] = insD t out:=q2
      have e : M ++ [(t.1,t.2)] = insD t out:=q2
      rw [e]
      exact ih (insD t out) (i + 1) m t1 (by simp at hm; omega) (by have:=zdy t out; omega) hin
    · rw [Bool.not_true,cond_false]
      have q2 : M = insD t out:=q2
      rw [q2]
      exact ih (insD t out) (i + 1) m t1 (by simp at hm; omega) (by have:=zdy t out; omega) hin
theorem zew (n : Nat) (hn : 200000 ≤ n) (l : List TagL) (hl : l.length ≤ 10000) (hok : ∀ t ∈ l,TagLOK t) : F.zh n l = some (normT l):=by
  unfold F.zh
  exact zpu n hn _ _ l hl hok l [] 0 n rfl (by omega) (by simp) (fun x hx => by cases hx)
end Go.AM
set_option linter.unusedVariables false
set_option linter.unusedSimpArgs false
namespace Go.AM
def zeroM : MetD:=([],(0 : Int),[],(0 : Int),[],(0 : Int),())
theorem zuv {α : Type} (p r : List α) (x y : α) : upd (p ++ x :: r) p.length y = p ++ y :: r:=by
  rw [ze7,List.set_append_right _ _ (Nat.le_refl _),Nat.sub_self]; rfl
theorem znk {X : Type} {v : List DecL} (h : v.length ≤ 100000) (y : Option X) : (bif decide ((v.length + 1) * 24 ≤ 2 ^ 46) && decide (0 < 24 ∧ 24 ≤ 2 ^ 20) then y else none) = y:=by
  rw [decide_eq_true (by omega)]; rfl
end Go.AM
set_option linter.unusedVariables false
set_option linter.unusedSimpArgs false
namespace Go.AM
def TagS (t : TagL) : Prop:=t.1.length ≤ 1000 ∧ t.2.length ≤ 1000
theorem zgv {c : Int} {s : List UInt8} {lo hi : Int} (h : (textF c s lo hi).1 = 0) : lo ≤ (s.length : Int) ∧ (s.length : Int) ≤ hi ∧ s.all (cls c) = true:=by
  unfold textF at h
  split at h
  · cases h
  · split at h
    · cases h
    · split at h
      · cases h
      · split at h
        · cases h
        · rename_i h1 h2 h3 h4
          exact ⟨by omega,by omega,Classical.byContradiction fun hh => h4 ((zcj _ _ _).2 hh)⟩
theorem zce {t : TagL} (h : tagGood t = true) : TagS t:=by
  unfold tagGood at h
  simp only [Bool.and_eq_true,beq_iff_eq] at h
  have h1:=zgv h.1
  have h2:=zgv h.2
  exact ⟨by omega,by omega⟩
theorem growS {X : Type} {a b : Nat} (h : a + b ≤ 1000000) (y : Option X) : (bif decide (a + b ≤ strMax) then y else none) = y:=by
  rw [decide_eq_true (by rw [zbb]; omega)]; rfl
def oneT (t : TagL) : List UInt8:=if t.2 = [] then t.1 else t.1 ++ ([58] ++ t.2)
theorem zug (n : Nat) {t : TagL} (h : TagS t) : F.za1 n (t.1,t.2,()) = some (oneT t):=by
  unfold F.za1 oneT
  have a1:=h.1
  have a2:=h.2
  dsimp only
  by_cases h0 : t.2 = []
  · rw [h0,beq_self_eq_true,cond_true,if_pos rfl]
  · rw [beq_eq_false_iff_ne.2 h0,cond_false,growS (by omega),growS (by simp only [List.length_append,List.length_cons,List.length_nil]; omega),if_neg h0]
    simp
end Go.AM
set_option linter.unusedVariables false
set_option linter.unusedSimpArgs false
namespace Go.AM
structure RightM (m : MetD) : Prop where
  ok : MetOK m
  chk : chkM m = 0
theorem znl {m : MetD} (h : RightM m) : (∀ d ∈ m.2.2.1,DecLOK d ∧ decC d = 0) ∧ 1 ≤ m.2.2.1.length ∧ m.2.2.1.length ≤ 64:=by
  have:=(zf4 h.chk).2.2.1
  unfold valsB at this
  simp only [Bool.and_eq_true,decide_eq_true_eq] at this
  refine ⟨fun d hd => ⟨h.ok.2.1.2 d hd,?_⟩,this.1,this.2.1⟩
  simpa using List.all_eq_true.1 this.2.2 d hd
theorem znm {m : MetD} (h : RightM m) : (∀ t ∈ m.2.2.2.2.1,TagS t ∧ tagGood t = true) ∧ m.2.2.2.2.1.length ≤ 32:=by
  have:=(zf4 h.chk).2.2.2.2.1
  unfold tagsB at this
  simp only [Bool.and_eq_true,decide_eq_true_eq] at this
  exact ⟨fun t ht => ⟨zce (List.all_eq_true.1 this.2 t ht),List.all_eq_true.1 this.2 t ht⟩,this.1⟩
theorem zpv {s : List UInt8} (h : nameOK s = true) : 1 ≤ s.length ∧ s.length ≤ 200:=by
  rw [zet] at h
  simp only [Bool.and_eq_true,decide_eq_true_eq] at h
  exact h.2
end Go.AM
set_option linter.unusedVariables false
set_option linter.unusedSimpArgs false
namespace Go.AM
abbrev Res (α : Type):=Except (Int × Int) α
def kindR (s : List UInt8) : Int:=if s = [99] then 1 else if s = [103] then 2 else if s = [109,115] then 3 else if s = [104] then 4 else if s = [100] then 5 else 0
theorem zuh (n : Nat) (hn : 100 ≤ n) (s : List UInt8) : F.zag n s = some (if kindR s = 0 then (0,16,()) else (kindR s,0,())):=by
  obtain ⟨m,hm⟩ : ∃ q,n = q + 7:=⟨n - 7,by omega⟩
  unfold F.zag
  rw [show F.zbl n = some ([],[99],[103],[109,115],[104],[100],()) from rfl,za]
  have L : ∀ (k0 : Unit→Option (Int × Int × Unit)) (kr : Int→Int→Option (Int × Int × Unit)),F.zag.L2 n k0 kr (m + 7) s ([],[99],[103],[109,115],[104],[100],()) (0 : Int) = if s = [99] then kr 1 0 else if s = [103] then kr 2 0 else if s = [109,115] then kr 3 0 else if s = [104] then kr 4 0 else if s = [100] then kr 5 0 else k0 ():=by
    intro k0 kr
    have e1 : ([99] == s) = decide (s = [99]):=by by_cases h : s = [99] <;> simp [h]; exact fun h' => h h'.symm
    have e2 : ([103] == s) = decide (s = [103]):=by by_cases h : s = [103] <;> simp [h]; exact fun h' => h h'.symm
    have e3 : ([109,115] == s) = decide (s = [109,115]):=by by_cases h : s = [109,115] <;> simp [h]; exact fun h' => h h'.symm
    have e4 : ([104] == s) = decide (s = [104]):=by by_cases h : s = [104] <;> simp [h]; exact fun h' => h h'.symm
    have e5 : ([100] == s) = decide (s = [100]):=by by_cases h : s = [100] <;> simp [h]; exact fun h' => h h'.symm
    show (bif [99] == s then kr 1 0 else bif [103] == s then kr 2 0 else bif [109,115] == s then kr 3 0 else bif [104] == s then kr 4 0 else bif [100] == s then kr 5 0 else k0 ()) = _
    rw [e1,e2,e3,e4,e5]
    simp only [bdec]
  rw [hm] at L ⊢
  refine (L _ _).trans ?_
  unfold kindR
  repeat' split
  all_goals first | rfl | (simp_all)
def readVals : List (List UInt8)→List DecL→Int→Except Int (List DecL)
  | [],acc,_ => .ok acc
  | v :: r,acc,at_ => if (parseR v).2.1.1 = 0 ∧ acc.length ≠ 64 then readVals r (acc ++ [((parseR v).1.1,(parseR v).1.2.1,(parseR v).1.2.2.1)]) (at_ + v.length + 1) else .error at_
def restN (c : UInt8) (s : List UInt8) : List UInt8:=if c ∈ s then s.drop ((seg c s).length + 1) else []
def firstR (s : List UInt8) : Res (List UInt8 × List DecL):=
  if nameOK (seg 58 s) = false then .error (15,0)
  else if 58 ∉ s then .error (11,(s.length : Int))
  else match readVals (splitL 58 (restN 58 s)) [] ((seg 58 s).length + 1) with
    | .ok vs => .ok (seg 58 s,vs)
    | .error at_ => .error (17,at_)
def tagsR : List (List UInt8)→List TagL→Int→Except Int (List TagL)
  | [],acc,_ => .ok acc
  | p :: r,acc,at_ => if tagGood (seg 58 p,restN 58 p) = true ∧ ¬ (58 ∈ p ∧ restN 58 p = []) then tagsR r (acc ++ [(seg 58 p,restN 58 p)]) (at_ + p.length + 1) else .error at_
def moreR (m : MetD) (last : Int) : List UInt8→Except Int (MetD × Int)
  | [] => .error 11
  | x :: s =>
    if x = 64 then (if 0 < last then .error 11 else if (rateR s).2.1.1 ≠ 0 ∨ (m.2.1 = 2 ∧ (rateR s).1 ≠ 1000000) then .error 18 else .ok ((m.1,m.2.1,m.2.2.1,(rateR s).1,m.2.2.2.2.1,m.2.2.2.2.2.1,()),1))
    else if x = 35 then (if 1 < last then .error 11 else match tagsR (splitL 44 s) [] 0 with
      | .error _ => .error 19
      | .ok l => if 32 < l.length then .error 19 else .ok ((m.1,m.2.1,m.2.2.1,m.2.2.2.1,normT l,m.2.2.2.2.2.1,()),2))
    else if x = 84 then (if 2 < last then .error 11 else if (parseNum s 1 1099511627776).2.1.1 ≠ 0 then .error 20 else .ok ((m.1,m.2.1,m.2.2.1,m.2.2.2.1,m.2.2.2.2.1,(parseNum s 1 1099511627776).1,()),3))
    else .error 11
def restR : List (List UInt8)→Int→MetD→Int→Res MetD
  | [],_,m,_ => .ok m
  | p :: r,at_,m,last => match moreR m last p with
    | .error e => .error (e,at_)
    | .ok (m',last') => restR r (at_ + p.length + 1) m' last'
def secondR (s p : List UInt8) (nm : List UInt8) (vs : List DecL) : List (List UInt8)→Res MetD
  | [] => .error (11,(s.length : Int))
  | q :: r => if kindR q = 0 then .error (16,(p.length : Int) + 1) else restR r ((p.length : Int) + 1 + (q.length + 1)) (nm,kindR q,vs,1000000,[],0,()) 0
def linesR (s : List UInt8) : List (List UInt8)→Res MetD
  | [] => .error (11,0)
  | p :: r => match firstR p with
    | .error e => .error e
    | .ok x => secondR s p x.1 x.2 r
abbrev ParseD:=MetD × (Int × Int × Unit) × Unit
def outP : Res MetD→ParseD
  | .ok m => (m,(0,0,()),())
  | .error e => (zeroM,(e.1,e.2,()),())
def parseD (s : List UInt8) : ParseD:=if 8192 < s.length then (zeroM,(12,0,()),()) else outP (linesR s (splitL 124 s))
theorem zdz (c : UInt8) (s : List UInt8) : (restN c s).length ≤ s.length:=by
  unfold restN; split <;> simp
theorem zcf (c : UInt8) (s : List UInt8) : splitL c s = if c ∈ s then seg c s :: splitL c (restN c s) else [s]:=by
  induction s with
  | nil => rfl
  | cons x s ih =>
    by_cases hx : x = c
    · subst hx
      have e1 : seg x (x :: s) = []:=by rw [zaf,if_pos rfl]
      have e2 : restN x (x :: s) = s:=by unfold restN; rw [if_pos (by simp),e1]; rfl
      rw [if_pos (by simp),e1,e2,splitL,if_pos rfl]
    · have hmem : (c ∈ x :: s) ↔ c ∈ s:=by simp [show ¬ c = x from fun h => hx h.symm]
      rw [splitL,if_neg hx,ih]
      by_cases hc : c ∈ s
      · rw [if_pos hc,if_pos (hmem.2 hc)]
        have e1 : seg c (x :: s) = x :: seg c s:=by rw [zaf,if_neg hx]
        have e2 : restN c (x :: s) = restN c s:=by unfold restN; rw [if_pos hc,if_pos (hmem.2 hc),e1]; rfl
        rw [e1,e2]
      · rw [if_neg hc,if_neg (fun h => hc (hmem.1 h))]
def sumL (l : List (List UInt8)) : Nat:=(l.map fun p => p.length + 1).sum
theorem zao (c : UInt8) (s : List UInt8) : sumL (splitL c s) = s.length + 1:=by
  induction s with
  | nil => rfl
  | cons x s ih =>
    rw [splitL]
    split
    · simp only [sumL,List.map_cons,List.sum_cons,List.length_nil,List.length_cons] at ih ⊢
      omega
    · have hne:=zad c s
      revert ih hne
      cases splitL c s with
      | nil => intro _ h; exact absurd rfl h
      | cons p l =>
        intro ih _
        simp only [sumL,List.map_cons,List.sum_cons,List.length_cons] at ih ⊢
        omega
theorem zav (l : List (List UInt8)) : l.length ≤ sumL l:=by
  induction l with
  | nil => simp [sumL]
  | cons p l ih => simp only [sumL,List.map_cons,List.sum_cons,List.length_cons] at ih ⊢; omega
theorem zb2 {l : List (List UInt8)} {p : List UInt8} (h : p ∈ l) : p.length + 1 ≤ sumL l:=by
  induction l with
  | nil => cases h
  | cons q l ih =>
    simp only [sumL,List.map_cons,List.sum_cons] at ih ⊢
    rcases List.mem_cons.1 h with rfl | h
    · omega
    · have:=ih h; omega
theorem zf9 (n : Nat) (c : UInt8) {s : List UInt8} (hs : s.length ≤ 1000000) : O.split1 n s [c] = some (splitL c s):=by
  unfold O.split1
  dsimp only
  rw [decide_eq_true (by omega)]; rfl
theorem zgw (s : List UInt8) : ((parseR s).2.1.1 == 0 && (parseR s).2.1.2.1 == 0) = decide ((parseR s).2.1.1 = 0):=by
  by_cases h : (parseR s).2.1.1 = 0
  · rw [decide_eq_true h,h,zb7 h]; rfl
  · rw [decide_eq_false h,beq_eq_false_iff_ne.2 h]; rfl
theorem znn (n : Nat) (hn : 200000 ≤ n) (X : Type) (k0 kr : List TagL→Int→Int→Nat→Option X) (ps : List (List UInt8)) (hs : sumL ps ≤ 10000) (b0 b1 : Int) : ∀ (r : List (List UInt8)) (acc : List TagL) (a : Int) (i m : Nat),ps.drop i = r→acc.length ≤ i→i ≤ ps.length→r.length < m→0 ≤ a→a + sumL r ≤ 10000 →
    F.zaa.L4 n k0 kr m acc a ps (ps.length : Int) (i : Int) b0 b1 acc.length = match tagsR r acc a with
      | .ok l => k0 l b0 b1 l.length
      | .error e => kr [] 19 e 0:=by
  intro r
  have hpl:=zav ps
  induction r with
  | nil =>
    intro acc a i m h1 h2 hi hm ha has
    obtain ⟨m,rfl⟩ : ∃ q,m = q + 1:=⟨m - 1,by omega⟩
    rw [F.zaa.L4]
    unfold F.zaa.L4.step
    dsimp only
    rw [zf (by have:=zo h1; omega)]
    rfl
  | cons p r ih =>
    intro acc a i m h1 h2 hi hm ha has
    obtain ⟨m,rfl⟩ : ∃ q,m = q + 1:=⟨m - 1,by simp at hm; omega⟩
    obtain ⟨l1,g1,t1⟩:=zn h1
    simp only [List.length_cons] at hm
    simp only [sumL,List.map_cons,List.sum_cons] at has
    have hp:=zb2 (List.mem_of_getElem? g1)
    have hsl:=z6 58 p
    have hrl:=zdz 58 p
    have hih:=ih (acc ++ [(seg 58 p,restN 58 p)]) (a + p.length + 1) (i + 1) m t1 (by simp; omega) (by omega) (by omega) (by omega) (by simp only [sumL]; omega)
    have hcut : F.zah n p [58] = some (seg 58 p,restN 58 p,decide (58 ∈ p),()):=zbr n 58 (by omega)
    have hw : IntKind.wrap .i64 (a + IntKind.wrap .i64 ((p.length : Int) + 1)) = a + p.length + 1:=by
      rw [zj (by omega),zl (by omega)]; omega
    have hg : (decide ((acc.length + 1) * 32 ≤ 2 ^ 46) && decide (0 < 32 ∧ 32 ≤ 2 ^ 20)) = true:=by rw [decide_eq_true (by omega)]; rfl
    rw [F.zaa.L4]
    unfold F.zaa.L4.step
    dsimp only
    rw [zd (by omega),zp,g1,za,hcut,za]
    dsimp only
    have hc:=zub n hn (t:=(seg 58 p,restN 58 p)) ⟨by show (seg 58 p).length ≤ 10000; omega,by show (restN 58 p).length ≤ 10000; omega⟩
    dsimp only at hc
    rw [hc,za,hw,zj (by omega),hg,Nat.beq_refl,cond_true,cond_true,tagsR]
    cases tagGood (seg 58 p,restN 58 p)
    · rw [if_neg (by simp)]; rfl
    · rw [cond_true,beq_self_eq_true,Bool.not_true,cond_false,bdec]
      by_cases hin : (58 : UInt8) ∈ p
      · rw [if_pos hin]
        by_cases h0 : restN 58 p = []
        · rw [h0,beq_self_eq_true,cond_true,if_neg (by simp [hin])]
        · rw [beq_eq_false_iff_ne.2 h0,cond_false,if_pos ⟨rfl,by simp [h0]⟩]
          exact hih
      · rw [if_neg hin,if_pos ⟨rfl,by simp [hin]⟩]
        exact hih
theorem zlp (n : Nat) (hn : 200000 ≤ n) (s : List UInt8) (hs : s.length ≤ 9000) : F.zaa n s = some (match tagsR (splitL 44 s) [] 0 with | .ok l => (l,(0,0,()),()) | .error e => ([],(19,e,()),())):=by
  unfold F.zaa
  have h1:=zao 44 s
  have h2:=zav (splitL 44 s)
  rw [zf9 n 44 (by omega),za]
  refine (znn n hn _ _ _ (splitL 44 s) (by omega) 0 0 (splitL 44 s) [] 0 0 n rfl (by simp) (by omega) (by omega) (by omega) (by omega)).trans ?_
  cases tagsR (splitL 44 s) [] 0 <;> rfl
end Go.AM
set_option linter.unusedVariables false
set_option linter.unusedSimpArgs false
namespace Go.AM
def atL : List (List UInt8)→Int→List (Int × List UInt8)
  | [],_ => []
  | p :: r,a => (a,p) :: atL r (a + p.length + 1)
def curL (a : Int) (cur : List UInt8) : List (List UInt8)→List (Int × List UInt8)
  | [] => []
  | p :: q => (a,cur ++ p) :: atL q (a + cur.length + p.length + 1)
theorem zsc (n : Nat) (X : Type) (k0 : (Nat × Nat)→(Nat × List (Int × List UInt8))→(Nat × List (Int × List UInt8))→Option X) (c : UInt8) (s : List UInt8) (at0 : Int) (h0 : 0 ≤ at0 ∧ at0 ≤ 100000) (hs : s.length ≤ 100000) (b0 : Nat × List (Int × List UInt8)) :
    ∀ (r : List UInt8) (done : List (Int × List UInt8)) (a : Int) (cur : List UInt8) (v i m : Nat),s.drop i = r→i ≤ s.length→at0 + i = a + cur.length→r.length < m→done.length ≤ i→cur.length ≤ i→∃ v',F.zac.L3 n k0 m s (c.toNat : Int) at0 (v,(done ++ [(a,cur)]).length) (i : Int) b0 (v,done ++ [(a,cur)]) = k0 (v',(done ++ curL a cur (splitL c r)).length) b0 (v',done ++ curL a cur (splitL c r)):=by
  intro r
  induction r with
  | nil =>
    intro done a cur v i m h1 hi ha hm hd hc
    obtain ⟨m,rfl⟩ : ∃ q,m = q + 1:=⟨m - 1,by omega⟩
    refine ⟨v,?_⟩
    rw [F.zac.L3]
    unfold F.zac.L3.step
    dsimp only
    rw [zf (by have:=zo h1; omega)]
    have : curL a cur (splitL c []) = [(a,cur)]:=by simp [splitL,curL,atL]
    rw [this]
  | cons x r ih =>
    intro done a cur v i m h1 hi ha hm hd hc
    obtain ⟨m,rfl⟩ : ∃ q,m = q + 1:=⟨m - 1,by simp at hm; omega⟩
    obtain ⟨l1,g1,t1⟩:=zn h1
    simp only [List.length_cons] at hm
    rw [F.zac.L3]
    unfold F.zac.L3.step
    dsimp only
    rw [zd (by omega),zp,g1,za,zan,zj (by omega)]
    by_cases hx : x = c
    · rw [decide_eq_true hx,cond_true,Nat.beq_refl,cond_true]
      have hg : (decide (((done ++ [(a,cur)]).length + 1) * 24 ≤ 2 ^ 46) && decide (0 < 24 ∧ 24 ≤ 2 ^ 20)) = true:=by
        rw [decide_eq_true (by simp only [List.length_append,List.length_cons,List.length_nil]; omega)]; rfl
      have hw : IntKind.wrap .i64 (IntKind.wrap .i64 (at0 + (i : Int)) + 1) = a + cur.length + 1:=by
        rw [zl (x:=at0 + (i : Int)) (by omega),zl (by omega)]; omega
      rw [hg,cond_true,hw]
      obtain ⟨v',hv⟩:=ih (done ++ [(a,cur)]) (a + cur.length + 1) [] (v + 1) (i + 1) m t1 (by omega) (by simp; omega) (by omega) (by simp; omega) (by simp)
      refine ⟨v',hv.trans ?_⟩
      have e : done ++ [(a,cur)] ++ curL (a + cur.length + 1) [] (splitL c r) = done ++ curL a cur (splitL c (x :: r)):=by
        rw [splitL,if_pos hx,List.append_assoc]
        congr 1
        cases hq : splitL c r with
        | nil => exact absurd hq (zad c r)
        | cons p q => simp [curL,atL]
      rw [e]
    · rw [decide_eq_false hx,cond_false]
      have hlen : (done ++ [(a,cur)]).length = done.length + 1:=by simp
      have hw : IntKind.wrap .i64 ((((done ++ [(a,cur)]).length : Nat) : Int) - 1) = (done.length : Int):=by
        rw [zl (by omega)]; omega
      have hb : (decide ((0 : Int) ≤ (done.length : Int)) && decide ((done.length : Int) < (((done ++ [(a,cur)]).length : Nat) : Int))) = true:=by
        simp only [Bool.and_eq_true,decide_eq_true_eq]; omega
      have hi2 : idx (done ++ [(a,cur)]) (done.length : Int) = some (a,cur):=by rw [zp]; simp
      have hsub : sub s (i : Int) ((i + 1 : Nat) : Int) = some [x]:=by
        rw [zq s i (i + 1) (by omega) (by omega)]
        have : (s.take (i + 1)).drop i = [x]:=by
          rw [List.drop_take,h1]; simp
        rw [this]
      rw [hw,hb,cond_true,Nat.beq_refl,cond_true,hi2,za,hsub,za,growS (by simp; omega),cond_true,cond_true,za,Int.toNat_natCast,zuv]
      dsimp only
      obtain ⟨v',hv⟩:=ih done a (cur ++ [x]) v (i + 1) m t1 (by omega) (by simp; omega) (by omega) (by omega) (by simp; omega)
      refine ⟨v',?_⟩
      have e : done ++ curL a (cur ++ [x]) (splitL c r) = done ++ curL a cur (splitL c (x :: r)):=by
        rw [splitL,if_neg hx]
        congr 1
        cases hq : splitL c r with
        | nil => exact absurd hq (zad c r)
        | cons p q =>
          simp only [curL,List.append_assoc,List.singleton_append,List.length_append,List.length_cons,List.length_nil]
          congr 2
          omega
      rw [← e,← hv]
      have : (done ++ [(a,cur)]).length = (done ++ [(a,cur ++ [x])]).length:=by simp
      rw [this]
theorem zmk (n : Nat) (hn : 200000 ≤ n) (c : UInt8) (s : List UInt8) (a : Int) (h0 : 0 ≤ a ∧ a ≤ 100000) (hs : s.length ≤ 100000) : F.zac n s (c.toNat : Int) a = some (atL (splitL c s) a):=by
  unfold F.zac
  obtain ⟨v',hv⟩:=zsc n _ (fun (e5_7 : Nat × Nat) (e5_b0_0 e5_b1_0 : Nat × List (Int × List UInt8)) =>
      bif Nat.beq e5_7.1 e5_b1_0.1 then
        some (e5_b1_0.2)
      else
        none) c s a h0 hs (1,[]) s [] a [] 1 0 n rfl (by omega) (by simp) (by omega) (by simp) (by simp)
  refine hv.trans ?_
  rw [Nat.beq_refl,cond_true]
  cases hq : splitL c s with
  | nil => exact absurd hq (zad c s)
  | cons p q => simp [curL,atL]
theorem zpw (n : Nat) (hn : 200000 ≤ n) {t : TagL} (h : TagLOK t) : F.zay n (t.1,t.2,()) = some (tagGood t):=by
  obtain ⟨h1,h2⟩:=h
  unfold F.zay tagGood
  simp only [zes n (by omega) 2 t.1 1 64 rfl (by omega) (by omega) (by omega) (by omega),zes n (by omega) 3 t.2 0 100 rfl (by omega) (by omega) (by omega) (by omega),za,zbs]
  cases ((textF 2 t.1 1 64).1 == 0) <;> cases ((textF 3 t.2 0 100).1 == 0) <;> rfl
theorem zno (n : Nat) (X : Type) (k2 : List UInt8→List TagL→Int→Int→List UInt8→Int→Int→List UInt8→List UInt8→Nat→Option X) (v0 : List UInt8) (v4 : List TagL) (v5 v6 : Int) (p : List UInt8) (hp : p.length ≤ 100000) (b0 b1 : Int) (vk : Nat) : ∀ (k m : Nat) (key val : List UInt8),k ≤ p.length→k < m →
    F.zk.L10 n k2 m v0 v4 v5 v6 p ((k : Int) - 1) b0 b1 key val vk = if (58 : UInt8) ∈ p.take k then k2 v0 v4 v5 v6 p b0 b1 (seg 58 p) (restN 58 p) vk else k2 v0 v4 v5 v6 p b0 b1 key val vk:=by
  intro k
  induction k with
  | zero =>
    intro m key val hk hm
    obtain ⟨m,rfl⟩ : ∃ q,m = q + 1:=⟨m - 1,by omega⟩
    rw [F.zk.L10]
    unfold F.zk.L10.step
    dsimp only
    rw [zf (by omega),if_neg (by simp)]
  | succ k ih =>
    intro m key val hk hm
    obtain ⟨m,rfl⟩ : ∃ q,m = q + 1:=⟨m - 1,by omega⟩
    have hkp : (((k + 1 : Nat) : Int) - 1) = (k : Int):=by omega
    have hw : IntKind.wrap .i64 ((k : Int) - 1) = (k : Int) - 1:=zl (by omega)
    have ht : p.take (k + 1) = p.take k ++ [p[k]]:=by rw [List.take_add_one]; simp [show k < p.length by omega]
    have hb : (((p[k].toNat : Nat) : Int) == 58) = decide (p[k] = 58):=zan p[k] 58
    rw [F.zk.L10]
    unfold F.zk.L10.step
    dsimp only
    rw [hkp,zd (by omega),zb6 (by omega : k < p.length),za,hw,hb,ht]
    by_cases hx : p[k] = 58
    · rw [decide_eq_true hx,cond_true,zj (by omega),show (0 : Int) = ((0 : Nat) : Int) from rfl,zq p 0 k (by omega) (by omega),za,zq p (k + 1) p.length (by omega) (by omega),za,List.drop_zero,List.take_length]
      rw [ih m _ _ (by omega) (by omega),if_pos (List.mem_append.2 (Or.inr (List.mem_singleton.2 hx.symm)))]
      by_cases hin : (58 : UInt8) ∈ p.take k
      · rw [if_pos hin]
      · rw [if_neg hin]
        have hd : p = p.take k ++ 58 :: p.drop (k + 1):=by
          have : p.drop k = 58 :: p.drop (k + 1):=by rw [List.drop_eq_getElem_cons (by omega),hx]
          rw [← this,List.take_append_drop]
        have e1 : seg 58 p = p.take k:=by
          rw [hd]
          have:=zdg hin (p.drop (k + 1))
          rw [this,← hd]
        have e2 : restN 58 p = p.drop (k + 1):=by
          unfold restN
          have hmem : (58 : UInt8) ∈ p:=by rw [hd]; simp
          rw [if_pos hmem,e1,List.length_take,Nat.min_eq_left (by omega)]
        rw [e1,e2]
    · rw [decide_eq_false hx,cond_false,ih m _ _ (by omega) (by omega)]
      by_cases hin : (58 : UInt8) ∈ p.take k
      · rw [if_pos hin,if_pos (List.mem_append.2 (Or.inl hin))]
      · rw [if_neg hin,if_neg (fun h => (List.mem_append.1 h).elim hin (fun h => hx (List.mem_singleton.1 h).symm))]
end Go.AM
set_option linter.unusedVariables false
set_option linter.unusedSimpArgs false
namespace Go.AM
abbrev KR:=List UInt8→Int→List DecL→Int→List TagL→Int→Int→Int→List UInt8→Int→List DecL→Int→List TagL→Int→Int→Int→Int→Int→Int→Int→Nat→Nat→Nat→Option ParseD
abbrev K8:=List UInt8→List (List UInt8)→List UInt8→Int→List DecL→Int→List TagL→Int→Int→Int→List UInt8→Int→List DecL→Int→List TagL→Int→Int→Int→Int→Int→Nat→Nat→Nat→Option ParseD
def badP (e a : Int) : ParseD:=(zeroM,(e,a,()),())
theorem znp (n : Nat) (hn : 200000 ≤ n) (k1 kr : KR) (ps : List (List UInt8)) (hs : sumL ps ≤ 9000)
    (c0 : List UInt8) (c1 : Int) (c2 : List DecL) (c3 : Int) (c4 : List TagL) (c5 d0 d1 : Int) (e0 : List UInt8) (e1 : Int) (e3 : Int) (e4 : List TagL) (e5 e7 f0 f1 : Int) (q0 q1 : Nat)
    (hbad : ∀ acc a l,kr c0 c1 c2 c3 c4 c5 d0 d1 e0 e1 acc e3 e4 e5 0 e7 f0 f1 17 a q0 q1 l = some (badP 17 a)) :
    ∀ (r : List (List UInt8)) (acc : List DecL) (a : Int) (i m : Nat),ps.drop i = r→acc.length ≤ i→i ≤ ps.length→r.length < m→0 ≤ a→a + sumL r ≤ 10000 →
    F.ze.L9_dog_reader_first n k1 kr m a ps (ps.length : Int) (i : Int) c0 c1 c2 c3 c4 c5 d0 d1 e0 e1 acc e3 e4 e5 0 e7 f0 f1 0 0 q0 q1 acc.length = match readVals r acc a with
      | .ok vs => k1 c0 c1 c2 c3 c4 c5 d0 d1 e0 e1 vs e3 e4 e5 0 e7 f0 f1 0 0 q0 q1 vs.length
      | .error b => some (badP 17 b):=by
  intro r
  have hpl:=zav ps
  induction r with
  | nil =>
    intro acc a i m h1 h2 hi hm ha has
    obtain ⟨m,rfl⟩ : ∃ q,m = q + 1:=⟨m - 1,by omega⟩
    rw [F.ze.L9_dog_reader_first]
    unfold F.ze.L9_dog_reader_first.step
    dsimp only
    rw [zf (by have:=zo h1; omega)]
    rfl
  | cons p r ih =>
    intro acc a i m h1 h2 hi hm ha has
    obtain ⟨m,rfl⟩ : ∃ q,m = q + 1:=⟨m - 1,by simp at hm; omega⟩
    obtain ⟨l1,g1,t1⟩:=zn h1
    simp only [List.length_cons] at hm
    simp only [sumL,List.map_cons,List.sum_cons] at has
    have hp:=zb2 (List.mem_of_getElem? g1)
    have hih:=ih (acc ++ [((parseR p).1.1,(parseR p).1.2.1,(parseR p).1.2.2.1)]) (a + p.length + 1) (i + 1) m t1 (by simp; omega) (by omega) (by omega) (by omega) (by simp only [sumL]; omega)
    have hw : IntKind.wrap .i64 (a + IntKind.wrap .i64 ((p.length : Int) + 1)) = a + p.length + 1:=by
      rw [zj (by omega),zl (by omega)]; omega
    have hw0 : IntKind.wrap .i64 (0 + a) = a:=by rw [Int.zero_add,zl (by omega)]
    have hg : (decide ((acc.length + 1) * 24 ≤ 2 ^ 46) && decide (0 < 24 ∧ 24 ≤ 2 ^ 20)) = true:=by rw [decide_eq_true (by omega)]; rfl
    have h64 : ((acc.length : Int) == 64) = decide (acc.length = 64):=by
      by_cases h : acc.length = 64
      · rw [h]; rfl
      · rw [decide_eq_false h,beq_eq_false_iff_ne]; omega
    rw [F.ze.L9_dog_reader_first]
    unfold F.ze.L9_dog_reader_first.step
    dsimp only
    rw [zd (by omega),zp,g1,za,zc7 n hn p (by omega),za,zgw,hw,hw0,zj (by omega),hg,Nat.beq_refl,cond_true,cond_true,h64,readVals]
    by_cases h0 : (parseR p).2.1.1 = 0
    · rw [decide_eq_true h0,Bool.not_true,cond_false]
      by_cases h6 : acc.length = 64
      · rw [decide_eq_true h6,cond_true,if_neg (by simp [h6])]
        exact hbad _ _ _
      · rw [decide_eq_false h6,cond_false,if_pos ⟨h0,h6⟩]
        exact hih
    · rw [decide_eq_false h0,Bool.not_false,cond_true,if_neg (by simp [h0])]
      exact hbad _ _ _
theorem zex (n : Nat) (c x : UInt8) (s : List UInt8) : F.zaj n (x :: s) [c] = some (if x = c then (s,true,()) else (x :: s,false,())):=by
  unfold F.zaj F.zar F.zal
  have h1 : sub (x :: s) 0 (([c] : List UInt8).length : Int) = some [x]:=by
    rw [show (0 : Int) = ((0 : Nat) : Int) from rfl,show (([c] : List UInt8).length : Int) = ((1 : Nat) : Int) from rfl,zq (x :: s) 0 1 (by omega) (by simp)]; rfl
  have h2 : sub (x :: s) (([c] : List UInt8).length : Int) ((x :: s).length : Int) = some s:=by
    rw [show (([c] : List UInt8).length : Int) = ((1 : Nat) : Int) from rfl,zq (x :: s) 1 _ (by simp) (by omega),List.take_length]; rfl
  rw [zd (by simp; omega),h1,h2]
  by_cases h : x = c
  · subst h
    simp
  · rw [if_neg h]
    have : ([x] == [c]) = false:=by simpa using h
    simp [this]
theorem zd0 (n : Nat) (c : UInt8) : F.zaj n [] [c] = some ([],false,()):=rfl
theorem zkr (s : List UInt8) : ((rateR s).2.1.1 == 0 && (rateR s).2.1.2.1 == 0) = decide ((rateR s).2.1.1 = 0):=by
  by_cases h : (rateR s).2.1.1 = 0
  · rw [decide_eq_true h,h,(zhg h).1]; rfl
  · rw [decide_eq_false h,beq_eq_false_iff_ne.2 h]; rfl
theorem zks (s : List UInt8) : ((parseNum s 1 1099511627776).2.1.1 == 0 && (parseNum s 1 1099511627776).2.1.2.1 == 0) = decide ((parseNum s 1 1099511627776).2.1.1 = 0):=by
  by_cases h : (parseNum s 1 1099511627776).2.1.1 = 0
  · rw [decide_eq_true h,h,(zdv h).1]; rfl
  · rw [decide_eq_false h,beq_eq_false_iff_ne.2 h]; rfl
theorem zey : ∀ (r : List (List UInt8)) (acc : List TagL) (a : Int) (l : List TagL),tagsR r acc a = .ok l→l.length = acc.length + r.length
  | [],acc,a,l,h => by cases h; simp
  | p :: r,acc,a,l,h => by
    rw [tagsR] at h
    split at h
    · have:=zey r _ _ _ h
      simp at this ⊢; omega
    · cases h
theorem zui (n : Nat) (hn : 200000 ≤ n) (k0 kr : KR) (p : List UInt8) (hs : p.length ≤ 9000)
    (c0 : List UInt8) (c1 : Int) (c2 : List DecL) (c3 : Int) (c4 : List TagL) (c5 d0 d1 : Int) (e0 : List UInt8) (e1 : Int) (e2 : List DecL) (e3 : Int) (e4 : List TagL) (e5 a last f0 f1 : Int) (q0 q1 q2 : Nat) (ha : 0 ≤ a ∧ a ≤ 100000)
    (hk0 : k0 c0 c1 c2 c3 c4 c5 d0 d1 e0 e1 e2 e3 e4 e5 a last f0 f1 0 0 q0 q1 q2 = some (badP 11 a))
    (hbad : ∀ l e,e ≠ 0→kr c0 c1 c2 c3 c4 c5 d0 d1 e0 e1 e2 e3 e4 e5 a l f0 f1 e a q0 q1 q2 = some (badP e a)) (m : Nat) (hm : 5 ≤ m) :
    F.ze.L2_dog_reader_more n k0 kr m p ([64],(),[35],(),[84],(),()) (0 : Int) c0 c1 c2 c3 c4 c5 d0 d1 e0 e1 e2 e3 e4 e5 a last f0 f1 0 0 q0 q1 q2 = match moreR (e0,e1,e2,e3,e4,e5,()) last p with
      | .error e => some (badP e a)
      | .ok (w,l) => kr c0 c1 c2 c3 c4 c5 d0 d1 w.1 w.2.1 w.2.2.1 w.2.2.2.1 w.2.2.2.2.1 w.2.2.2.2.2.1 a l f0 f1 0 0 q0 q1 q2:=by
  obtain ⟨m,rfl⟩ : ∃ q,m = q + 4:=⟨m - 4,by omega⟩
  have hw0 : IntKind.wrap .i64 (a + 0) = a:=by rw [Int.add_zero,zl (by omega)]
  have w1 : IntKind.wrap .i64 ((0 : Int) + 1) = 1:=rfl
  have w2 : IntKind.wrap .i64 ((1 : Int) + 1) = 2:=rfl
  have w3 : IntKind.wrap .i64 ((2 : Int) + 1) = 3:=rfl
  have b1 : ((1 : Int) == 0) = false:=rfl
  have b2 : ((2 : Int) == 0) = false:=rfl
  have b3 : ((2 : Int) == 1) = false:=rfl
  cases p with
  | nil =>
    rw [moreR]
    rw [F.ze.L2_dog_reader_more]
    unfold F.ze.L2_dog_reader_more.step
    dsimp only
    rw [zd (by omega),beq_self_eq_true,cond_true,zd0,za,Bool.not_false,cond_true,w1,F.ze.L2_dog_reader_more]
    unfold F.ze.L2_dog_reader_more.step
    dsimp only
    rw [zd (by omega),b1,beq_self_eq_true,cond_true,cond_false,zd0,za,Bool.not_false,cond_true,w2,F.ze.L2_dog_reader_more]
    unfold F.ze.L2_dog_reader_more.step
    dsimp only
    rw [zd (by omega),b2,b3,beq_self_eq_true,cond_true,cond_false,cond_false,zd0,za,Bool.not_false,cond_true,w3,F.ze.L2_dog_reader_more]
    unfold F.ze.L2_dog_reader_more.step
    dsimp only
    rw [zf (by omega)]
    exact hk0
  | cons x s =>
    simp only [List.length_cons] at hs
    rw [moreR]
    rw [F.ze.L2_dog_reader_more]
    unfold F.ze.L2_dog_reader_more.step
    dsimp only
    rw [zd (by omega),beq_self_eq_true,cond_true,zex,za,w1,hw0]
    by_cases h64 : x = 64
    · rw [if_pos h64,if_pos h64]
      dsimp only
      rw [Bool.not_true,cond_false,bdec]
      by_cases hl : 0 < last
      · rw [if_pos hl,if_pos hl]; exact hk0
      · rw [if_neg hl,if_neg hl,zki n (by omega) s (by omega) (by omega),za,zkr]
        by_cases h0 : (rateR s).2.1.1 = 0
        · rw [decide_eq_true h0,Bool.not_true,cond_false]
          by_cases h2 : e1 = 2
          · rw [h2,beq_self_eq_true,cond_true]
            by_cases h1 : (rateR s).1 = 1000000
            · rw [h1,beq_self_eq_true,Bool.not_true,cond_false,if_neg (by simp [h0])]
            · rw [beq_eq_false_iff_ne.2 h1,Bool.not_false,cond_true,if_pos (by simp [h1])]
              rw [h2] at hbad
              exact hbad _ _ (by decide)
          · rw [beq_eq_false_iff_ne.2 h2,cond_false,if_neg (by simp [h0,h2])]
        · rw [decide_eq_false h0,Bool.not_false,cond_true,if_pos (by simp [h0])]
          exact hbad _ _ (by decide)
    rw [if_neg h64,if_neg h64]
    dsimp only
    rw [Bool.not_false,cond_true]
    rw [F.ze.L2_dog_reader_more]
    unfold F.ze.L2_dog_reader_more.step
    dsimp only
    rw [zd (by omega),b1,beq_self_eq_true,cond_false,cond_true,zex,za,w2,hw0]
    by_cases h35 : x = 35
    · rw [if_pos h35,if_pos h35]
      dsimp only
      rw [Bool.not_true,cond_false,bdec]
      by_cases hl : 1 < last
      · rw [if_pos hl,if_pos hl]; exact hk0
      · have hsl:=zao 44 s
        have hsn:=zav (splitL 44 s)
        rw [if_neg hl,if_neg hl,zlp n hn s (by omega),za]
        cases hT : tagsR (splitL 44 s) [] 0 with
        | error e =>
          dsimp only
          rw [show ((19 : Int) == 0) = false from rfl,Bool.false_and,Bool.not_false,cond_true]
          exact hbad _ _ (by decide)
        | ok l =>
          have hll:=zey _ _ _ _ hT
          simp only [List.length_nil,Nat.zero_add] at hll
          dsimp only
          rw [beq_self_eq_true,Bool.and_self,Bool.not_true,cond_false,bdec]
          by_cases h32 : 32 < l.length
          · rw [if_pos (by omega),if_pos h32]
            exact hbad _ _ (by decide)
          · rw [if_neg (by omega),if_neg h32,zkp n hn l (by omega),za]
    rw [if_neg h35,if_neg h35]
    dsimp only
    rw [Bool.not_false,cond_true]
    rw [F.ze.L2_dog_reader_more]
    unfold F.ze.L2_dog_reader_more.step
    dsimp only
    rw [zd (by omega),b2,b3,beq_self_eq_true,cond_false,cond_false,cond_true,zex,za,w3,hw0]
    by_cases h84 : x = 84
    · rw [if_pos h84,if_pos h84]
      dsimp only
      rw [Bool.not_true,cond_false,bdec]
      by_cases hl : 2 < last
      · rw [if_pos hl,if_pos hl]; exact hk0
      · rw [if_neg hl,if_neg hl,zmj n s (by omega) (by omega),za,zks]
        by_cases h0 : (parseNum s 1 1099511627776).2.1.1 = 0
        · rw [decide_eq_true h0,Bool.not_true,cond_false,if_neg (by simp [h0])]
        · rw [decide_eq_false h0,Bool.not_false,cond_true,if_pos h0]
          exact hbad _ _ (by decide)
    rw [if_neg h84,if_neg h84]
    dsimp only
    rw [Bool.not_false,cond_true]
    rw [F.ze.L2_dog_reader_more]
    unfold F.ze.L2_dog_reader_more.step
    dsimp only
    rw [zf (by omega)]
    exact hk0
structure K8OK (s : List UInt8) (ps : List (List UInt8)) (k0 : K8) : Prop where
  bad : ∀ c0 c1 c2 c3 c4 c5 d0 d1 e0 e1 e2 e3 e4 e5 e6 e7 e a q0 q1 q2,e ≠ 0→k0 s ps c0 c1 c2 c3 c4 c5 d0 d1 e0 e1 e2 e3 e4 e5 e6 e7 e a q0 q1 q2 = some (badP e a)
  ok : 2 ≤ ps.length→∀ c0 c1 c2 c3 c4 c5 d0 d1 e0 e1 e2 e3 e4 e5 e6 e7 q0 q1 q2,k0 s ps c0 c1 c2 c3 c4 c5 d0 d1 e0 e1 e2 e3 e4 e5 e6 e7 0 0 q0 q1 q2 = some ((e0,e1,e2,e3,e4,e5,()),(0,0,()),())
  one : ps.length < 2→∀ c0 c1 c2 c3 c4 c5 d0 d1 e0 e1 e2 e3 e4 e5 e6 e7 q0 q1 q2,k0 s ps c0 c1 c2 c3 c4 c5 d0 d1 e0 e1 e2 e3 e4 e5 e6 e7 0 0 q0 q1 q2 = some (badP 11 (s.length : Int))
theorem zml {a : Int} (p : List UInt8) (h : 0 ≤ a ∧ a + p.length + 1 ≤ 100000) : IntKind.wrap .i64 (a + IntKind.wrap .i64 ((p.length : Int) + 1)) = a + p.length + 1:=by
  rw [zj (by omega),zl (by omega)]; omega
theorem znq (n : Nat) (hn : 200000 ≤ n) (k0 : K8) (s : List UInt8) (ps : List (List UInt8)) (hs : sumL ps ≤ 9000) (hk : K8OK s ps k0) (h2 : 2 ≤ ps.length)
    (c0 : List UInt8) (c1 : Int) (c2 : List DecL) (c3 : Int) (c4 : List TagL) (c5 d0 d1 : Int) (q0 q1 q2 : Nat) :
    ∀ (r : List (List UInt8)) (a : Int) (w : MetD) (last : Int) (i m : Nat),ps.drop i = r→2 ≤ i→i ≤ ps.length→r.length < m→0 ≤ a→a + sumL r ≤ 10000 →
    F.ze.L8 n k0 m s ps ps (ps.length : Int) (i : Int) c0 c1 c2 c3 c4 c5 d0 d1 w.1 w.2.1 w.2.2.1 w.2.2.2.1 w.2.2.2.2.1 w.2.2.2.2.2.1 a last 0 0 q0 q1 q2 = some (outP (restR r a w last)):=by
  intro r
  have hpl:=zav ps
  induction r with
  | nil =>
    intro a w last i m h1 hi2 hi hm ha has
    obtain ⟨m,rfl⟩ : ∃ q,m = q + 1:=⟨m - 1,by omega⟩
    rw [F.ze.L8]
    unfold F.ze.L8.step
    dsimp only
    rw [zf (by have:=zo h1; omega),restR]
    exact hk.ok h2 _ _ _ _ _ _ _ _ _ _ _ _ _ _ _ _ _ _ _
  | cons p r ih =>
    intro a w last i m h1 hi2 hi hm ha has
    obtain ⟨m,rfl⟩ : ∃ q,m = q + 1:=⟨m - 1,by simp at hm; omega⟩
    obtain ⟨l1,g1,t1⟩:=zn h1
    simp only [List.length_cons] at hm
    simp only [sumL,List.map_cons,List.sum_cons] at has
    have hp:=zb2 (List.mem_of_getElem? g1)
    have hw0 : IntKind.wrap .i64 (a + 0) = a:=by rw [Int.add_zero,zl (by omega)]
    rw [F.ze.L8]
    unfold F.ze.L8.step
    dsimp only
    rw [zd (by omega),zp,g1,za,zf (by omega : ¬ (i : Int) < 2)]
    refine (zui n hn _ _ p (by omega) c0 c1 c2 c3 c4 c5 d0 d1 w.1 w.2.1 w.2.2.1 w.2.2.2.1 w.2.2.2.2.1 w.2.2.2.2.2.1 a last 0 0 q0 q1 q2 (by omega) ?_ ?_ n (by omega)).trans ?_
    · rw [hw0,Bool.false_and,Bool.not_false,cond_true]
      exact hk.bad _ _ _ _ _ _ _ _ _ _ _ _ _ _ _ _ _ _ _ _ _ (by decide)
    · intro l e he
      rw [beq_eq_false_iff_ne.2 he,Bool.false_and,Bool.not_false,cond_true]
      exact hk.bad _ _ _ _ _ _ _ _ _ _ _ _ _ _ _ _ _ _ _ _ _ he
    · have hww : (w.1,w.2.1,w.2.2.1,w.2.2.2.1,w.2.2.2.2.1,w.2.2.2.2.2.1,()) = w:=rfl
      rw [hww,restR]
      cases moreR w last p with
      | error e => rfl
      | ok x =>
        obtain ⟨w',l'⟩:=x
        dsimp only
        rw [zml p (by omega),zj (by omega)]
        exact ih (a + p.length + 1) w' l' (i + 1) m t1 (by omega) (by omega) (by omega) (by omega) (by simp only [sumL]; omega)
theorem nameB (s : List UInt8) : (((textF 1 s 1 200).1 == 0) && ((textF 1 s 1 200).2.1 == 0)) = nameOK s:=zbs 1 s 1 200
theorem zsd (n : Nat) (hn : 200000 ≤ n) (k0 : K8) (s : List UInt8) (ps : List (List UInt8)) (hne : ps ≠ []) (hs : sumL ps ≤ 9000) (hsl : s.length ≤ 9000) (hk : K8OK s ps k0) (c0 : List UInt8) (c1 : Int) (c2 : List DecL) (c3 : Int) (c4 : List TagL) (c5 d0 d1 : Int) (q0 q1 : Nat) :
    F.ze.L8 n k0 n s ps ps (ps.length : Int) (0 : Int) c0 c1 c2 c3 c4 c5 d0 d1 [] 0 [] 1000000 [] 0 0 0 0 0 q0 q1 0 = some (outP (linesR s ps)):=by
  have hpl:=zav ps
  cases ps with
  | nil => exact absurd rfl hne
  | cons p r =>
    obtain ⟨m,hm⟩ : ∃ q,n = q + 2:=⟨n - 2,by omega⟩
    have hp:=zb2 (show p ∈ p :: r by simp)
    have hseg:=z6 58 p
    have hrn:=zdz 58 p
    have hcut : F.zah n p [58] = some (seg 58 p,restN 58 p,decide (58 ∈ p),()):=zbr n 58 (by omega)
    have hw0 : ∀ x : Int,0 ≤ x ∧ x ≤ 100000→IntKind.wrap .i64 (0 + x) = x:=fun x hx => by rw [Int.zero_add,zl (by omega)]
    have key : ∀ m,20001 ≤ m + 1→F.ze.L8 n k0 (m + 1) s (p :: r) (p :: r) ((p :: r).length : Int) (0 : Int) c0 c1 c2 c3 c4 c5 d0 d1 [] 0 [] 1000000 [] 0 0 0 0 0 q0 q1 0 = match firstR p with
        | .error e => some (badP e.1 e.2)
        | .ok x => F.ze.L8 n k0 m s (p :: r) (p :: r) ((p :: r).length : Int) ((1 : Nat) : Int) c0 c1 c2 c3 c4 c5 d0 d1 x.1 0 x.2 1000000 [] 0 ((p.length : Int) + 1) 0 0 0 q0 q1 x.2.length:=by
      intro m hm
      rw [F.ze.L8]
      unfold F.ze.L8.step
      dsimp only
      rw [zd (by simp only [List.length_cons]; omega),show idx (p :: r) 0 = some p from rfl,za,zd (by omega : (0 : Int) < 2),beq_self_eq_true,cond_true,hcut,za]
      dsimp only
      rw [zbk n 1 _ 1 200 (by omega) (by omega),za,nameB]
      unfold firstR
      cases hnm : nameOK (seg 58 p)
      · rw [Bool.not_false,cond_true,if_pos rfl,hw0 0 (by omega),Bool.false_and,Bool.not_false,cond_true]
        exact hk.bad _ _ _ _ _ _ _ _ _ _ _ _ _ _ _ _ _ _ _ _ _ (by decide)
      · rw [Bool.not_true,cond_false,if_neg (by simp)]
        by_cases hin : (58 : UInt8) ∈ p
        · rw [decide_eq_true hin,Bool.not_true,cond_false,if_neg (by simp [hin]),zf9 n 58 (by omega),za]
          have hsum:=zao 58 (restN 58 p)
          have hsn:=zav (splitL 58 (restN 58 p))
          have hrl : (seg 58 p).length + 1 + (restN 58 p).length ≤ p.length:=by
            unfold restN
            rw [if_pos hin,List.length_drop]
            have:=zae hin
            omega
          have hA : IntKind.wrap .i64 (((seg 58 p).length : Int) + 1) = ((seg 58 p).length : Int) + 1:=zl (by omega)
          have hP : IntKind.wrap .i64 ((p.length : Int) + 1) = (p.length : Int) + 1:=zl (by omega)
          rw [hA,hP]
          refine (znp n hn _ _ (splitL 58 (restN 58 p)) (by omega) c0 c1 c2 c3 c4 c5 d0 d1 (seg 58 p) 0 1000000 [] 0 0 0 0 q0 q1 ?_ (splitL 58 (restN 58 p)) [] _ 0 n rfl (by simp) (by omega) (by omega) (by omega) (by omega)).trans ?_
          · intro acc a l
            rw [show ((17 : Int) == 0) = false from rfl,Bool.false_and,Bool.not_false,cond_true]
            exact hk.bad _ _ _ _ _ _ _ _ _ _ _ _ _ _ _ _ _ _ _ _ _ (by decide)
          · cases readVals (splitL 58 (restN 58 p)) [] (((seg 58 p).length : Int) + 1) with
            | error b => rfl
            | ok vs =>
              dsimp only
              rw [Bool.and_self,Bool.not_true,cond_false,hw0 ((p.length : Int) + 1) (by omega)]
              rfl
        · rw [decide_eq_false hin,Bool.not_false,cond_true,if_pos hin,hw0 _ (by omega),Bool.false_and,Bool.not_false,cond_true]
          exact hk.bad _ _ _ _ _ _ _ _ _ _ _ _ _ _ _ _ _ _ _ _ _ (by decide)
    have key2 : ∀ m,20001 ≤ m + 1→∀ nm (vs : List DecL) (a : Int) (l : Nat),a = (p.length : Int) + 1→F.ze.L8 n k0 (m + 1) s (p :: r) (p :: r) ((p :: r).length : Int) ((1 : Nat) : Int) c0 c1 c2 c3 c4 c5 d0 d1 nm 0 vs 1000000 [] 0 a 0 0 0 q0 q1 l = some (outP (secondR s p nm vs r)):=by
      intro m hm nm vs a l hA
      rw [F.ze.L8]
      unfold F.ze.L8.step
      dsimp only
      cases r with
      | nil =>
        rw [zf (by simp),secondR]
        exact hk.one (by simp) _ _ _ _ _ _ _ _ _ _ _ _ _ _ _ _ _ _ _
      | cons q r =>
        have hq:=zb2 (show q ∈ p :: q :: r by simp)
        rw [zd (by simp only [List.length_cons]; omega),show idx (p :: q :: r) ((1 : Nat) : Int) = some q from rfl,za,zd (by omega),show (((1 : Nat) : Int) == 0) = false from rfl,cond_false,show (((1 : Nat) : Int) == 1) = true from rfl,cond_true,zuh n (by omega),za]
        have hwa : IntKind.wrap .i64 (a + 0) = a:=by rw [Int.add_zero,zl (by omega)]
        rw [secondR]
        by_cases h0 : kindR q = 0
        · rw [if_pos h0,if_pos h0]
          dsimp only
          rw [show ((16 : Int) == 0) = false from rfl,Bool.not_false,cond_true,Bool.false_and,Bool.not_false,cond_true,hwa,hA]
          exact hk.bad _ _ _ _ _ _ _ _ _ _ _ _ _ _ _ _ _ _ _ _ _ (by decide)
        · rw [if_neg h0,if_neg h0]
          dsimp only
          rw [beq_self_eq_true,Bool.not_true,cond_false,Bool.and_self,Bool.not_true,cond_false]
          simp only [sumL,List.map_cons,List.sum_cons,List.length_cons] at hs hpl
          rw [zml q (by omega),show IntKind.wrap .i64 (((1 : Nat) : Int) + 1) = ((2 : Nat) : Int) from rfl,hA]
          have:=znq n hn k0 s (p :: q :: r) (by simp only [sumL,List.map_cons,List.sum_cons]; omega) hk (by simp) c0 c1 c2 c3 c4 c5 d0 d1 q0 q1 l r ((p.length : Int) + 1 + (q.length + 1)) (nm,kindR q,vs,1000000,[],0,()) 0 2 m rfl (by omega) (by simp) (by omega) (by omega) (by simp only [sumL]; omega)
          rw [show (p.length : Int) + 1 + (q.length + 1) = (p.length : Int) + 1 + q.length + 1 by omega] at this ⊢
          exact this
    have k1:=key (m + 1) (by omega)
    have k2:=key2 m (by omega)
    have hmm : n = m + 1 + 1:=hm
    rw [linesR]
    have goal : ∀ j,j = m + 1 + 1→F.ze.L8 n k0 j s (p :: r) (p :: r) ((p :: r).length : Int) (0 : Int) c0 c1 c2 c3 c4 c5 d0 d1 [] 0 [] 1000000 [] 0 0 0 0 0 q0 q1 0 = some (outP (match firstR p with
      | .error e => .error e
      | .ok x => secondR s p x.1 x.2 r)):=by
      intro j hj
      rw [hj,k1]
      cases firstR p with
      | error e => rfl
      | ok x => exact k2 x.1 x.2 _ _ rfl
    exact goal n hmm
theorem zse (n : Nat) (hn : 200000 ≤ n) (s : List UInt8) (hs : s.length ≤ 1000000) : F.ze n s = some (parseD s):=by
  unfold F.ze parseD
  rw [bdec]
  by_cases h : 8192 < s.length
  · rw [if_pos (by omega),if_pos h]; rfl
  · rw [if_neg (by omega),if_neg h,zf9 n 124 hs,za]
    have hsum:=zao 124 s
    refine zsd n hn _ s (splitL 124 s) (zad 124 s) (by omega) (by omega) ⟨?_,?_,?_⟩ [] 0 [] 0 [] 0 0 0 0 0
    · intro c0 c1 c2 c3 c4 c5 d0 d1 e0 e1 e2 e3 e4 e5 e6 e7 e a q0 q1 q2 he
      rw [beq_eq_false_iff_ne.2 he,Bool.false_and,cond_false,Bool.not_false,cond_true]
      rfl
    · intro h2 c0 c1 c2 c3 c4 c5 d0 d1 e0 e1 e2 e3 e4 e5 e6 e7 q0 q1 q2
      rw [beq_self_eq_true,Bool.and_self,cond_true,zf (by omega),Bool.not_true,cond_false]
    · intro h2 c0 c1 c2 c3 c4 c5 d0 d1 e0 e1 e2 e3 e4 e5 e6 e7 q0 q1 q2
      rw [beq_self_eq_true,Bool.and_self,cond_true,zd (by omega),Bool.false_and,Bool.not_false,cond_true]
      rfl
end Go.AM
set_option linter.unusedVariables false
set_option linter.unusedSimpArgs false
namespace Go.AM
theorem znr (n : Nat) (hn : 100 ≤ n) (s : List UInt8) : F.zab n s = some (kindR s):=by
  obtain ⟨m,hm⟩ : ∃ q,n = q + 6:=⟨n - 6,by omega⟩
  unfold F.zab
  rw [show F.zbg n = some [[99],[103],[109,115],[104],[100]] from rfl,za]
  have L : ∀ (k0 : Unit→Option Int) (kr : Int→Option Int),F.zab.L3 n k0 kr (m + 6) s [[99],[103],[109,115],[104],[100]] (0 : Int) = if s = [99] then kr 1 else if s = [103] then kr 2 else if s = [109,115] then kr 3 else if s = [104] then kr 4 else if s = [100] then kr 5 else k0 ():=by
    intro k0 kr
    have e1 : ([99] == s) = decide (s = [99]):=by by_cases h : s = [99] <;> simp [h]; exact fun h' => h h'.symm
    have e2 : ([103] == s) = decide (s = [103]):=by by_cases h : s = [103] <;> simp [h]; exact fun h' => h h'.symm
    have e3 : ([109,115] == s) = decide (s = [109,115]):=by by_cases h : s = [109,115] <;> simp [h]; exact fun h' => h h'.symm
    have e4 : ([104] == s) = decide (s = [104]):=by by_cases h : s = [104] <;> simp [h]; exact fun h' => h h'.symm
    have e5 : ([100] == s) = decide (s = [100]):=by by_cases h : s = [100] <;> simp [h]; exact fun h' => h h'.symm
    show (bif [99] == s then kr 1 else bif [103] == s then kr 2 else bif [109,115] == s then kr 3 else bif [104] == s then kr 4 else bif [100] == s then kr 5 else k0 ()) = _
    rw [e1,e2,e3,e4,e5]
    simp only [bdec]
  rw [hm] at L ⊢
  refine (L _ _).trans ?_
  unfold kindR
  repeat' split
  all_goals rfl
end Go.AM
set_option linter.unusedVariables false
set_option linter.unusedSimpArgs false
namespace Go.AM
theorem zga {c : UInt8} {s : List UInt8} (h : c ∉ s) : seg c s = s ∧ restN c s = []:=⟨zaj h,by unfold restN; rw [if_neg h]⟩
theorem zsf (p : List UInt8) : (oneT (seg 58 p,restN 58 p) == p) = decide (¬ (58 ∈ p ∧ restN 58 p = [])):=by
  by_cases hin : (58 : UInt8) ∈ p
  · by_cases h0 : restN 58 p = []
    · rw [decide_eq_false (by simp [hin,h0]),beq_eq_false_iff_ne]
      unfold oneT
      rw [if_pos h0]
      intro h
      have:=zae hin
      have h : seg 58 p = p:=h
      rw [h] at this
      omega
    · rw [decide_eq_true (by simp [h0])]
      unfold oneT
      rw [if_neg h0]
      have h1:=zbd hin
      have h2 : restN 58 p = p.drop ((seg 58 p).length + 1):=by unfold restN; rw [if_pos hin]
      rw [← h2] at h1
      have : seg 58 p ++ ([58] ++ restN 58 p) = p:=h1.symm
      rw [this,beq_self_eq_true]
  · obtain ⟨h1,h2⟩:=zga hin
    rw [decide_eq_true (by simp [hin])]
    unfold oneT
    rw [h1,h2,if_pos rfl,beq_self_eq_true]
theorem zim (n : Nat) (hn : 200000 ≤ n) (X : Type) (rec : List UInt8→List TagL→Int→Int→Int→Int→Nat→Option X) (kr : List TagL→Int→Int→Nat→Option X) (v0 : List UInt8) (out : List TagL) (ho : out.length ≤ 100000) (v5 : Int) (i : Nat) (hi : i ≤ 100000) (p : List UInt8) (hp : p.length ≤ 9000) (b0 b1 : Int) :
    F.zk.L10 n
              (fun e6_0 e6_4 e6_5 e6_6 e6_7 e6_b0_0 e6_b0_1 e6_b1_0 e6_b1_1 e6_k0 =>
                (F.zay n (e6_b1_0,e6_b1_1,())).bind fun y7 =>
                  bif !y7 then
                    kr [] (19 : Int) e6_5 0
                  else
                    (F.za1 n (e6_b1_0,e6_b1_1,())).bind fun y8 =>
                      bif !(y8 == e6_7) then
                        kr [] (19 : Int) e6_5 0
                      else
                      bif decide ((e6_4.length + 1) * 32 ≤ 2 ^ 46) && decide (0 < 32 ∧ 32 ≤ 2 ^ 20) then
                        bif Nat.beq e6_k0 e6_4.length then
                          rec e6_0 (e6_4 ++ ([(e6_b1_0,e6_b1_1)])) (IntKind.wrap .i64 (e6_6 + (1 : Int))) (IntKind.wrap .i64 (e6_6 + (1 : Int))) e6_b0_0 e6_b0_1 ((e6_4 ++ ([(e6_b1_0,e6_b1_1)])).length)
                        else
                          none
                      else
                        none) n v0 out v5 (i : Int) p (IntKind.wrap .i64 ((p.length : Int) - (1 : Int))) b0 b1 p [] out.length
    = if tagGood (seg 58 p,restN 58 p) = true ∧ ¬ (58 ∈ p ∧ restN 58 p = []) then rec v0 (out ++ [(seg 58 p,restN 58 p)]) ((i : Int) + 1) ((i + 1 : Nat) : Int) b0 b1 (out ++ [(seg 58 p,restN 58 p)]).length else kr [] 19 v5 0:=by
  have hw : IntKind.wrap .i64 ((p.length : Int) - 1) = (p.length : Int) - 1:=zl (by omega)
  have hsl:=z6 58 p
  have hrl:=zdz 58 p
  rw [hw]
  refine (zno n X _ v0 out v5 (i : Int) p (by omega) b0 b1 out.length p.length n p [] (by omega) (by omega)).trans ?_
  have body : (F.zay n (seg 58 p,restN 58 p,())).bind (fun y7 =>
                  bif !y7 then
                    kr [] (19 : Int) v5 0
                  else
                    (F.za1 n (seg 58 p,restN 58 p,())).bind fun y8 =>
                      bif !(y8 == p) then
                        kr [] (19 : Int) v5 0
                      else
                      bif decide ((out.length + 1) * 32 ≤ 2 ^ 46) && decide (0 < 32 ∧ 32 ≤ 2 ^ 20) then
                        bif Nat.beq out.length out.length then
                          rec v0 (out ++ ([(seg 58 p,restN 58 p)])) (IntKind.wrap .i64 ((i : Int) + (1 : Int))) (IntKind.wrap .i64 ((i : Int) + (1 : Int))) b0 b1 ((out ++ ([(seg 58 p,restN 58 p)])).length)
                        else
                          none
                      else
                        none) = if tagGood (seg 58 p,restN 58 p) = true ∧ ¬ (58 ∈ p ∧ restN 58 p = []) then rec v0 (out ++ [(seg 58 p,restN 58 p)]) ((i : Int) + 1) ((i + 1 : Nat) : Int) b0 b1 (out ++ [(seg 58 p,restN 58 p)]).length else kr [] 19 v5 0:=by
    have hr:=zpw n hn (t:=(seg 58 p,restN 58 p)) ⟨by show (seg 58 p).length ≤ 10000; omega,by show (restN 58 p).length ≤ 10000; omega⟩
    dsimp only at hr
    rw [hr,za]
    cases hg : tagGood (seg 58 p,restN 58 p)
    · rw [if_neg (by simp)]; rfl
    · have ho1:=zug n (t:=(seg 58 p,restN 58 p)) (zce hg)
      dsimp only at ho1
      rw [Bool.not_true,cond_false,ho1,za,zsf]
      by_cases hc : ¬ (58 ∈ p ∧ restN 58 p = [])
      · rw [decide_eq_true hc,Bool.not_true,cond_false,zbe (by omega),Nat.beq_refl,cond_true,if_pos ⟨rfl,hc⟩,zj (by omega)]
        have : ((i + 1 : Nat) : Int) = (i : Int) + 1:=by omega
        rw [this]
      · rw [decide_eq_false hc,Bool.not_false,cond_true,if_neg (fun h => hc h.2)]
  rw [List.take_length]
  by_cases hin : (58 : UInt8) ∈ p
  · rw [if_pos hin]
    exact body
  · rw [if_neg hin]
    obtain ⟨h1,h2⟩:=zga hin
    rw [h1,h2] at body ⊢
    exact body
def addL (cur : List UInt8) : List (List UInt8)→List (List UInt8)
  | [] => []
  | p :: q => (cur ++ p) :: q
theorem ziy (n : Nat) (hn : 200000 ≤ n) (X : Type) (k0 kr : List TagL→Int→Int→Nat→Option X) (s : List UInt8) (hs : s.length ≤ 9000) (b0 b1 : Int) : ∀ (r cur : List UInt8) (out : List TagL) (fr i m : Nat),s.drop i = r→i ≤ s.length→s.drop fr = cur ++ r→i = fr + cur.length→out.length ≤ i→r.length + 1 < m →
    F.zk.L4 n k0 kr m s out (fr : Int) (i : Int) b0 b1 out.length = match tagsR (addL cur (splitL 44 r)) out (fr : Int) with
      | .ok l => k0 l b0 b1 l.length
      | .error e => kr [] 19 e 0:=by
  intro r
  induction r with
  | nil =>
    intro cur out fr i m h1 hi h2 h3 ho hm
    obtain ⟨m,rfl⟩ : ∃ q,m = q + 2:=⟨m - 2,by simp at hm; omega⟩
    have hil : s.length = i:=by have:=zo h1; omega
    have hsub : sub s (fr : Int) (i : Int) = some cur:=by
      rw [zq s fr i (by omega) (by omega),List.drop_take,h2,h3,List.append_nil]
      rw [List.take_of_length_le (by omega)]
    rw [F.zk.L4]
    unfold F.zk.L4.step
    dsimp only
    rw [zd (by omega),zf (by omega),hsub,za]
    refine (zim n hn X _ kr s out (by omega) (fr : Int) i (by omega) cur (by omega) b0 b1).trans ?_
    simp only [splitL,addL,List.append_nil]
    rw [tagsR]
    split
    · rw [F.zk.L4]
      unfold F.zk.L4.step
      dsimp only
      rw [zf (by omega),tagsR]
    · rfl
  | cons x r ih =>
    intro cur out fr i m h1 hi h2 h3 ho hm
    obtain ⟨m,rfl⟩ : ∃ q,m = q + 1:=⟨m - 1,by simp at hm; omega⟩
    obtain ⟨l1,g1,t1⟩:=zn h1
    simp only [List.length_cons] at hm
    have hsub : sub s (fr : Int) (i : Int) = some cur:=by
      rw [zq s fr i (by omega) (by omega),List.drop_take,h2,h3]
      rw [show fr + cur.length - fr = cur.length by omega,List.take_append_of_le_length (by omega),List.take_length]
    have hb : (((x.toNat : Nat) : Int) == 44) = decide (x = 44):=zan x 44
    rw [F.zk.L4]
    unfold F.zk.L4.step
    dsimp only
    rw [zd (by omega),zd (by omega),zp,g1,za,hb]
    by_cases hx : x = 44
    · rw [decide_eq_true hx,Bool.not_true,cond_false,hsub,za]
      refine (zim n hn X _ kr s out (by omega) (fr : Int) i (by omega) cur (by omega) b0 b1).trans ?_
      rw [splitL,if_pos hx]
      simp only [addL,List.append_nil]
      rw [tagsR]
      split
      · have hih:=ih [] (out ++ [(seg 58 cur,restN 58 cur)]) (i + 1) (i + 1) m t1 (by omega) (by rw [t1]; rfl) (by simp) (by simp; omega) (by omega)
        have e1 : ((i + 1 : Nat) : Int) = (i : Int) + 1:=by omega
        have e2 : (fr : Int) + (cur.length : Int) + 1 = (i : Int) + 1:=by omega
        have e3 : addL [] (splitL 44 r) = splitL 44 r:=by cases splitL 44 r <;> rfl
        rw [e3] at hih
        rw [e2,← e1]
        exact hih
      · rfl
    · rw [decide_eq_false hx,Bool.not_false,cond_true,zj (by omega)]
      have hih:=ih (cur ++ [x]) out fr (i + 1) m t1 (by omega) (by rw [h2]; simp) (by simp; omega) (by omega) (by omega)
      have e : addL (cur ++ [x]) (splitL 44 r) = addL cur (splitL 44 (x :: r)):=by
        rw [splitL,if_neg hx]
        cases hq : splitL 44 r with
        | nil => exact absurd hq (zad 44 r)
        | cons p q => simp [addL]
      rw [e] at hih
      exact hih
theorem zsg (n : Nat) (hn : 200000 ≤ n) (s : List UInt8) (hs : s.length ≤ 9000) : F.zk n s = some (match tagsR (splitL 44 s) [] 0 with | .ok l => (l,(0,0,()),()) | .error e => ([],(19,e,()),())):=by
  unfold F.zk
  refine (ziy n hn _ _ _ s hs 0 0 s [] [] 0 0 n rfl (by omega) rfl rfl (by simp) (by omega)).trans ?_
  have e3 : addL [] (splitL 44 s) = splitL 44 s:=by cases splitL 44 s <;> rfl
  rw [e3]
  show (match tagsR (splitL 44 s) [] 0 with | .ok l => _ | .error e => _) = _
  cases tagsR (splitL 44 s) [] 0 <;> rfl
end Go.AM
set_option linter.unusedVariables false
set_option linter.unusedSimpArgs false
namespace Go.AM
abbrev K31:=List UInt8→Int→List DecL→Int→List TagL→Int→Int→Int→List UInt8→Int→List DecL→Int→List TagL→Int→List UInt8→Int→List DecL→Int→List TagL→Int→Int→List UInt8→Int→Int→Int→Int→Nat→Nat→Nat→Nat→Nat→Option ParseD
abbrev K29:=List UInt8→Int→List DecL→Int→List TagL→Int→Int→Int→List UInt8→Int→List DecL→Int→List TagL→Int→List UInt8→Int→List DecL→Int→List TagL→Int→Int→List UInt8→Int→Int→Int→Int→Nat→Nat→Nat→Option ParseD
abbrev K30:=List UInt8→Int→List DecL→Int→List TagL→Int→Int→Int→List UInt8→Int→List DecL→Int→List TagL→Int→List UInt8→Int→List DecL→Int→List TagL→Int→Int→List UInt8→Int→Int→Nat→Nat→Nat→Nat→Nat→Nat→Option ParseD
structure K16OK (k0 : K31) (kr : K29) : Prop where
  bad : ∀ e a w0 w1 w2 w3 w4 w5 g0 g1 n0 n1 j0 j1 q0 q1 q2,e ≠ 0→kr [] 0 [] 0 [] 0 e a [] 0 [] 0 [] 0 w0 w1 w2 w3 w4 w5 g0 g1 n0 n1 j0 j1 q0 q1 q2 = some (badP e a)
  ok : ∀ c0 c1 c2 c3 c4 c5 d0 d1 w0 w1 w2 w3 w4 w5 g0 g1 n0 n1 j0 j1 q0 q1 q2 q3 q4,k0 c0 c1 c2 c3 c4 c5 d0 d1 [] 0 [] 0 [] 0 w0 w1 w2 w3 w4 w5 g0 g1 n0 n1 j0 j1 q0 q1 q2 q3 q4 = some ((w0,w1,w2,w3,w4,w5,()),(0,0,()),())
theorem zd1 : ∀ (r : List (List UInt8)) (acc : List TagL) (a : Int) (l : List TagL),tagsR r acc a = .ok l→(∀ t ∈ acc,tagGood t = true)→∀ t ∈ l,tagGood t = true
  | [],acc,a,l,h,hg => by cases h; exact hg
  | p :: r,acc,a,l,h,hg => by
    rw [tagsR] at h
    split at h
    · rename_i hc
      refine zd1 r _ _ _ h (fun t ht => ?_)
      rcases List.mem_append.1 ht with ht | ht
      · exact hg t ht
      · rw [List.mem_singleton.1 ht]; exact hc.1
    · cases h
theorem zmm {t : TagL} (h : TagS t) : TagLOK t:=⟨by have:=h.1; omega,by have:=h.2; omega⟩
theorem zal (n : Nat) (k0 : K31) (kr : K29) (hk : K16OK k0 kr) (kn : List (Int × List UInt8)→Int→Int→List UInt8→Int→List DecL→Int→List TagL→Int→Int→Int→List UInt8→Int→List DecL→Int→List TagL→Int→List UInt8→Int→List DecL→Int→List TagL→Int→Int→List UInt8→Int→Int→Int→Int→Nat→Nat→Nat→Nat→Nat→Option ParseD) (v5 : List (Int × List UInt8)) (last : Int) (i : Nat) (turn e a : Int) (p : List UInt8) (hi : v5[i]? = some (a,p)) (c0 : List UInt8) (c1 : Int) (c2 : List DecL) (c3 : Int) (c4 : List TagL) (c5 d0 d1 : Int) (w0 : List UInt8) (w1 : Int) (w2 : List DecL) (w3 : Int) (w4 : List TagL) (w5 : Int) (g0 : Int) (g1 : List UInt8) (n0 n1 : Int) (j0 j1 : Int) (q0 q1 q2 q3 q4 : Nat) :
    F.zb.C19 n kr kn v5 last (i : Int) turn e c0 c1 c2 c3 c4 c5 d0 d1 [] 0 [] 0 [] 0 w0 w1 w2 w3 w4 w5 g0 g1 n0 n1 j0 j1 q0 q1 q2 q3 q4 = if turn ≤ last then some (badP 11 a) else if e ≠ 0 then some (badP e a) else kn v5 turn (i : Int) c0 c1 c2 c3 c4 c5 d0 d1 [] 0 [] 0 [] 0 w0 w1 w2 w3 w4 w5 g0 g1 n0 n1 j0 j1 q0 q1 q2 q3 q4:=by
  unfold F.zb.C19
  rw [zp,hi]
  by_cases h1 : turn ≤ last
  · rw [zd h1,if_pos h1,za]
    exact hk.bad _ _ _ _ _ _ _ _ _ _ _ _ _ _ _ _ _ (by decide)
  · rw [zf h1,if_neg h1]
    by_cases h2 : e = 0
    · rw [h2,beq_self_eq_true,Bool.not_true,cond_false,if_neg (by simp)]
    · rw [beq_eq_false_iff_ne.2 h2,Bool.not_false,cond_true,if_pos h2,za]
      exact hk.bad _ _ _ _ _ _ _ _ _ _ _ _ _ _ _ _ _ h2
theorem zkt (n : Nat) (hn : 200000 ≤ n) (k0 : K31) (kr : K29) (hk : K16OK k0 kr) (v5 : List (Int × List UInt8)) (hv : v5.length ≤ 10000) (c0 : List UInt8) (c1 : Int) (c2 : List DecL) (c3 : Int) (c4 : List TagL) (c5 d0 d1 : Int) (g0 : Int) (g1 : List UInt8) (n0 n1 : Int) (j0 j1 : Int) (q0 q1 q2 q3 q4 : Nat) :
    ∀ (r : List (List UInt8)) (a : Int) (w : MetD) (last : Int) (i m : Nat),v5.drop i = atL r a→i ≤ v5.length→r.length < m→0 ≤ last→sumL r ≤ 9000 →
    F.zb.L16 n k0 kr m v5 last (i : Int) c0 c1 c2 c3 c4 c5 d0 d1 [] 0 [] 0 [] 0 w.1 w.2.1 w.2.2.1 w.2.2.2.1 w.2.2.2.2.1 w.2.2.2.2.2.1 g0 g1 n0 n1 j0 j1 q0 q1 q2 q3 q4 = some (outP (restR r a w last)):=by
  intro r
  induction r with
  | nil =>
    intro a w last i m h1 hi hm hl hs
    obtain ⟨m,rfl⟩ : ∃ q,m = q + 1:=⟨m - 1,by omega⟩
    rw [atL] at h1
    rw [F.zb.L16]
    unfold F.zb.L16.step
    dsimp only
    rw [zf (by have:=zo h1; omega),restR]
    exact hk.ok _ _ _ _ _ _ _ _ _ _ _ _ _ _ _ _ _ _ _ _ _ _ _ _ _
  | cons p r ih =>
    intro a w last i m h1 hi hm hl hs
    obtain ⟨m,rfl⟩ : ∃ q,m = q + 1:=⟨m - 1,by simp at hm; omega⟩
    rw [atL] at h1
    obtain ⟨l1,gg,t1⟩:=zn h1
    simp only [List.length_cons] at hm
    simp only [sumL,List.map_cons,List.sum_cons] at hs
    have next : ∀ (w' : MetD) (last' : Int),0 ≤ last'→F.zb.L16 n k0 kr m v5 last' ((i + 1 : Nat) : Int) c0 c1 c2 c3 c4 c5 d0 d1 [] 0 [] 0 [] 0 w'.1 w'.2.1 w'.2.2.1 w'.2.2.2.1 w'.2.2.2.2.1 w'.2.2.2.2.2.1 g0 g1 n0 n1 j0 j1 q0 q1 q2 q3 q4 = some (outP (restR r (a + p.length + 1) w' last')):=fun w' last' hl' => ih _ w' last' (i + 1) m t1 (by omega) (by omega) hl' (by simp only [sumL]; omega)
    have hw : IntKind.wrap .i64 ((i : Int) + 1) = ((i + 1 : Nat) : Int):=zj (by omega)
    have hww : (w.1,w.2.1,w.2.2.1,w.2.2.2.1,w.2.2.2.2.1,w.2.2.2.2.2.1,()) = w:=rfl
    rw [F.zb.L16]
    unfold F.zb.L16.step
    dsimp only
    rw [zd (by omega),zp,gg,za,restR]
    dsimp only
    cases p with
    | nil =>
      rw [beq_self_eq_true,cond_true,moreR]
      refine (zal n k0 kr hk _ v5 last i 0 11 a [] gg _ _ _ _ _ _ _ _ _ _ _ _ _ _ _ _ _ _ _ _ _ _ _ _ _).trans ?_
      rw [if_pos hl]; rfl
    | cons x s =>
      have hsub : sub (x :: s) 1 ((x :: s).length : Int) = some s:=by
        rw [show (1 : Int) = ((1 : Nat) : Int) from rfl,zq (x :: s) 1 _ (by simp) (by omega),List.take_length]; rfl
      have b64 : (((x.toNat : Nat) : Int) == 64) = decide (x = 64):=zan x 64
      have b35 : (((x.toNat : Nat) : Int) == 35) = decide (x = 35):=zan x 35
      have b84 : (((x.toNat : Nat) : Int) == 84) = decide (x = 84):=zan x 84
      simp only [List.length_cons] at hs
      rw [show ((x :: s) == ([] : List UInt8)) = false from rfl,cond_false,hsub,za,show idx (x :: s) 0 = some x from rfl,za,b64,b35,b84,moreR]
      by_cases h64 : x = 64
      · rw [decide_eq_true h64,cond_true,if_pos h64,zkk n (by omega) s (by omega) (by omega),za,zkr]
        by_cases hl1 : 0 < last
        · rw [if_pos hl1]
          have hle : (1 : Int) ≤ last:=by omega
          cases decide ((rateR s).2.1.1 = 0)
          · rw [Bool.not_false,cond_true]
            refine (zal n k0 kr hk _ v5 last i 1 18 a _ gg _ _ _ _ _ _ _ _ _ _ _ _ _ _ _ _ _ _ _ _ _ _ _ _ _).trans ?_
            rw [if_pos hle]; rfl
          · rw [Bool.not_true,cond_false]
            cases (w.2.1 == 2)
            · rw [cond_false]
              refine (zal n k0 kr hk _ v5 last i 1 0 a _ gg _ _ _ _ _ _ _ _ _ _ _ _ _ _ _ _ _ _ _ _ _ _ _ _ _).trans ?_
              rw [if_pos hle]; rfl
            · rw [cond_true]
              cases ((rateR s).1 == 1000000)
              · rw [Bool.not_false,cond_true]
                refine (zal n k0 kr hk _ v5 last i 1 18 a _ gg _ _ _ _ _ _ _ _ _ _ _ _ _ _ _ _ _ _ _ _ _ _ _ _ _).trans ?_
                rw [if_pos hle]; rfl
              · rw [Bool.not_true,cond_false]
                refine (zal n k0 kr hk _ v5 last i 1 0 a _ gg _ _ _ _ _ _ _ _ _ _ _ _ _ _ _ _ _ _ _ _ _ _ _ _ _).trans ?_
                rw [if_pos hle]; rfl
        · have hle : ¬ (1 : Int) ≤ last:=by omega
          rw [if_neg hl1]
          have good : F.zb.C19 n kr (fun e20_5 e20_8 e20_9 b0_0 b0_1 b0_2 b0_3 b0_4 b0_5 b1_0 b1_1 b2_0 b2_1 b2_2 b2_3 b2_4 b2_5 b3_0 b3_1 b3_2 b3_3 b3_4 b3_5 b4_0 b4_1 b5_0 b5_1 b6_0 b6_1 y0 y1 y2 y3 y4 => F.zb.L16 n k0 kr m e20_5 e20_8 (IntKind.wrap .i64 (e20_9 + (1 : Int))) b0_0 b0_1 b0_2 b0_3 b0_4 b0_5 b1_0 b1_1 b2_0 b2_1 b2_2 b2_3 b2_4 b2_5 b3_0 b3_1 b3_2 b3_3 b3_4 b3_5 b4_0 b4_1 b5_0 b5_1 b6_0 b6_1 y0 y1 y2 y3 y4) v5 last (i : Int) 1 0 c0 c1 c2 c3 c4 c5 d0 d1 [] 0 [] 0 [] 0 w.1 w.2.1 w.2.2.1 (rateR s).1 w.2.2.2.2.1 w.2.2.2.2.2.1 g0 g1 n0 n1 j0 j1 q0 q1 q2 q3 q4 = some (outP (restR r (a + (x :: s).length + 1) (w.1,w.2.1,w.2.2.1,(rateR s).1,w.2.2.2.2.1,w.2.2.2.2.2.1,()) 1)):=by
            refine (zal n k0 kr hk _ v5 last i 1 0 a _ gg _ _ _ _ _ _ _ _ _ _ _ _ _ _ _ _ _ _ _ _ _ _ _ _ _).trans ?_
            rw [if_neg hle,if_neg (by simp),hw]
            exact next (w.1,w.2.1,w.2.2.1,(rateR s).1,w.2.2.2.2.1,w.2.2.2.2.2.1,()) 1 (by omega)
          by_cases h0 : (rateR s).2.1.1 = 0
          · rw [decide_eq_true h0,Bool.not_true,cond_false]
            by_cases h2 : w.2.1 = 2
            · rw [h2,beq_self_eq_true,cond_true]
              by_cases h1 : (rateR s).1 = 1000000
              · rw [h1,beq_self_eq_true,Bool.not_true,cond_false,if_neg (by simp [h0])]
                rw [h1,h2] at good
                exact good
              · rw [beq_eq_false_iff_ne.2 h1,Bool.not_false,cond_true,if_pos (by simp [h1])]
                refine (zal n k0 kr hk _ v5 last i 1 18 a _ gg _ _ _ _ _ _ _ _ _ _ _ _ _ _ _ _ _ _ _ _ _ _ _ _ _).trans ?_
                rw [if_neg hle,if_pos (by decide)]; rfl
            · rw [beq_eq_false_iff_ne.2 h2,cond_false,if_neg (by simp [h0,h2])]
              exact good
          · rw [decide_eq_false h0,Bool.not_false,cond_true,if_pos (by simp [h0])]
            refine (zal n k0 kr hk _ v5 last i 1 18 a _ gg _ _ _ _ _ _ _ _ _ _ _ _ _ _ _ _ _ _ _ _ _ _ _ _ _).trans ?_
            rw [if_neg hle,if_pos (by decide)]; rfl
      rw [decide_eq_false h64,cond_false,if_neg h64]
      by_cases h35 : x = 35
      · have hsl:=zao 44 s
        have hsn:=zav (splitL 44 s)
        rw [decide_eq_true h35,cond_true,if_pos h35,zsg n hn s (by omega),za]
        cases hT : tagsR (splitL 44 s) [] 0 with
        | error e =>
          dsimp only
          have hnn : F.zh n [] = some (normT []):=zew n hn [] (by simp) (fun t ht => by cases ht)
          rw [hnn,za,show ((19 : Int) == 0) = false from rfl,Bool.false_and,Bool.not_false,cond_true]
          refine (zal n k0 kr hk _ v5 last i 2 19 a _ gg _ _ _ _ _ _ _ _ _ _ _ _ _ _ _ _ _ _ _ _ _ _ _ _ _).trans ?_
          by_cases hl1 : 1 < last
          · rw [if_pos hl1,if_pos (by omega)]; rfl
          · rw [if_neg hl1,if_neg (by omega),if_pos (by decide)]; rfl
        | ok l =>
          have hll:=zey _ _ _ _ hT
          have hgd:=zd1 _ _ _ _ hT (fun t ht => by cases ht)
          simp only [List.length_nil,Nat.zero_add] at hll
          dsimp only
          have hnn : F.zh n l = some (normT l):=zew n hn l (by omega) (fun t ht => zmm (zce (hgd t ht)))
          rw [hnn,za,beq_self_eq_true,Bool.and_self,Bool.not_true,cond_false,bdec]
          by_cases h32 : 32 < l.length
          · rw [if_pos (by omega),if_pos h32]
            refine (zal n k0 kr hk _ v5 last i 2 19 a _ gg _ _ _ _ _ _ _ _ _ _ _ _ _ _ _ _ _ _ _ _ _ _ _ _ _).trans ?_
            by_cases hl1 : 1 < last
            · rw [if_pos hl1,if_pos (by omega)]; rfl
            · rw [if_neg hl1,if_neg (by omega),if_pos (by decide)]; rfl
          · rw [if_neg (by omega),if_neg h32]
            refine (zal n k0 kr hk _ v5 last i 2 0 a _ gg _ _ _ _ _ _ _ _ _ _ _ _ _ _ _ _ _ _ _ _ _ _ _ _ _).trans ?_
            by_cases hl1 : 1 < last
            · rw [if_pos hl1,if_pos (by omega)]; rfl
            · rw [if_neg hl1,if_neg (by omega),if_neg (by simp),hw]
              exact next (w.1,w.2.1,w.2.2.1,w.2.2.2.1,normT l,w.2.2.2.2.2.1,()) 2 (by omega)
      rw [decide_eq_false h35,cond_false,if_neg h35]
      by_cases h84 : x = 84
      · have htm : F.zax n s = some (parseNum s 1 1099511627776):=by
          unfold F.zax
          rw [zih n (by omega) s 1 1099511627776 (by omega) (by omega)]; rfl
        rw [decide_eq_true h84,cond_true,if_pos h84,htm,za,zks]
        by_cases h0 : (parseNum s 1 1099511627776).2.1.1 = 0
        · rw [decide_eq_true h0,Bool.not_true,cond_false]
          refine (zal n k0 kr hk _ v5 last i 3 0 a _ gg _ _ _ _ _ _ _ _ _ _ _ _ _ _ _ _ _ _ _ _ _ _ _ _ _).trans ?_
          by_cases hl1 : 2 < last
          · rw [if_pos hl1,if_pos (by omega)]; rfl
          · rw [if_neg hl1,if_neg (by omega),if_neg (by simp),if_neg (by simp [h0]),hw]
            exact next (w.1,w.2.1,w.2.2.1,w.2.2.2.1,w.2.2.2.2.1,(parseNum s 1 1099511627776).1,()) 3 (by omega)
        · rw [decide_eq_false h0,Bool.not_false,cond_true]
          refine (zal n k0 kr hk _ v5 last i 3 20 a _ gg _ _ _ _ _ _ _ _ _ _ _ _ _ _ _ _ _ _ _ _ _ _ _ _ _).trans ?_
          by_cases hl1 : 2 < last
          · rw [if_pos hl1,if_pos (by omega)]; rfl
          · rw [if_neg hl1,if_neg (by omega),if_pos (by decide),if_pos h0]; rfl
      rw [decide_eq_false h84,cond_false,if_neg h84]
      refine (zal n k0 kr hk _ v5 last i 0 11 a _ gg _ _ _ _ _ _ _ _ _ _ _ _ _ _ _ _ _ _ _ _ _ _ _ _ _).trans ?_
      rw [if_pos hl]; rfl
end Go.AM
set_option linter.unusedVariables false
set_option linter.unusedSimpArgs false
namespace Go.AM
theorem zku (n : Nat) (s : List UInt8) (ps : List (Int × List UInt8)) (c0 : List UInt8) (c1 : Int) (c2 : List DecL) (c3 : Int) (c4 : List TagL) (c5 d0 d1 : Int) (w0 : List UInt8) (w1 : Int) (w2 : List DecL) (w3 : Int) (w4 : List TagL) (w5 g0 : Int) (g1 : List UInt8) (n0 n1 e a : Int) (he : e ≠ 0) (q0 q1 q2 q3 q4 q5 : Nat) :
    F.zb.C7 n (fun b0_0 b0_1 b0_2 b0_3 b0_4 b0_5 b1_0 b1_1 k0 => some (((b0_0,b0_1,b0_2,b0_3,b0_4,b0_5,()),(b1_0,b1_1,()),()))) s ps c0 c1 c2 c3 c4 c5 d0 d1 [] 0 [] 0 [] 0 w0 w1 w2 w3 w4 w5 g0 g1 n0 n1 e a q0 q1 q2 q3 q4 q5 = some (badP e a):=by
  unfold F.zb.C7
  rw [beq_eq_false_iff_ne.2 he,Bool.false_and,Bool.not_false,cond_true]
  rfl
theorem zdh : ∀ (r : List (List UInt8)) (a : Int),(atL r a).length = r.length
  | [],_ => rfl
  | p :: r,a => by simp [atL,zdh r]
theorem zuj (n : Nat) (hn : 200000 ≤ n) (s p : List UInt8) (r : List (List UInt8)) (hs : sumL (p :: r) ≤ 9000) (c0 : List UInt8) (c1 : Int) (c2 : List DecL) (c3 : Int) (c4 : List TagL) (c5 d0 d1 : Int) (nm : List UInt8) (vs : List DecL) (g0 : Int) (g1 : List UInt8) (n0 n1 : Int) (q0 q1 q2 q3 q4 q5 : Nat) :
    F.zb.C7 n (fun b0_0 b0_1 b0_2 b0_3 b0_4 b0_5 b1_0 b1_1 k0 => some (((b0_0,b0_1,b0_2,b0_3,b0_4,b0_5,()),(b1_0,b1_1,()),()))) s (atL (p :: r) 0) c0 c1 c2 c3 c4 c5 d0 d1 [] 0 [] 0 [] 0 nm 0 vs 1000000 [] 0 g0 g1 n0 n1 0 0 q0 q1 q2 q3 q4 q5 = some (outP (secondR s p nm vs r)):=by
  have hl:=zdh (p :: r) 0
  unfold F.zb.C7
  rw [beq_self_eq_true,Bool.and_self,Bool.not_true,cond_false,hl]
  cases r with
  | nil => rfl
  | cons q r =>
    have e1 : (((p :: q :: r).length : Int) == 1) = false:=by
      rw [beq_eq_false_iff_ne]; simp only [List.length_cons]; omega
    have e2 : idx (atL (p :: q :: r) 0) 1 = some (0 + (p.length : Int) + 1,q):=rfl
    rw [e1,cond_false,e2,za]
    dsimp only
    rw [znr n (by omega),za,secondR]
    by_cases h0 : kindR q = 0
    · rw [if_pos h0,h0,beq_self_eq_true,cond_true,za]
      dsimp only
      rw [show (0 : Int) + (p.length : Int) + 1 = (p.length : Int) + 1 by omega]
      rfl
    · rw [if_neg h0,beq_eq_false_iff_ne.2 h0,cond_false]
      have hsum:=zav (p :: q :: r)
      simp only [sumL,List.map_cons,List.sum_cons] at hs
      have:=zkt n hn
        (fun e47_b0_0 e47_b0_1 e47_b0_2 e47_b0_3 e47_b0_4 e47_b0_5 e47_b1_0 e47_b1_1 e47_b2_0 e47_b2_1 e47_b2_2 e47_b2_3 e47_b2_4 e47_b2_5 e47_b3_0 e47_b3_1 e47_b3_2 e47_b3_3 e47_b3_4 e47_b3_5 e47_b4_0 e47_b4_1 e47_b5_0 e47_b5_1 e47_b6_0 e47_b6_1 e47_k0 e47_k1 e47_k2 e47_k3 e47_k4 => some (((e47_b3_0,e47_b3_1,e47_b3_2,e47_b3_3,e47_b3_4,e47_b3_5,()),(0,0,()),())))
        (fun e48_b0_0 e48_b0_1 e48_b0_2 e48_b0_3 e48_b0_4 e48_b0_5 e48_b1_0 e48_b1_1 e48_b2_0 e48_b2_1 e48_b2_2 e48_b2_3 e48_b2_4 e48_b2_5 e48_b3_0 e48_b3_1 e48_b3_2 e48_b3_3 e48_b3_4 e48_b3_5 e48_b4_0 e48_b4_1 e48_b5_0 e48_b5_1 e48_b6_0 e48_b6_1 e48_k0 e48_k1 e48_k4 => some (((e48_b0_0,e48_b0_1,e48_b0_2,e48_b0_3,e48_b0_4,e48_b0_5,()),(e48_b1_0,e48_b1_1,()),())))
        ⟨by intros; rfl,by intros; rfl⟩ (atL (p :: q :: r) 0) (by rw [hl]; simp only [sumL,List.map_cons,List.sum_cons] at hsum; omega) c0 c1 c2 c3 c4 c5 d0 d1 g0 g1 n0 n1 0 0 q0 q1 q2 q3 q4 r (0 + (p.length : Int) + 1 + q.length + 1) (nm,kindR q,vs,1000000,[],0,()) 0 2 n rfl (by rw [hl]; simp) (by simp only [sumL,List.map_cons,List.sum_cons] at hsum; simp at hsum; omega) (by omega) (by simp only [sumL]; omega)
      rw [show (0 : Int) + (p.length : Int) + 1 + q.length + 1 = (p.length : Int) + 1 + (q.length + 1) by omega] at this
      exact this
theorem ziz (n : Nat) (hn : 200000 ≤ n) (k0 kr : K30) (v5 : List (Int × List UInt8)) (hv : v5.length ≤ 10000) (c0 : List UInt8) (c1 : Int) (c2 : List DecL) (c3 : Int) (c4 : List TagL) (c5 d0 d1 : Int) (z0 : List UInt8) (z1 : Int) (z2 : List DecL) (z3 : Int) (z4 : List TagL) (z5 : Int) (w0 : List UInt8) (w1 w3 : Int) (w4 : List TagL) (w5 g0 : Int) (g1 : List UInt8) (q0 q1 q2 q3 q5 : Nat)
    (hbad : ∀ acc a l,kr c0 c1 c2 c3 c4 c5 d0 d1 z0 z1 z2 z3 z4 z5 w0 w1 acc w3 w4 w5 g0 g1 17 a q0 q1 q2 q3 l q5 = some (badP 17 a)) :
    ∀ (r : List (List UInt8)) (acc : List DecL) (a : Int) (i m : Nat),v5.drop i = atL r a→acc.length + 1 = i→i ≤ v5.length→acc.length ≤ 64→r.length < m→sumL r ≤ 9000 →
    F.zb.L8_ref11_First n k0 kr m v5 (i : Int) c0 c1 c2 c3 c4 c5 d0 d1 z0 z1 z2 z3 z4 z5 w0 w1 acc w3 w4 w5 g0 g1 0 0 q0 q1 q2 q3 acc.length q5 = match readVals r acc a with
      | .ok vs => k0 c0 c1 c2 c3 c4 c5 d0 d1 z0 z1 z2 z3 z4 z5 w0 w1 vs w3 w4 w5 g0 g1 0 0 q0 q1 q2 q3 vs.length q5
      | .error b => some (badP 17 b):=by
  intro r
  induction r with
  | nil =>
    intro acc a i m h1 h2 hi h64 hm hs
    obtain ⟨m,rfl⟩ : ∃ q,m = q + 1:=⟨m - 1,by omega⟩
    rw [atL] at h1
    rw [F.zb.L8_ref11_First]
    unfold F.zb.L8_ref11_First.step
    dsimp only
    rw [zf (by have:=zo h1; omega)]
    rfl
  | cons p r ih =>
    intro acc a i m h1 h2 hi h64 hm hs
    obtain ⟨m,rfl⟩ : ∃ q,m = q + 1:=⟨m - 1,by simp at hm; omega⟩
    rw [atL] at h1
    obtain ⟨l1,gg,t1⟩:=zn h1
    simp only [List.length_cons] at hm
    simp only [sumL,List.map_cons,List.sum_cons] at hs
    rw [F.zb.L8_ref11_First]
    unfold F.zb.L8_ref11_First.step
    dsimp only
    rw [zd (by omega),zp,gg]
    simp only [za]
    rw [zc8 n hn p (by omega),za,zgw,readVals]
    by_cases h0 : (parseR p).2.1.1 = 0
    · rw [decide_eq_true h0,Bool.not_true,cond_false]
      by_cases h6 : acc.length = 64
      · rw [zd (by omega),if_neg (by simp [h6])]
        exact hbad _ _ _
      · rw [zf (by omega),if_pos ⟨h0,h6⟩,znk (by omega),Nat.beq_refl,cond_true,zj (by omega)]
        exact ih (acc ++ [((parseR p).1.1,(parseR p).1.2.1,(parseR p).1.2.2.1)]) (a + p.length + 1) (i + 1) m t1 (by simp; omega) (by omega) (by simp; omega) (by omega) (by simp only [sumL]; omega)
    · rw [decide_eq_false h0,Bool.not_false,cond_true,if_neg (by simp [h0])]
      exact hbad _ _ _
theorem zlq (n : Nat) (hn : 200000 ≤ n) (s : List UInt8) (hs : s.length ≤ 100000) : F.zb n s = some (parseD s):=by
  unfold F.zb parseD
  rw [bdec]
  by_cases h : 8192 < s.length
  · rw [if_pos (by omega),if_pos h]; rfl
  · rw [if_neg (by omega),if_neg h]
    have hsum:=zao 124 s
    have hc1 : F.zac n s 124 0 = some (atL (splitL 124 s) 0):=zmk n hn 124 s 0 (by omega) (by omega)
    rw [hc1,za]
    have hne:=zad 124 s
    generalize splitL 124 s = ps at hsum hne
    cases ps with
    | nil => exact absurd rfl hne
    | cons p r =>
      have hp:=zb2 (show p ∈ p :: r by simp)
      have hseg:=z6 58 p
      have hc2 : F.zac n p 58 0 = some (atL (splitL 58 p) 0):=zmk n hn 58 p 0 (by omega) (by omega)
      rw [show idx (atL (p :: r) 0) 0 = some (0,p) from rfl,za]
      dsimp only
      rw [hc2,za]
      have hi0 : idx (atL (splitL 58 p) 0) 0 = some (0,seg 58 p):=by
        rw [zcf]
        by_cases hin : (58 : UInt8) ∈ p
        · rw [if_pos hin]; rfl
        · rw [if_neg hin,(zga hin).1]; rfl
      rw [hi0,za]
      dsimp only
      rw [zrx n hn _ (by omega),za,linesR]
      unfold firstR
      cases hnm : nameOK (seg 58 p)
      · rw [Bool.not_false,cond_true,if_pos rfl]
        exact zku n s _ [] 0 [] 0 [] 0 0 0 _ _ _ _ _ _ _ _ _ _ 15 0 (by decide) _ _ _ _ _ _
      · rw [Bool.not_true,cond_false,if_neg (by simp),zdh,zcf]
        by_cases hin : (58 : UInt8) ∈ p
        · have hsum2:=zao 58 (restN 58 p)
          have hsn:=zav (splitL 58 (restN 58 p))
          have hne2:=zad 58 (restN 58 p)
          have hpos : 0 < (splitL 58 (restN 58 p)).length:=List.length_pos_iff.2 hne2
          have hrn:=zdz 58 p
          have e1 : ((((seg 58 p :: splitL 58 (restN 58 p)).length : Nat) : Int) == 1) = false:=by
            rw [beq_eq_false_iff_ne]; simp only [List.length_cons]; omega
          rw [if_pos hin,e1,cond_false,if_neg (by simp [hin])]
          refine (ziz n hn _ _ (atL (seg 58 p :: splitL 58 (restN 58 p)) 0) (by rw [zdh]; simp only [List.length_cons]; omega) [] 0 [] 0 [] 0 0 0 [] 0 [] 0 [] 0 (seg 58 p) 0 1000000 [] 0 0 p 0 0 0 0 0 ?_ (splitL 58 (restN 58 p)) [] (0 + ((seg 58 p).length : Int) + 1) 1 n rfl rfl (by rw [zdh]; simp only [List.length_cons]; omega) (by simp) (by omega) (by omega)).trans ?_
          · intro acc a l
            exact zku n s _ [] 0 [] 0 [] 0 0 0 _ _ _ _ _ _ _ _ _ _ 17 a (by decide) _ _ _ _ _ _
          · rw [show (0 : Int) + ((seg 58 p).length : Int) + 1 = ((seg 58 p).length : Int) + 1 by omega]
            cases readVals (splitL 58 (restN 58 p)) [] (((seg 58 p).length : Int) + 1) with
            | error b => rfl
            | ok vs => exact zuj n hn s p r (by omega) [] 0 [] 0 [] 0 0 0 (seg 58 p) vs 0 p 0 0 _ _ _ _ _ _
        · rw [if_neg hin,show ((([p] : List (List UInt8)).length : Int) == 1) = true from rfl,cond_true,if_pos hin]
          have hw : IntKind.wrap .i64 (0 + (p.length : Int)) = (p.length : Int):=by rw [Int.zero_add,zl (by omega)]
          rw [hw]
          exact zku n s _ [] 0 [] 0 [] 0 0 0 _ _ _ _ _ _ _ _ _ _ 11 _ (by decide) _ _ _ _ _ _
end Go.AM
set_option linter.unusedVariables false
set_option linter.unusedSimpArgs false
namespace Go.AM
structure InvM (m : MetD) : Prop where
  nm : nameOK m.1 = true
  kd : kindB m.2.1 = true
  vs : (∀ d ∈ m.2.2.1,DecLOK d ∧ decC d = 0) ∧ 1 ≤ m.2.2.1.length ∧ m.2.2.1.length ≤ 64
  rt : rateB m.2.1 m.2.2.2.1 = true
  tg : (∀ t ∈ m.2.2.2.2.1,tagGood t = true) ∧ m.2.2.2.2.1.length ≤ 32 ∧ StrictT m.2.2.2.2.1
  tm : timeB m.2.2.2.2.2.1 = true
theorem InvM.right {m : MetD} (h : InvM m) : RightM m:=by
  have hn:=zpv h.nm
  refine ⟨⟨by omega,⟨by have:=h.vs.2.2; omega,fun d hd => (h.vs.1 d hd).1⟩,by have:=h.tg.2.1; omega,fun t ht => zmm (zce (h.tg.1 t ht))⟩,?_⟩
  have hv : valsB m.2.2.1 = true:=by
    unfold valsB
    simp only [Bool.and_eq_true,decide_eq_true_eq]
    exact ⟨h.vs.2.1,h.vs.2.2,List.all_eq_true.2 (fun d hd => by simp [(h.vs.1 d hd).2])⟩
  have ht : tagsB m.2.2.2.2.1 = true:=by
    unfold tagsB
    simp only [Bool.and_eq_true,decide_eq_true_eq]
    exact ⟨h.tg.2.1,List.all_eq_true.2 h.tg.1⟩
  unfold chkM
  rw [h.nm,h.kd,hv,h.rt,ht,h.tm]
  rfl
theorem RightM.inv {m : MetD} (h : RightM m) (hs : StrictT m.2.2.2.2.1) : InvM m:=by
  obtain ⟨c1,c2,c3,c4,c5,c6⟩:=zf4 h.chk
  have ht:=znm h
  exact ⟨c1,c2,znl h,c4,⟨fun t htm => (ht.1 t htm).2,ht.2,hs⟩,c6⟩
theorem zns {p : List UInt8} (h : (parseR p).2.1.1 = 0) : DecLOK ((parseR p).1.1,(parseR p).1.2.1,(parseR p).1.2.2.1) ∧ decC ((parseR p).1.1,(parseR p).1.2.1,(parseR p).1.2.2.1) = 0:=by
  obtain ⟨neg,c,e,h1,h2,h3,h4⟩:=zr2 h
  rw [h1]
  refine ⟨⟨trivial,⟨by simp,?_⟩,h3⟩,h4⟩
  have:=zai
  simp only
  omega
theorem zfq : ∀ (r : List (List UInt8)) (acc : List DecL) (a : Int) (vs : List DecL),readVals r acc a = .ok vs→(∀ d ∈ acc,DecLOK d ∧ decC d = 0)→acc.length ≤ 64→(∀ d ∈ vs,DecLOK d ∧ decC d = 0) ∧ vs.length ≤ 64 ∧ vs.length = acc.length + r.length
  | [],acc,a,vs,h,hd,hl => by cases h; exact ⟨hd,hl,by simp⟩
  | p :: r,acc,a,vs,h,hd,hl => by
    rw [readVals] at h
    split at h
    · rename_i hc
      have hr:=zfq r _ _ _ h (fun d hd' => by
        rcases List.mem_append.1 hd' with hd' | hd'
        · exact hd d hd'
        · rw [List.mem_singleton.1 hd']; exact zns hc.1) (by simp; omega)
      refine ⟨hr.1,hr.2.1,?_⟩
      have:=hr.2.2
      simp at this ⊢
      omega
    · cases h
theorem zez : ∀ (r : List (List UInt8)) (acc : List DecL) (a b : Int),readVals r acc a = .error b→a ≤ b ∧ b < a + sumL r
  | [],acc,a,b,h => by cases h
  | p :: r,acc,a,b,h => by
    rw [readVals] at h
    simp only [sumL,List.map_cons,List.sum_cons]
    split at h
    · have:=zez r _ _ _ h
      simp only [sumL] at this
      omega
    · cases h; omega
theorem zsh {s : List UInt8} (h : kindR s ≠ 0) : kindB (kindR s) = true:=by
  revert h
  unfold kindR
  repeat' split
  all_goals first | (intro _; rfl) | (intro h; exact absurd rfl h)
theorem zsi {m : MetD} (h : InvM m) {last : Int} {p : List UInt8} {m' : MetD} {l : Int} (hr : moreR m last p = .ok (m',l)) : InvM m':=by
  cases p with
  | nil => cases hr
  | cons x s =>
    rw [moreR] at hr
    split at hr
    · split at hr
      · cases hr
      · split at hr
        · cases hr
        · rename_i hc
          cases hr
          have h0 : (rateR s).2.1.1 = 0:=Classical.byContradiction fun hh => hc (Or.inl hh)
          obtain ⟨_,r1,r2,_⟩:=zhg h0
          refine ⟨h.nm,h.kd,h.vs,?_,h.tg,h.tm⟩
          unfold rateB
          simp only [Bool.and_eq_true,decide_eq_true_eq]
          refine ⟨r1,r2,?_⟩
          by_cases h2 : m.2.1 = 2
          · have : (rateR s).1 = 1000000:=Classical.byContradiction fun hh => hc (Or.inr ⟨h2,hh⟩)
            simp [this]
          · simp [h2]
    · split at hr
      · split at hr
        · cases hr
        · split at hr
          · cases hr
          · rename_i l' hT
            split at hr
            · cases hr
            · rename_i h32
              cases hr
              have hg:=zd1 _ _ _ _ hT (fun t ht => by cases ht)
              refine ⟨h.nm,h.kd,h.vs,h.rt,⟨fun t ht => hg t ((zij _ _).1 ht),?_,zev _⟩,h.tm⟩
              have:=zik l'
              show (normT l').length ≤ 32
              omega
      · split at hr
        · split at hr
          · cases hr
          · split at hr
            · cases hr
            · rename_i hc
              cases hr
              have h0 : (parseNum s 1 1099511627776).2.1.1 = 0:=Classical.byContradiction hc
              obtain ⟨_,r1,r2,r3,r4,_⟩:=zdv h0
              refine ⟨h.nm,h.kd,h.vs,h.rt,h.tg,?_⟩
              unfold timeB
              simp only [Bool.and_eq_true,decide_eq_true_eq]
              rw [r1]
              omega
        · cases hr
theorem zpx {m : MetD} {last : Int} {p : List UInt8} {e : Int} (hr : moreR m last p = .error e) : e ≠ 0:=by
  cases p with
  | nil => cases hr; decide
  | cons x s =>
    rw [moreR] at hr
    split at hr
    · split at hr
      · cases hr; decide
      · split at hr <;> cases hr; decide
    · split at hr
      · split at hr
        · cases hr; decide
        · split at hr
          · cases hr; decide
          · split at hr <;> cases hr; decide
      · split at hr
        · split at hr
          · cases hr; decide
          · split at hr <;> cases hr; decide
        · cases hr; decide
theorem zkv : ∀ (r : List (List UInt8)) (a : Int) (m : MetD) (last : Int),InvM m→(∀ m',restR r a m last = .ok m'→InvM m') ∧ (∀ e b,restR r a m last = .error (e,b)→e ≠ 0 ∧ a ≤ b ∧ b < a + sumL r)
  | [],a,m,last,h => ⟨fun m' hr => by cases hr; exact h,fun e b hr => by cases hr⟩
  | p :: r,a,m,last,h => by
    rw [restR]
    simp only [sumL,List.map_cons,List.sum_cons]
    cases hm : moreR m last p with
    | error e => exact ⟨fun m' hr => (by cases hr),fun e b hr => by cases hr; exact ⟨zpx hm,by omega,by omega⟩⟩
    | ok x =>
      obtain ⟨m1,l1⟩:=x
      obtain ⟨h1,h2⟩:=zkv r (a + p.length + 1) m1 l1 (zsi h hm)
      refine ⟨h1,fun e b hr => ?_⟩
      have:=h2 e b hr
      simp only [sumL] at this
      omega
theorem zpy {s : List UInt8} {nm : List UInt8} {vs : List DecL} (h : firstR s = .ok (nm,vs)) : nameOK nm = true ∧ (∀ d ∈ vs,DecLOK d ∧ decC d = 0) ∧ 1 ≤ vs.length ∧ vs.length ≤ 64:=by
  unfold firstR at h
  split at h
  · cases h
  · rename_i hnm
    split at h
    · cases h
    · split at h
      · rename_i vs' hv
        cases h
        obtain ⟨h1,h2,h3⟩:=zfq _ _ _ _ hv (fun d hd => by cases hd) (by simp)
        have:=List.length_pos_iff.2 (zad 58 (restN 58 s))
        simp only [List.length_nil,Nat.zero_add] at h3
        exact ⟨by simpa using hnm,h1,by omega,h2⟩
      · cases h
theorem znt {s : List UInt8} {e a : Int} (h : firstR s = .error (e,a)) : e ≠ 0 ∧ 0 ≤ a ∧ a ≤ s.length:=by
  unfold firstR at h
  split at h
  · cases h; exact ⟨by decide,by omega,by omega⟩
  · split at h
    · cases h; exact ⟨by decide,by omega,by omega⟩
    · rename_i hin
      split at h
      · cases h
      · rename_i b hv
        cases h
        have h1:=zez _ _ _ _ hv
        have h2:=zao 58 (restN 58 s)
        have hin' : (58 : UInt8) ∈ s:=Classical.byContradiction hin
        have h3 : (restN 58 s).length = s.length - ((seg 58 s).length + 1):=by unfold restN; rw [if_pos hin',List.length_drop]
        have h4:=zae hin'
        exact ⟨by decide,by omega,by omega⟩
theorem zpz (s : List UInt8) (ps : List (List UInt8)) (hsum : sumL ps = s.length + 1) : (∀ m,linesR s ps = .ok m→InvM m) ∧ (∀ e a,linesR s ps = .error (e,a)→e ≠ 0 ∧ 0 ≤ a ∧ a ≤ s.length):=by
  cases ps with
  | nil => exact ⟨fun m h => (by cases h),fun e a h => by cases h; exact ⟨by decide,by omega,by omega⟩⟩
  | cons p r =>
    simp only [sumL,List.map_cons,List.sum_cons] at hsum
    rw [linesR]
    cases hf : firstR p with
    | error x =>
      obtain ⟨e,a⟩:=x
      refine ⟨fun m h => (by cases h),fun e a h => ?_⟩
      cases h
      have:=znt hf
      exact ⟨this.1,this.2.1,by omega⟩
    | ok x =>
      obtain ⟨nm,vs⟩:=x
      obtain ⟨h1,h2,h3,h4⟩:=zpy hf
      dsimp only
      cases r with
      | nil =>
        rw [secondR]
        exact ⟨fun m h => (by cases h),fun e a h => by cases h; exact ⟨by decide,by omega,by omega⟩⟩
      | cons q r =>
        simp only [List.map_cons,List.sum_cons] at hsum
        rw [secondR]
        by_cases h0 : kindR q = 0
        · rw [if_pos h0]
          exact ⟨fun m h => (by cases h),fun e a h => by cases h; exact ⟨by decide,by omega,by omega⟩⟩
        · rw [if_neg h0]
          have inv : InvM (nm,kindR q,vs,1000000,[],0,()):=⟨h1,zsh h0,⟨h2,h3,h4⟩,by
            unfold rateB; simp,⟨fun t ht => (by cases ht),by simp,List.Pairwise.nil⟩,(show timeB 0 = true by decide)⟩
          obtain ⟨g1,g2⟩:=zkv r ((p.length : Int) + 1 + (q.length + 1)) _ 0 inv
          refine ⟨g1,fun e a h => ?_⟩
          have:=g2 e a h
          simp only [sumL] at this
          omega
theorem zkw (s : List UInt8) : ((parseD s).2.1 = (0,0,()) ∧ InvM (parseD s).1) ∨ (∃ e a,e ≠ 0 ∧ 0 ≤ a ∧ a ≤ (s.length : Int) ∧ parseD s = badP e a):=by
  unfold parseD
  split
  · exact Or.inr ⟨12,0,by decide,by omega,by omega,rfl⟩
  · obtain ⟨h1,h2⟩:=zpz s (splitL 124 s) (zao 124 s)
    cases hl : linesR s (splitL 124 s) with
    | ok m => exact Or.inl ⟨rfl,h1 m hl⟩
    | error x =>
      obtain ⟨e,a⟩:=x
      obtain ⟨g1,g2,g3⟩:=h2 e a hl
      exact Or.inr ⟨e,a,g1,g2,g3,rfl⟩
end Go.AM
set_option linter.unusedVariables false
set_option linter.unusedSimpArgs false
namespace Go.AM
end Go.AM
set_option linter.unusedVariables false
set_option linter.unusedSimpArgs false
namespace Go.AM
def sdM (s : List UInt8) : MetR:=(sdParse s).getD (badM 11 0)
theorem zgx (s : List UInt8) : sdParse s = some (sdM s):=by
  unfold sdM
  rcases zkm s with ⟨c,a,h,_⟩ | ⟨_,_,_,_,_,_,_,_,_,_,_,_,_,h⟩ <;> rw [h] <;> rfl
def fmtB (f : Int) : Bool:=decide (1 ≤ f) && decide (f ≤ 3)
def parseT (s : List UInt8) (f : Int) : MetR:=
  if fmtB f = false then badM 29 0 else if 8192 < s.length then badM 12 0 else if f = 1 then sdM s else if f = 2 then parseD s else grParse s
theorem zc2 {f : Int} (h : fmtB f = true) : f = 1 ∨ f = 2 ∨ f = 3:=by
  unfold fmtB at h
  simp only [Bool.and_eq_true,decide_eq_true_eq] at h
  omega
theorem zkx (n : Nat) (hn : 200000 ≤ n) (s : List UInt8) (hs : s.length ≤ 1000000) (f : Int) : F.zav n s f = some (parseT s f):=by
  unfold F.zav parseT
  have hd : decide ((s.length : Int) > 8192) = decide (8192 < s.length):=decide_eq_decide.2 (by omega)
  rw [hd]
  cases hf : fmtB f
  · have h1 : f ≠ 1:=fun e => by rw [e] at hf; cases hf
    have h2 : f ≠ 2:=fun e => by rw [e] at hf; cases hf
    have h3 : f ≠ 3:=fun e => by rw [e] at hf; cases hf
    rw [beq_eq_false_iff_ne.2 h1,beq_eq_false_iff_ne.2 h2,beq_eq_false_iff_ne.2 h3,if_pos rfl]
    rfl
  · rw [if_neg (by simp)]
    by_cases hl : 8192 < s.length
    · rw [decide_eq_true hl,if_pos hl]
      rcases zc2 hf with rfl | rfl | rfl <;> rfl
    · rw [decide_eq_false hl,if_neg hl]
      rcases zc2 hf with rfl | rfl | rfl
      · rw [beq_self_eq_true,cond_true,cond_false,znf n hn s (by omega),zgx,if_pos rfl]
        rfl
      · rw [show ((2 : Int) == 1) = false from rfl,cond_false,beq_self_eq_true,cond_true,cond_false,zse n hn s hs,if_neg (by decide),if_pos rfl]
        rfl
      · rw [show ((3 : Int) == 1) = false from rfl,show ((3 : Int) == 2) = false from rfl,cond_false,cond_false,beq_self_eq_true,cond_true,cond_false,znj n hn s (by omega),if_neg (by decide),if_neg (by decide)]
        rfl
theorem zky (n : Nat) (f : Int) : F.zbd n f = some (fmtB f):=by
  unfold F.zbd fmtB
  by_cases h : 1 ≤ f
  · rw [zd (by omega),decide_eq_true h]; rfl
  · rw [zf (by omega),decide_eq_false h]; rfl
theorem zgy (n : Nat) (hn : 200000 ≤ n) (s : List UInt8) (hs : s.length ≤ 100000) (f : Int) : F.zbb n s f = some (parseT s f):=by
  unfold F.zbb parseT
  have hd : decide ((s.length : Int) > 8192) = decide (8192 < s.length):=decide_eq_decide.2 (by omega)
  rw [hd,zky,za]
  cases hf : fmtB f
  · rw [if_pos rfl]; rfl
  · rw [if_neg (by simp),Bool.not_true,cond_false]
    by_cases hl : 8192 < s.length
    · rw [decide_eq_true hl,if_pos hl]; rfl
    · rw [decide_eq_false hl,if_neg hl,cond_false]
      rcases zc2 hf with rfl | rfl | rfl
      · rw [beq_self_eq_true,cond_true,ziw n hn s (by omega),zgx,if_pos rfl]
        rfl
      · rw [show ((2 : Int) == 1) = false from rfl,cond_false,beq_self_eq_true,cond_true,zlq n hn s hs,if_neg (by decide),if_pos rfl]
        rfl
      · rw [show ((3 : Int) == 1) = false from rfl,show ((3 : Int) == 2) = false from rfl,cond_false,cond_false,zr7 n hn s (by omega),if_neg (by decide),if_neg (by decide)]
        rfl
theorem zcs (s : List UInt8) (f : Int) : ((parseT s f).2.1 = (0,0,()) ∧ (parseT s f).1.2.2.1.length ≤ 64 ∧ (parseT s f).1.2.2.2.2.1.length ≤ 32) ∨ (∃ c a,c ≠ 0 ∧ 0 ≤ a ∧ a ≤ (s.length : Int) ∧ parseT s f = badM c a):=by
  unfold parseT
  split
  · exact Or.inr ⟨29,0,by decide,by omega,by omega,rfl⟩
  · split
    · exact Or.inr ⟨12,0,by decide,by omega,by omega,rfl⟩
    · split
      · rcases zkm s with ⟨c,a,h,h1,h2,h3⟩ | ⟨_,_,_,_,_,_,_,_,_,_,_,_,_,h⟩
        · rw [zgx] at h
          exact Or.inr ⟨c,a,h1,h2,h3,Option.some.inj h⟩
        · rw [zgx] at h
          rw [Option.some.inj h]
          exact Or.inl ⟨rfl,(show (1 : Nat) ≤ 64 by omega),(show (0 : Nat) ≤ 32 by omega)⟩
      · split
        · rcases zkw s with ⟨h,hI⟩ | ⟨e,a,h1,h2,h3,h⟩
          · exact Or.inl ⟨h,hI.vs.2.2,hI.tg.2.1⟩
          · exact Or.inr ⟨e,a,h1,h2,h3,h⟩
        · rcases zr8 s with ⟨c,a,h,h1,h2,h3⟩ | ⟨_,_,_,_,_,_,_,_,_,_,_,h⟩
          · exact Or.inr ⟨c,a,h1,h2,h3,h⟩
          · rw [h]
            exact Or.inl ⟨rfl,(show (1 : Nat) ≤ 64 by omega),(show (0 : Nat) ≤ 32 by omega)⟩
end Go.AM
set_option linter.unusedVariables false
set_option linter.unusedSimpArgs false
namespace Go.AM
abbrev MetL:=List UInt8 × Int × List DecL × Int × List TagL × Int
def toL (m : MetD) : MetL:=(m.1,m.2.1,m.2.2.1,m.2.2.2.1,m.2.2.2.2.1,m.2.2.2.2.2.1)
abbrev DecT:=List MetL × (Int × Int × Unit) × Unit
def decF (f : Int) : List (List UInt8)→List MetL→Int→Except (Int × Int) (List MetL)
  | [],out,_ => .ok out
  | [t],out,at_ => if t = [] then .ok out else if out.length = 1000 then .error (12,at_) else .error (30,at_)
  | p :: q :: r,out,at_ => if out.length = 1000 then .error (12,at_) else if (parseT p f).2.1.1 ≠ 0 then .error ((parseT p f).2.1.1,at_ + (parseT p f).2.1.2.1)
      else decF f (q :: r) (out ++ [toL (parseT p f).1]) (at_ + p.length + 1)
def outT : Except (Int × Int) (List MetL)→DecT
  | .ok l => (l,(0,0,()),())
  | .error e => ([],(e.1,e.2,()),())
def decodeT (b : List UInt8) (f : Int) : DecT:=if fmtB f = false then ([],(29,0,()),()) else outT (decF f (splitL 10 b) [] 0)
theorem zp0 (s : List UInt8) (f : Int) : (((parseT s f).2.1.1 == 0) && ((parseT s f).2.1.2.1 == 0)) = decide ((parseT s f).2.1.1 = 0):=by
  rcases zcs s f with ⟨h,_⟩ | ⟨c,a,h1,_,_,h⟩
  · rw [h]; rfl
  · rw [h]
    have e : (badM c a).2.1.1 = c:=rfl
    rw [e,decide_eq_false h1,beq_eq_false_iff_ne.2 h1]; rfl
theorem zkz (s : List UInt8) (f : Int) : 0 ≤ (parseT s f).2.1.2.1 ∧ (parseT s f).2.1.2.1 ≤ s.length:=by
  rcases zcs s f with ⟨h,_⟩ | ⟨c,a,h1,h2,h3,h⟩
  · rw [h]; exact ⟨by simp,by simp⟩
  · rw [h]; exact ⟨h2,h3⟩
theorem znu (n : Nat) {a : List UInt8} (ha : a.length ≤ 1000000) : F.zak n (a ++ [10]) [10] = some (a,true,()):=by
  unfold F.zak F.zat F.zas
  have hw : IntKind.wrap .i64 (((a ++ [(10 : UInt8)]).length : Int) - (([(10 : UInt8)] : List UInt8).length : Int)) = (a.length : Int):=by
    rw [zl (by simp; omega)]; simp
  rw [zd (by simp; omega),hw,zq _ a.length _ (by simp) (by omega),List.take_length,List.drop_left,za,za,beq_self_eq_true,Bool.not_true,cond_false,
    show (0 : Int) = ((0 : Nat) : Int) from rfl,zq _ 0 a.length (by omega) (by simp),List.take_left]
  rfl
theorem zlr (n : Nat) {a : List UInt8} (ha : a.length ≤ 1000000) (hne : a ≠ []) (h : (10 : UInt8) ∉ a) : F.zak n a [10] = some (a,false,()):=by
  unfold F.zak F.zat F.zas
  have hp:=List.length_pos_iff.2 hne
  have hw : IntKind.wrap .i64 ((a.length : Int) - (([(10 : UInt8)] : List UInt8).length : Int)) = ((a.length - 1 : Nat) : Int):=by
    rw [zl (by simp; omega)]; simp; omega
  rw [zd (by simp; omega),hw,zq _ (a.length - 1) _ (by omega) (by omega),List.take_length,za]
  have hd : (a.drop (a.length - 1) == [10]) = false:=by
    rw [beq_eq_false_iff_ne]
    intro e
    exact h (List.mem_of_mem_drop (by rw [e]; simp))
  rw [hd]
  rfl
theorem growM {X : Type} {v : List MetL} (h : v.length ≤ 100000) (y : Option X) : (bif decide ((v.length + 1) * 88 ≤ 2 ^ 46) && decide (0 < 88 ∧ 88 ≤ 2 ^ 20) then y else none) = y:=by
  rw [decide_eq_true (by omega)]; rfl
abbrev KD:=Int→List MetL→Int→Int→List MetL→Int→List UInt8→Nat→Nat→Option DecT
theorem zsj (n : Nat) (hn : 200000 ≤ n) (f : Int) (k0 kr : KD) (h0 : ∀ out a r k,k0 f [] 0 0 out a r 0 k = some (out,(0,0,()),())) (hr : ∀ c a out a' r k,kr f [] c a out a' r 0 k = some ([],(c,a,()),())) :
    ∀ (m : Nat) (b : List UInt8) (out : List MetL) (a : Int),b.length < m→0 ≤ a→a + b.length ≤ 20000→out.length ≤ 1000 →
    F.zd.L0_strings_Lines_1 n k0 kr m f [] 0 0 out a b 0 out.length = some (outT (decF f (splitL 10 b) out a)):=by
  intro m
  induction m with
  | zero => intro b out a h; omega
  | succ m ih =>
    intro b out a hm ha hb ho
    rw [F.zd.L0_strings_Lines_1]
    unfold F.zd.L0_strings_Lines_1.step
    dsimp only
    by_cases hne : b = []
    · subst hne
      rw [zf (by simp),h0]
      rfl
    have hp:=List.length_pos_iff.2 hne
    have hi : F.zau n b 10 = some (Lib.indexByte b 10):=rfl
    have hk : ((out.length : Int) == 1000) = decide (out.length = 1000):=by
      by_cases h : out.length = 1000
      · rw [h]; rfl
      · rw [decide_eq_false h,beq_eq_false_iff_ne]; omega
    have hw0 : IntKind.wrap .i64 (a + 0) = a:=by rw [Int.add_zero,zl (by omega)]
    rw [zd (by omega),hi,za,zmi,zcf]
    by_cases hin : (10 : UInt8) ∈ b
    · have hlt:=zae hin
      have hw1 : IntKind.wrap .i64 (((seg 10 b).length : Int) + 1) = (((seg 10 b).length + 1 : Nat) : Int):=zj (by omega)
      have hsp:=zbd hin
      have h10 : b[(seg 10 b).length]? = some 10:=by
        have:=congrArg (fun l => l[(seg 10 b).length]?) hsp
        simpa using this
      have hx2 : sub b 0 (((seg 10 b).length + 1 : Nat) : Int) = some (seg 10 b ++ [10]):=by
        rw [show (0 : Int) = ((0 : Nat) : Int) from rfl,zq b 0 _ (by omega) (by omega),List.drop_zero,List.take_add_one,zcr,h10]
        rfl
      have hrn : restN 10 b = b.drop ((seg 10 b).length + 1):=by unfold restN; rw [if_pos hin]
      have hrl : (restN 10 b).length + ((seg 10 b).length + 1) = b.length:=by rw [hrn,List.length_drop]; omega
      rw [if_pos hin,if_pos hin,zd (by omega),hw1,hx2,za,zq b _ b.length (by omega) (by omega),List.take_length,← hrn,za,znu n (by omega),za,hk]
      have hsne:=zad 10 (restN 10 b)
      obtain ⟨q,r,hqr⟩ : ∃ q r,splitL 10 (restN 10 b) = q :: r:=by
        cases hq : splitL 10 (restN 10 b) with
        | nil => exact absurd hq hsne
        | cons q r => exact ⟨q,r,rfl⟩
      rw [hqr,decF]
      have hwl : IntKind.wrap .i64 (a + (((seg 10 b) ++ [10]).length : Int)) = a + (seg 10 b).length + 1:=by
        rw [zl (by simp; omega)]; simp; omega
      by_cases h1000 : out.length = 1000
      · rw [decide_eq_true h1000,cond_true,if_pos h1000]
        rw [Bool.false_and,Bool.not_false,cond_true,hw0,hr]
        rfl
      · rw [decide_eq_false h1000,cond_false,if_neg h1000]
        have hpa:=zkz (seg 10 b) f
        dsimp only
        rw [Bool.not_true,cond_false,zkx n hn _ (by omega),za,zp0]
        by_cases hc : (parseT (seg 10 b) f).2.1.1 = 0
        · rw [decide_eq_true hc,Bool.not_true,cond_false,growM (by omega),Nat.beq_refl,cond_true,hwl,if_neg (fun h => h hc)]
          have:=ih (restN 10 b) (out ++ [toL (parseT (seg 10 b) f).1]) (a + (seg 10 b).length + 1) (by omega) (by omega) (by omega) (by simp; omega)
          rw [hqr] at this
          exact this
        · rw [decide_eq_false hc,Bool.not_false,cond_true,if_pos hc,zl (x:=a + (parseT (seg 10 b) f).2.1.2.1) (by omega)]
          exact hr _ _ _ _ _ _
    · rw [if_neg hin,if_neg hin,zf (by omega),zlr n (by omega) hne hin,za,hk,decF,if_neg hne]
      by_cases h1000 : out.length = 1000
      · rw [decide_eq_true h1000,cond_true,if_pos h1000]
        rw [Bool.false_and,Bool.not_false,cond_true,hw0,hr]
        rfl
      · rw [decide_eq_false h1000,cond_false,if_neg h1000]
        dsimp only
        rw [Bool.not_false,cond_true,Bool.false_and,Bool.not_false,cond_true,hw0,hr]
        rfl
theorem same1 (n : Nat) (X : Type) (k0 kr : Int→List MetL→Int→Int→List MetL→Int→List UInt8→Nat→Nat→Option X) : ∀ m,F.zd.L0_strings_Lines_1_1 n k0 kr m = F.zd.L0_strings_Lines_1 n k0 kr m
  | 0 => rfl
  | m + 1 => by
    funext a b c d e f g h i
    show F.zd.L0_strings_Lines_1_1.step n (F.zd.L0_strings_Lines_1_1 n k0 kr m) k0 kr a b c d e f g h i = F.zd.L0_strings_Lines_1.step n (F.zd.L0_strings_Lines_1 n k0 kr m) k0 kr a b c d e f g h i
    rw [same1 n X k0 kr m]
    rfl
theorem same2 (n : Nat) (X : Type) (k0 kr : Int→List MetL→Int→Int→List MetL→Int→List UInt8→Nat→Nat→Option X) : ∀ m,F.zd.L0_strings_Lines_1_2 n k0 kr m = F.zd.L0_strings_Lines_1 n k0 kr m
  | 0 => rfl
  | m + 1 => by
    funext a b c d e f g h i
    show F.zd.L0_strings_Lines_1_2.step n (F.zd.L0_strings_Lines_1_2 n k0 kr m) k0 kr a b c d e f g h i = F.zd.L0_strings_Lines_1.step n (F.zd.L0_strings_Lines_1 n k0 kr m) k0 kr a b c d e f g h i
    rw [same2 n X k0 kr m]
    rfl
theorem zb8 (n : Nat) (hn : 200000 ≤ n) (b : List UInt8) (hb : b.length ≤ 20000) (f : Int) : F.zd n b f = some (decodeT b f):=by
  unfold F.zd decodeT
  cases hf : fmtB f
  · have h1 : f ≠ 1:=fun e => by rw [e] at hf; cases hf
    have h2 : f ≠ 2:=fun e => by rw [e] at hf; cases hf
    have h3 : f ≠ 3:=fun e => by rw [e] at hf; cases hf
    rw [beq_eq_false_iff_ne.2 h1,beq_eq_false_iff_ne.2 h2,beq_eq_false_iff_ne.2 h3,if_pos rfl]
    rfl
  · rw [if_neg (by simp),same1,same2]
    have L:=zsj n hn f (fun e8_b0_0 e8_b1_0 e8_b2_0 e8_b2_1 e8_b5_0 e8_b6_0 e8_b7_0 e8_k0 e8_k1 => some ((e8_b5_0,((0 : Int),(0 : Int),()),()))) (fun e9_b0_0 e9_b1_0 e9_b2_0 e9_b2_1 e9_b5_0 e9_b6_0 e9_b7_0 e9_k0 e9_k1 => some ((e9_b1_0,(e9_b2_0,e9_b2_1,()),()))) (fun _ _ _ _ => rfl) (fun _ _ _ _ _ _ => rfl) n b [] 0 (by omega) (by omega) (by omega) (by simp)
    rcases zc2 hf with rfl | rfl | rfl
    · exact L
    · exact L
    · exact L
end Go.AM
