/- Split.Lines of any texts: the stage theorem of layer 20 holds, for every input. -/
import Derived.Test.YthfaagjjkdoedaaQ2
import Derived.Shelf.Strings.Builder1
import Derived.Shelf.Strings.Builder2
import Derived.Shelf.Strings.OnBuilder
import Derived.Shelf.Strings.BuilderF
import Derived.Shelf.Strings.Search1
import Derived.Shelf.Strings.Search2
import Derived.Shelf.Strings.Search3
import Derived.Shelf.LaysM
import Derived.Shelf.Strings.Shaped
import Derived.Ground.SlbNamesProg
import Derived.Shelf.Bytes.SlJoin
import Derived.Test.YthfaagjjkdoedaaProg
import Derived.KernelRfl
import Derived.Test.YthfaagjjkdoedaaRows
set_option linter.unusedVariables false
namespace Go.AM
noncomputable def F.law20_Few.L2.step {X : Type} (n : Nat) (rec : (List (List UInt8)) → Int → Option X) (k0 : (List (List UInt8)) → Option X) (kr : Bool → Option X) (v0 : List (List UInt8)) (v3 : Int) : Option X :=
  bif decide (v3 < (v0.length : Int)) then
    bif decide (v3 < (41 : Int)) then
      (idx v0 v3).bind fun x1 =>
        bif decide ((x1.length : Int) > (100 : Int)) then
          kr false
        else
          rec v0 (IntKind.wrap .i64 (v3 + (1 : Int)))
    else
      k0 v0
  else
    k0 v0
noncomputable def F.law20_Few.L2 {X : Type} (n : Nat) (k0 : (List (List UInt8)) → Option X) (kr : Bool → Option X) : Nat → (List (List UInt8)) → Int → Option X
  | 0 => fun _ _ => none
  | m + 1 => fun v0 v3 => F.law20_Few.L2.step n (F.law20_Few.L2 n k0 kr m) k0 kr v0 v3
noncomputable def F.law20_Few (n : Nat) (a0 : List (List UInt8)) : Option (Bool) :=
  F.law20_Few.L2 n
    (fun e2_0 =>
      some (decide ((e2_0.length : Int) ≤ (40 : Int))))
    (fun e3_2 =>
      some (e3_2)) n a0 (0 : Int)
noncomputable def F.split_may (n : Nat) (a0 : Int) : Option (Bool) :=
  bif decide (a0 ≥ (1 : Int)) then
    some (decide (a0 ≤ (65536 : Int)))
  else
    some (false)
noncomputable def F.strings_Index (n : Nat) (a0 : List UInt8) (a1 : List UInt8) : Option (Int) :=
  (O.index1 n a0 a1).bind fun y1 =>
    some (y1)
noncomputable def F.strings_Contains (n : Nat) (a0 : List UInt8) (a1 : List UInt8) : Option (Bool) :=
  (F.strings_Index n a0 a1).bind fun y1 =>
    some (decide (y1 ≥ (0 : Int)))
noncomputable def F.split_Lines.L4.step {X : Type} (n : Nat) (rec : (List (List UInt8)) → Int → (List (List UInt8)) → Int → Int → Option X) (k0 : (List (List UInt8)) → Int → Option X) (kr : (List (List (UInt8))) → Int → Int → Nat → Option X) (v0 : List (List UInt8)) (v1 : Int) (v12 : List (List UInt8)) (v13 : Int) (v14 : Int) : Option X :=
  bif decide (v14 < v13) then
    (idx v12 v14).bind fun x2 =>
      (F.strings_Contains n x2 ([10])).bind fun y3 =>
        bif y3 then
          kr [] v14 (14 : Int) 0
        else
        bif decide ((IntKind.wrap .i64 ((x2.length : Int) + (1 : Int))) > v1) then
          kr [] v14 (27 : Int) 0
        else
          rec v0 v1 v12 v13 (IntKind.wrap .i64 (v14 + (1 : Int)))
  else
    k0 v0 v1
noncomputable def F.split_Lines.L4 {X : Type} (n : Nat) (k0 : (List (List UInt8)) → Int → Option X) (kr : (List (List (UInt8))) → Int → Int → Nat → Option X) : Nat → (List (List UInt8)) → Int → (List (List UInt8)) → Int → Int → Option X
  | 0 => fun _ _ _ _ _ => none
  | m + 1 => fun v0 v1 v12 v13 v14 => F.split_Lines.L4.step n (F.split_Lines.L4 n k0 kr m) k0 kr v0 v1 v12 v13 v14
noncomputable def F.split_Lines.L3_split_datagrams_1.step {X : Type} (n : Nat) (rec : (List (UInt8)) → Int → Int → (List (List UInt8)) → Int → Int → (List (List UInt8)) → Int → (List (List (UInt8))) → Nat → Nat → Option X) (k0 : (List (UInt8)) → Int → Int → (List (List UInt8)) → Int → (List (List (UInt8))) → Nat → Nat → Option X) (v4 : List (UInt8)) (v5 : Int) (v6 : Int) (v14 : List (List UInt8)) (v15 : Int) (v16 : Int) (vb0_0 : List (List UInt8)) (vb1_0 : Int) (vb2_0 : List (List (UInt8))) (vk0 : Nat) (vk1 : Nat) : Option X :=
  bif decide (v16 < v15) then
    (idx v14 v16).bind fun x6 =>
      bif decide ((IntKind.wrap .i64 ((IntKind.wrap .i64 ((IntKind.wrap .i64 (v6 + (x6.length : Int))) + (1 : Int))) - v5)) > vb1_0) then
        bif v6 == v6 then
          (sub v4 v5 v6).bind fun x7 =>
            bif decide ((vb2_0.length + 1) * 24 ≤ 2 ^ 46) && decide (0 < 24 ∧ 24 ≤ 2 ^ 20) then
              bif Nat.beq vk1 vb2_0.length then
                rec v4 v6 (IntKind.wrap .i64 ((IntKind.wrap .i64 (v6 + (x6.length : Int))) + (1 : Int))) v14 v15 (IntKind.wrap .i64 (v16 + (1 : Int))) vb0_0 vb1_0 (vb2_0 ++ ([x7])) vk0 ((vb2_0 ++ ([x7])).length)
              else
                none
            else
              none
        else
          none
      else
        rec v4 v5 (IntKind.wrap .i64 ((IntKind.wrap .i64 (v6 + (x6.length : Int))) + (1 : Int))) v14 v15 (IntKind.wrap .i64 (v16 + (1 : Int))) vb0_0 vb1_0 vb2_0 vk0 vk1
  else
    k0 v4 v5 v6 vb0_0 vb1_0 vb2_0 vk0 vk1
noncomputable def F.split_Lines.L3_split_datagrams_1 {X : Type} (n : Nat) (k0 : (List (UInt8)) → Int → Int → (List (List UInt8)) → Int → (List (List (UInt8))) → Nat → Nat → Option X) : Nat → (List (UInt8)) → Int → Int → (List (List UInt8)) → Int → Int → (List (List UInt8)) → Int → (List (List (UInt8))) → Nat → Nat → Option X
  | 0 => fun _ _ _ _ _ _ _ _ _ _ _ => none
  | m + 1 => fun v4 v5 v6 v14 v15 v16 vb0_0 vb1_0 vb2_0 vk0 vk1 => F.split_Lines.L3_split_datagrams_1.step n (F.split_Lines.L3_split_datagrams_1 n k0 m) k0 v4 v5 v6 v14 v15 v16 vb0_0 vb1_0 vb2_0 vk0 vk1
noncomputable def F.split_Lines (n : Nat) (a0 : List (List UInt8)) (a1 : Int) : Option ((List (List (UInt8))) × (Int) × (Int) × Unit) :=
  (F.split_may n a1).bind fun y1 =>
    bif !y1 then
      some (([], (0 : Int), (10 : Int), ()))
    else
      F.split_Lines.L4 n
        (fun e4_0 e4_1 =>
          (O.join n e4_0 ([10])).bind fun y5 =>
            bif decide (y5.length + 1 ≤ strMax) then
              F.split_Lines.L3_split_datagrams_1 n
                (fun e8_4 e8_5 e8_6 e8_b0_0 e8_b1_0 e8_b2_0 e8_k0 e8_k1 =>
                  bif decide (e8_6 > e8_5) then
                    bif e8_6 == e8_6 then
                      (sub e8_4 e8_5 e8_6).bind fun x9 =>
                        bif decide ((e8_b2_0.length + 1) * 24 ≤ 2 ^ 46) && decide (0 < 24 ∧ 24 ≤ 2 ^ 20) then
                          bif Nat.beq e8_k1 e8_b2_0.length then
                            some ((e8_b2_0 ++ ([x9]), (0 : Int), (0 : Int), ()))
                          else
                            none
                        else
                          none
                    else
                      none
                  else
                    some ((e8_b2_0, (0 : Int), (0 : Int), ()))) n (y5 ++ ([10])) (0 : Int) (0 : Int) e4_0 (e4_0.length : Int) (0 : Int) e4_0 e4_1 [] ((y5 ++ ([10])).length) 0
            else
              none)
        (fun e10_4 e10_5 e10_6 e10_k0 =>
          some ((e10_4, e10_5, e10_6, ()))) n a0 a1 a0 (a0.length : Int) (0 : Int)
noncomputable def F.law20_same.L4.step {X : Type} (n : Nat) (rec : (List (List (UInt8))) → (List (List UInt8)) → Int → Option X) (k0 : Unit → Option X) (kr : Bool → Option X) (v0 : List (List (UInt8))) (v1 : List (List UInt8)) (v5 : Int) : Option X :=
  bif decide (v5 < (v0.length : Int)) then
    (idx v0 v5).bind fun x1 =>
      (idx v1 v5).bind fun x2 =>
        bif !(x1 == x2) then
          kr false
        else
          rec v0 v1 (IntKind.wrap .i64 (v5 + (1 : Int)))
  else
    k0 ()
noncomputable def F.law20_same.L4 {X : Type} (n : Nat) (k0 : Unit → Option X) (kr : Bool → Option X) : Nat → (List (List (UInt8))) → (List (List UInt8)) → Int → Option X
  | 0 => fun _ _ _ => none
  | m + 1 => fun v0 v1 v5 => F.law20_same.L4.step n (F.law20_same.L4 n k0 kr m) k0 kr v0 v1 v5
noncomputable def F.law20_same (n : Nat) (a0 : List (List (UInt8))) (a1 : List (List UInt8)) : Option (Bool) :=
  bif !((a0.length : Int) == (a1.length : Int)) then
    some (false)
  else
    F.law20_same.L4 n
      (fun (_ : Unit) =>
        some (true))
      (fun e4_4 =>
        some (e4_4)) n a0 a1 (0 : Int)
noncomputable def F.split_Join (n : Nat) (a0 : List (List (UInt8))) : Option (List (UInt8)) :=
  (O.bjoin n a0 []).bind fun y1 =>
    some (y1)
noncomputable def F.law20_awake (n : Nat) : Option (Bool) :=
  (F.split_Lines n ([[97, 98], [99], [100, 101, 102]]) (5 : Int)).bind fun y1 =>
    (F.split_Lines n ([[97, 98], [99], [100, 101, 102]]) (3 : Int)).bind fun y2 =>
      (F.law20_same n y1.1 ([[97, 98, 10, 99, 10], [100, 101, 102, 10]])).bind fun y3 =>
        bif y3 then
          bif y1.2.1 == (0 : Int) then
            bif y1.2.2.1 == (0 : Int) then
              bif (y2.1.length : Int) == (0 : Int) then
                bif y2.2.1 == (2 : Int) then
                  bif y2.2.2.1 == (27 : Int) then
                    (F.split_Join n y1.1).bind fun y4 =>
                      some (y4 == ([97, 98, 10, 99, 10, 100, 101, 102, 10]))
                  else
                    some (false)
                else
                  some (false)
              else
                some (false)
            else
              some (false)
          else
            some (false)
        else
          some (false)
noncomputable def F.law20_SplitWhole.L8.step {X : Type} (n : Nat) (rec : (List (List UInt8)) → Int → (List (List (UInt8))) → (List UInt8) → Int → Option X) (k0 : Int → (List (List (UInt8))) → (List UInt8) → Option X) (v0 : List (List UInt8)) (v1 : Int) (v5 : List (List (UInt8))) (v8 : List UInt8) (v9 : Int) : Option X :=
  bif decide (v9 < (v0.length : Int)) then
    (idx v0 v9).bind fun x6 =>
      bif decide (v8.length + x6.length ≤ strMax) then
        bif decide (((v8 ++ x6).length) + 1 ≤ strMax) then
          rec v0 v1 v5 ((v8 ++ x6) ++ ([10])) (IntKind.wrap .i64 (v9 + (1 : Int)))
        else
          none
      else
        none
  else
    k0 v1 v5 v8
noncomputable def F.law20_SplitWhole.L8 {X : Type} (n : Nat) (k0 : Int → (List (List (UInt8))) → (List UInt8) → Option X) : Nat → (List (List UInt8)) → Int → (List (List (UInt8))) → (List UInt8) → Int → Option X
  | 0 => fun _ _ _ _ _ => none
  | m + 1 => fun v0 v1 v5 v8 v9 => F.law20_SplitWhole.L8.step n (F.law20_SplitWhole.L8 n k0 m) k0 v0 v1 v5 v8 v9
noncomputable def F.law20_SplitWhole.L13.step {X : Type} (n : Nat) (rec : Int → (List (List (UInt8))) → (List UInt8) → Int → Int → Option X) (k2 : (List (List (UInt8))) → (List UInt8) → Int → Option X) (kr : Bool → Option X) (v1 : Int) (v5 : List (List (UInt8))) (v8 : List UInt8) (v10 : Int) (v11 : Int) : Option X :=
  bif decide (v11 < (v5.length : Int)) then
    (idx v5 v11).bind fun x8 =>
      bif decide ((x8.length : Int) < (1 : Int)) then
        kr false
      else
        (idx v5 v11).bind fun x9 =>
          bif decide ((x9.length : Int) > v1) then
            kr false
          else
            (idx v5 v11).bind fun x10 =>
              (idx v5 v11).bind fun x11 =>
                (idx x10 (IntKind.wrap .i64 ((x11.length : Int) - (1 : Int)))).bind fun x12 =>
                  bif !(((x12).toNat) == (10 : Int)) then
                    kr false
                  else
                  bif decide (v11 > (0 : Int)) then
                    (idx v5 (IntKind.wrap .i64 (v11 - (1 : Int)))).bind fun x13 =>
                      (idx v5 v11).bind fun x14 =>
                        bif decide ((IntKind.wrap .i64 ((x13.length : Int) + (x14.length : Int))) ≤ v1) then
                          kr false
                        else
                          (idx v5 v11).bind fun x15 =>
                            rec v1 v5 v8 (IntKind.wrap .i64 (v10 + (x15.length : Int))) (IntKind.wrap .i64 (v11 + (1 : Int)))
                  else
                    (idx v5 v11).bind fun x16 =>
                      rec v1 v5 v8 (IntKind.wrap .i64 (v10 + (x16.length : Int))) (IntKind.wrap .i64 (v11 + (1 : Int)))
  else
    k2 v5 v8 v10
noncomputable def F.law20_SplitWhole.L13 {X : Type} (n : Nat) (k2 : (List (List (UInt8))) → (List UInt8) → Int → Option X) (kr : Bool → Option X) : Nat → Int → (List (List (UInt8))) → (List UInt8) → Int → Int → Option X
  | 0 => fun _ _ _ _ _ => none
  | m + 1 => fun v1 v5 v8 v10 v11 => F.law20_SplitWhole.L13.step n (F.law20_SplitWhole.L13 n k2 kr m) k2 kr v1 v5 v8 v10 v11
noncomputable def F.law20_SplitWhole (n : Nat) (a0 : List (List UInt8)) (a1 : Int) : Option (Bool) :=
  (F.law20_Few n a0).bind fun y1 =>
    bif !y1 then
      (F.law20_awake n ).bind fun y2 =>
        some (y2)
    else
      (F.split_Lines n a0 a1).bind fun y3 =>
        bif !(y3.2.2.1 == (0 : Int)) then
          bif (y3.1.length : Int) == (0 : Int) then
            bif decide (y3.2.1 ≥ (0 : Int)) then
              bif decide (y3.2.1 < (a0.length : Int)) then
                (F.law20_awake n ).bind fun y4 =>
                  some (y4)
              else
              bif y3.2.1 == (0 : Int) then
                bif y3.2.2.1 == (10 : Int) then
                  (F.law20_awake n ).bind fun y5 =>
                    some (y5)
                else
                  some (false)
              else
                some (false)
            else
              some (false)
          else
            some (false)
        else
          F.law20_SplitWhole.L8 n
            (fun e7_1 e7_5 e7_8 =>
              F.law20_SplitWhole.L13 n
                (fun e17_5 e17_8 e17_10 =>
                  bif e17_10 == (e17_8.length : Int) then
                    (F.split_Join n e17_5).bind fun y18 =>
                      bif y18 == e17_8 then
                        (F.law20_awake n ).bind fun y19 =>
                          some (y19)
                      else
                        some (false)
                  else
                    some (false))
                (fun e20_4 =>
                  some (e20_4)) n e7_1 e7_5 e7_8 (0 : Int) (0 : Int)) n a0 a1 y3.1 [] (0 : Int)
end Go.AM
namespace Go.Proofs
open Go.Shelf
def Try.lays156_ren : Go.Shelf.Ren := ⟨fun | 156 => 20 | 165 => 23 | 166 => 24 | 169 => 25 | 240 => 30 | 241 => 31 | 276 => 34 | 277 => 21 | n => n, fun | 31 => 22 | 9 => 9 | 3 => 3 | 4 => 4 | 0 => 0 | 20 => 20 | 72 => 49 | 76 => 53 | 70 => 47 | 37 => 33 | 75 => 52 | 127 => 59 | 164 => 63 | 5 => 5 | 80 => 55 | n => n, fun | n => n⟩
theorem Try.lays156 : Go.Proofs.Lays.n156 Try.prog Try.lays156_ren := {
  mixed := by kernel_rfl
  f156 := Try.func20.trans (congrArg some (by kernel_rfl))
  f165 := Try.func23.trans (congrArg some (by kernel_rfl))
  f166 := Try.func24.trans (congrArg some (by kernel_rfl))
  f169 := Try.func25.trans (congrArg some (by kernel_rfl))
  f240 := Try.func30.trans (congrArg some (by kernel_rfl))
  f241 := Try.func31.trans (congrArg some (by kernel_rfl))
  f276 := Try.func34.trans (congrArg some (by kernel_rfl))
  f277 := Try.func21.trans (congrArg some (by kernel_rfl))
  t0 := Try.underlying0
  a0 := Try.isAgg0
  z0 := Try.sizeOf0
  v0 := Try.zeroValue0
  t3 := Try.underlying3
  a3 := Try.isAgg3
  z3 := Try.sizeOf3
  v3 := Try.zeroValue3
  t4 := Try.underlying4
  a4 := Try.isAgg4
  z4 := Try.sizeOf4
  v4 := Try.zeroValue4
  t9 := Try.underlying9
  a9 := Try.isAgg9
  z9 := Try.sizeOf9
  v9 := Try.zeroValue9
  t20 := Try.underlying20
  a20 := Try.isAgg20
  z20 := Try.sizeOf20
  v20 := Try.zeroValue20
  t31 := Try.underlying22
  a31 := Try.isAgg22
  z31 := Try.sizeOf22
  v31 := Try.zeroValue22
  t37 := Try.underlying33
  a37 := Try.isAgg33
  z37 := Try.sizeOf33
  v37 := Try.zeroValue33
  t70 := Try.underlying47
  a70 := Try.isAgg47
  z70 := Try.sizeOf47
  v70 := Try.zeroValue47
  t72 := Try.underlying49
  a72 := Try.isAgg49
  z72 := Try.sizeOf49
  v72 := Try.zeroValue49
  t75 := Try.underlying52
  a75 := Try.isAgg52
  z75 := Try.sizeOf52
  v75 := Try.zeroValue52
  t76 := Try.underlying53
  a76 := Try.isAgg53
  z76 := Try.sizeOf53
  v76 := Try.zeroValue53
  t127 := Try.underlying59
  a127 := Try.isAgg59
  z127 := Try.sizeOf59
  v127 := Try.zeroValue59
  t164 := Try.underlying63
  a164 := Try.isAgg63
  z164 := Try.sizeOf63
  v164 := Try.zeroValue63 }
theorem Try.Builder_Extra_156 : Builder.Extra Try.prog Try.lays156_ren := {
  sizeBuilder := by kernel_rfl
  liesBuilder := by kernel_rfl
  t5 := Try.underlying5
  a5 := Try.isAgg5
  z5 := Try.sizeOf5
  v5 := Try.zeroValue5
  infoByte := by kernel_rfl
  cellsByte := by kernel_rfl
  sizeByte := by kernel_rfl
  neB5 := by decide }
open Go.RowKit in
theorem Try.strings_Join_none (a : Option Addr) (c : Nat) (sep : ByteArray) (w : World) :
    Calls Try.prog 20 #[.slice a 0 c, .string sep] w fun e w' => e = .returned (.string ⟨#[]⟩) ∧ w' = w := Any.strings_Join_none Try.lays156 Try.Builder_Extra_156 a c sep w
open Go.RowKit in
theorem Try.strings_Join (bk o c : Nat) (xs : List ByteArray) (sep : ByteArray) (w : World) (hcells : ∀ (j : Nat) x, xs[j]? = some x → w.cell? ⟨bk, o + j, none⟩ = some (.string x)) (hbk : bk < w.heap.size) (hN : xs.length ≤ 140737488355328) (hcap : xs.length ≤ c) (hlen : (Lib.join (xs.map (·.data.toList)) sep.data.toList).length ≤ 140737488355328) :
    Calls Try.prog 20 #[.slice (some ⟨bk, o, none⟩) xs.length c, .string sep] w fun e w' => e = .returned (.string ⟨(Lib.join (xs.map (·.data.toList)) sep.data.toList).toArray⟩) ∧ Below w.heap.size w w' := Any.strings_Join Try.lays156 Try.Builder_Extra_156 bk o c xs sep w hcells hbk hN hcap hlen
def Try.lays219_ren : Go.Shelf.Ren := ⟨fun | 219 => 22 | 217 => 26 | 225 => 27 | 224 => 28 | 267 => 29 | 266 => 32 | 314 => 33 | n => n, fun | 9 => 9 | 3 => 3 | 4 => 4 | 5 => 5 | 46 => 58 | 146 => 61 | 51 => 60 | n => n, fun | 1 => 0 | n => n⟩
theorem Try.lays219 : Go.Proofs.Lays.n219 Try.prog Try.lays219_ren := {
  mixed := by kernel_rfl
  f217 := Try.func26.trans (congrArg some (by kernel_rfl))
  f219 := Try.func22.trans (congrArg some (by kernel_rfl))
  f224 := Try.func28.trans (congrArg some (by kernel_rfl))
  f225 := Try.func27.trans (congrArg some (by kernel_rfl))
  f266 := Try.func32.trans (congrArg some (by kernel_rfl))
  f267 := Try.func29.trans (congrArg some (by kernel_rfl))
  f314 := Try.func33.trans (congrArg some (by kernel_rfl))
  t3 := Try.underlying3
  a3 := Try.isAgg3
  z3 := Try.sizeOf3
  v3 := Try.zeroValue3
  t4 := Try.underlying4
  a4 := Try.isAgg4
  z4 := Try.sizeOf4
  v4 := Try.zeroValue4
  t5 := Try.underlying5
  a5 := Try.isAgg5
  z5 := Try.sizeOf5
  v5 := Try.zeroValue5
  t9 := Try.underlying9
  a9 := Try.isAgg9
  z9 := Try.sizeOf9
  v9 := Try.zeroValue9
  t46 := Try.underlying58
  a46 := Try.isAgg58
  z46 := Try.sizeOf58
  v46 := Try.zeroValue58
  t51 := Try.underlying60
  a51 := Try.isAgg60
  z51 := Try.sizeOf60
  v51 := Try.zeroValue60
  t146 := Try.underlying61
  a146 := Try.isAgg61
  z146 := Try.sizeOf61
  v146 := Try.zeroValue61
  g1 := by kernel_rfl }
open Go.RowKit Go.Lib in
theorem Try.stringslite_Index_one (s : ByteArray) (c : UInt8) (w : World) :
    Calls Try.prog 22 #[.string s, .string ⟨#[c]⟩] w fun e w' => e = .returned (.int .i64 (Lib.indexByte s.data.toList c)) ∧ w' = w := Any.stringslite_Index_one Try.lays219 s c w
def Try.laysSlJ14_ren : Go.Shelf.Ren := ⟨fun | 14 => 16 | 15 => 21 | n => n, fun | 26 => 25 | 22 => 33 | 3 => 3 | 4 => 4 | 0 => 0 | 9 => 9 | 20 => 20 | 5 => 5 | n => n, fun | n => n⟩
theorem Try.laysSlJ14 : Go.Proofs.SlLaysJ.n14 Try.prog Try.laysSlJ14_ren := {
  mixed := by kernel_rfl
  f14 := Try.func16.trans (congrArg some (by kernel_rfl))
  f15 := Try.func21.trans (congrArg some (by kernel_rfl))
  t0 := Try.underlying0
  a0 := Try.isAgg0
  z0 := Try.sizeOf0
  v0 := Try.zeroValue0
  t3 := Try.underlying3
  a3 := Try.isAgg3
  z3 := Try.sizeOf3
  v3 := Try.zeroValue3
  t4 := Try.underlying4
  a4 := Try.isAgg4
  z4 := Try.sizeOf4
  v4 := Try.zeroValue4
  t9 := Try.underlying9
  a9 := Try.isAgg9
  z9 := Try.sizeOf9
  v9 := Try.zeroValue9
  t20 := Try.underlying20
  a20 := Try.isAgg20
  z20 := Try.sizeOf20
  v20 := Try.zeroValue20
  t22 := Try.underlying33
  a22 := Try.isAgg33
  z22 := Try.sizeOf33
  v22 := Try.zeroValue33
  t26 := Try.underlying25
  a26 := Try.isAgg25
  z26 := Try.sizeOf25
  v26 := Try.zeroValue25
  t5 := Try.underlying5
  z5 := Try.sizeOf5
  i5 := by kernel_rfl }
open Go.RowKit Go.Lib in
theorem Try.bytes_Join_many (b o n c : Nat) (vs : List Value) (ls : List (List UInt8)) (sv : Value) (sep : List UInt8) (w : World) (hn : ls.length = n) (h2 : 2 ≤ n) (hP : Lib.PartsAt w ⟨b, o, none⟩ vs ls) (hcap : n ≤ c) (hS : Lib.HoldsBytes w sv sep) (hn47 : n ≤ 140737488355328) (hlen : Lib.lens ls + sep.length * (n - 1) ≤ 140737488355328) :
    Calls Try.prog 16 #[.slice (some ⟨b, o, none⟩) n c, sv] w fun e w' => ∃ v', e = .returned v' ∧ Lib.FreshBytes w.heap.size w' v' (Lib.join ls sep) ∧ Below w.heap.size w w' := Any.bytes_Join_many Try.laysSlJ14 b o n c vs ls sv sep w hn h2 hP hcap hS hn47 hlen
open Go.RowKit Go.Lib in
theorem Try.bytes_Join_none (p : Option Addr) (c : Nat) (sv : Value) (w : World) :
    Calls Try.prog 16 #[.slice p 0 c, sv] w fun e w' => e = .returned (.slice (some ⟨w.heap.size, 0, none⟩) 0 0) ∧ w' = w.alloc (.cells #[] 5) := Any.bytes_Join_none Try.laysSlJ14 p c sv w
open Go.RowKit Go.Lib in
theorem Try.bytes_Join_one (b o c : Nat) (ad0 : Addr) (c0 : Nat) (l0 : List UInt8) (sv : Value) (w : World) (hcell : w.cell? ⟨b, o, none⟩ = some (.slice (some ad0) l0.length c0)) (hc : ∀ (i : Nat) x, l0[i]? = some x → w.cell? (ad0.add i) = some (.int .u8 (x.toNat : Int))) (h0 : 0 < l0.length) (hs : l0.length ≤ 140737488355328) :
    Calls Try.prog 16 #[.slice (some ⟨b, o, none⟩) 1 c, sv] w fun e w' => ∃ v', e = .returned v' ∧ Lib.FreshBytes w.heap.size w' v' l0 ∧ Below w.heap.size w w' := Any.bytes_Join_one Try.laysSlJ14 b o c ad0 c0 l0 sv w hcell hc h0 hs
open Go.RowKit Go.Lib in
theorem Try.bytes_Join_one_empty (b o c : Nat) (p0 : Option Addr) (c0 : Nat) (sv : Value) (w : World) (hcell : w.cell? ⟨b, o, none⟩ = some (.slice p0 0 c0)) :
    Calls Try.prog 16 #[.slice (some ⟨b, o, none⟩) 1 c, sv] w fun e w' => e = .returned (.slice none 0 0) ∧ w' = w := Any.bytes_Join_one_empty Try.laysSlJ14 b o c p0 c0 sv w hcell
end Go.Proofs
set_option linter.unusedVariables false
set_option maxRecDepth 100000
namespace Go.AM
open Go.Proofs
def SI (w : World) : Prop := True
def SW : World → Prop := WOf SI
theorem mixed : Try.prog.follows .mixedOrders = true := by kernel_rfl
def tab : Tree TI := .node 25 (.node 5 (.node 4 (.one 3 ⟨.int .i64, 1, 8, false, [(.int .i64 (0 : Int))], some (.int .i64), false⟩) (.one 4 ⟨.bool, 1, 1, false, [(.bool false)], some .bool, false⟩)) (.node 9 (.one 5 ⟨.int .u8, 1, 1, false, [(.int .u8 (0 : Int))], some .u8, false⟩) (.node 22 (.one 9 ⟨.str, 1, 16, false, [(.str [])], some .str, false⟩) (.one 22 ⟨.slice 9, 1, 24, false, [.sl .str [] .full], some (.sl .str), false⟩)))) (.node 33 (.node 26 (.one 25 ⟨.slice 33, 1, 24, false, [.sl (.sl .u8) [] .full], some (.sl (.sl .u8)), false⟩) (.node 27 (.one 26 ⟨.int .i64, 1, 8, false, [(.int .i64 (0 : Int))], some (.int .i64), false⟩) (.one 27 ⟨.other, 1, 0, false, [.any], none, false⟩))) (.node 39 (.one 33 ⟨.slice 5, 1, 24, false, [.sl .u8 [] .full], some (.sl .u8), false⟩) (.node 44 (.one 39 ⟨.func, 1, 8, false, [.nilfn], none, false⟩) (.one 44 ⟨.func, 1, 8, false, [.nilfn], none, false⟩))))
theorem tab_ok : tab.all (tiOK Try.prog) = true := by kernel_rfl
def F.law20_Few.L2.head : Shape := ⟨[(0, (.sl .str .unk)), (3, (.int .i64))], [], [], [], [], 0, 0, 0⟩
def F.law20_Few.L2.e0 : Shape := ⟨[(0, (.sl .str .unk))], [], [], [], [], 0, 0, 0⟩
def F.law20_Few.L2.er : Shape := ⟨[(2, .bool)], [], [], [], [], 0, 0, 0⟩
noncomputable def F.law20_Few.L2.f {X : Type} (n m : Nat) (ks : Ks X) (s : F.law20_Few.L2.head.den) : Option X := F.law20_Few.L2 n (fun q0 => ks.ex 0 (F.law20_Few.L2.e0.e ((q0, ()), (), (), ())) (F.law20_Few.L2.e0.h ((q0, ()), (), (), ()))) (fun q2 => ks.ret (F.law20_Few.L2.er.e ((q2, ()), (), (), ())) (F.law20_Few.L2.er.h ((q2, ()), (), (), ()))) m s.1.1 s.1.2.1
noncomputable def F.law20_Few.L2.li (X : Type) (n : Nat) : LoopI X := ⟨8, ⟨0, 0, 0⟩, F.law20_Few.L2.head, [(0, F.law20_Few.L2.e0)], some F.law20_Few.L2.er, F.law20_Few.L2.f n n⟩
noncomputable def cx5 (X : Type) (n : Nat) : Cx X := mkCx tab.get [(5, Try.f5)] [] [(5, 2, [F.law20_Few.L2.li X n])] [] [] []
theorem F.law20_Few.L2.ok (X : Type) (n : Nat) : LoopOK (cx5 X n) 5 Try.f5.ntmps (loopNo Try.f5 0) (F.law20_Few.L2.li X n) :=
  ⟨F.law20_Few.L2.f n, n, fun _ _ => rfl, fun _ _ => rfl, fun m ks s => by kernel_rfl⟩
theorem cx5_ok (X : Type) (n : Nat) : CxOK Try.prog SW (cx5 X n) := mkCx_ok mixed (tabOK tab_ok) ⟨⟨Try.func5, by decide⟩, trivial⟩ trivial ⟨okC_mk rfl (by kernel_rfl) (castP (by kernel_rfl) (show (LoopOK (cx5 X n) 5 Try.f5.ntmps (loopNo Try.f5 0) (F.law20_Few.L2.li X n) ∧ True) ∧ True from ⟨⟨F.law20_Few.L2.ok X n, trivial⟩, trivial⟩)) (castP (by kernel_rfl) (show True from trivial)), trivial⟩ trivial
theorem ok5 (n : Nat) : FnOK Try.prog SW 5 [(.sl .str .unk)] (.one .bool) (fun x => F.law20_Few n x.1) := fnOK_of WOf.st (cx5_ok _ n) (d := 8) (fun x => by kernel_rfl)
noncomputable def cx11 (X : Type) (n : Nat) : Cx X := mkCx tab.get [(11, Try.f11)] [] [] [] [] []
theorem cx11_ok (X : Type) (n : Nat) : CxOK Try.prog SW (cx11 X n) := mkCx_ok mixed (tabOK tab_ok) ⟨⟨Try.func11, by decide⟩, trivial⟩ trivial ⟨okC_mk rfl (by kernel_rfl) (castP (by kernel_rfl) (show True from trivial)) (castP (by kernel_rfl) (show True from trivial)), trivial⟩ trivial
theorem ok11 (n : Nat) : FnOK Try.prog SW 11 [(.int .i64)] (.one .bool) (fun x => F.split_may n x.1) := fnOK_of WOf.st (cx11_ok _ n) (d := 8) (fun x => by kernel_rfl)
theorem ok22 (n : Nat) : FnOK Try.prog SW 22 [.str, .str] (.one (.int .i64)) (fun x => O.index1 n x.1 x.2.1) := index1_ok (enters Try.func22 (by kernel_rfl) (by decide)) Try.stringslite_Index_one n
noncomputable def cx17 (X : Type) (n : Nat) : Cx X := mkCx tab.get [(17, Try.f17)] [(22, orcOf [.str, .str] (.one (.int .i64)) (fun x => O.index1 n x.1 x.2.1))] [] [] [] []
theorem cx17_ok (X : Type) (n : Nat) : CxOK Try.prog SW (cx17 X n) := mkCx_ok mixed (tabOK tab_ok) ⟨⟨Try.func17, by decide⟩, trivial⟩ ⟨orcOf_ok (ok22 n), trivial⟩ ⟨okC_mk rfl (by kernel_rfl) (castP (by kernel_rfl) (show True from trivial)) (castP (by kernel_rfl) (show True from trivial)), trivial⟩ trivial
theorem ok17 (n : Nat) : FnOK Try.prog SW 17 [.str, .str] (.one (.int .i64)) (fun x => F.strings_Index n x.1 x.2.1) := fnOK_of WOf.st (cx17_ok _ n) (d := 8) (fun x => by kernel_rfl)
noncomputable def cx12 (X : Type) (n : Nat) : Cx X := mkCx tab.get [(12, Try.f12)] [(17, orcOf [.str, .str] (.one (.int .i64)) (fun x => F.strings_Index n x.1 x.2.1))] [] [] [] []
theorem cx12_ok (X : Type) (n : Nat) : CxOK Try.prog SW (cx12 X n) := mkCx_ok mixed (tabOK tab_ok) ⟨⟨Try.func12, by decide⟩, trivial⟩ ⟨orcOf_ok (ok17 n), trivial⟩ ⟨okC_mk rfl (by kernel_rfl) (castP (by kernel_rfl) (show True from trivial)) (castP (by kernel_rfl) (show True from trivial)), trivial⟩ trivial
theorem ok12 (n : Nat) : FnOK Try.prog SW 12 [.str, .str] (.one .bool) (fun x => F.strings_Contains n x.1 x.2.1) := fnOK_of WOf.st (cx12_ok _ n) (d := 8) (fun x => by kernel_rfl)
theorem ok20 (n : Nat) : FnOK Try.prog SW 20 [(.sl .str .unk), .str] (.one .str) (fun x => O.join n x.1 x.2.1) := join_ok (enters Try.func20 (by kernel_rfl) (by decide)) Try.strings_Join_none Try.strings_Join n
def F.split_Lines.L4.head : Shape := ⟨[(0, (.sl .str .unk)), (1, (.int .i64)), (12, (.sl .str .unk)), (13, (.int .i64)), (14, (.int .i64))], [], [], [], [], 0, 0, 0⟩
def F.split_Lines.L4.e0 : Shape := ⟨[(0, (.sl .str .unk)), (1, (.int .i64))], [], [], [], [], 0, 0, 0⟩
def F.split_Lines.L4.er : Shape := ⟨[(4, (.sl (.sl .u8) (.own 0))), (5, (.int .i64)), (6, (.int .i64))], [], [true], [], [], 0, 0, 0⟩
noncomputable def F.split_Lines.L4.f {X : Type} (n m : Nat) (ks : Ks X) (s : F.split_Lines.L4.head.den) : Option X := F.split_Lines.L4 n (fun q0 q1 => ks.ex 0 (F.split_Lines.L4.e0.e ((q0, q1, ()), (), (), ())) (F.split_Lines.L4.e0.h ((q0, q1, ()), (), (), ()))) (fun q4 q5 q6 qk0 => ks.ret (F.split_Lines.L4.er.e ((q4, q5, q6, ()), (), (qk0, ()), ())) (F.split_Lines.L4.er.h ((q4, q5, q6, ()), (), (qk0, ()), ()))) m s.1.1 s.1.2.1 s.1.2.2.1 s.1.2.2.2.1 s.1.2.2.2.2.1
noncomputable def F.split_Lines.L4.li (X : Type) (n : Nat) : LoopI X := ⟨8, ⟨0, 0, 0⟩, F.split_Lines.L4.head, [(0, F.split_Lines.L4.e0)], some F.split_Lines.L4.er, F.split_Lines.L4.f n n⟩
def F.split_Lines.L3_split_datagrams_1.head : Shape := ⟨[(0, (.const (.yield 0))), (2, (.const (.ref 1 0))), (4, (.sl .u8 (.own 0))), (5, (.int .i64)), (6, (.int .i64)), (14, (.sl .str .unk)), (15, (.int .i64)), (16, (.int .i64))], [[(.sl .str .unk)], [(.int .i64)], [(.sl (.sl .u8) (.own 1))]], [true, true], [.ready], [(0, 18, 2, [(2, (.const (.ref 2 0)))])], 3, 0, 1⟩
def F.split_Lines.L3_split_datagrams_1.e0 : Shape := ⟨[(0, (.const (.yield 0))), (4, (.sl .u8 (.own 0))), (5, (.int .i64)), (6, (.int .i64))], [[(.sl .str .unk)], [(.int .i64)], [(.sl (.sl .u8) (.own 1))]], [true, true], [.ready], [], 3, 0, 1⟩
noncomputable def F.split_Lines.L3_split_datagrams_1.f {X : Type} (n m : Nat) (ks : Ks X) (s : F.split_Lines.L3_split_datagrams_1.head.den) : Option X := F.split_Lines.L3_split_datagrams_1 n (fun q4 q5 q6 qb0_0 qb1_0 qb2_0 qk0 qk1 => ks.ex 0 (F.split_Lines.L3_split_datagrams_1.e0.e (((), q4, q5, q6, ()), ((qb0_0, ()), (qb1_0, ()), (qb2_0, ()), ()), (qk0, qk1, ()), ())) (F.split_Lines.L3_split_datagrams_1.e0.h (((), q4, q5, q6, ()), ((qb0_0, ()), (qb1_0, ()), (qb2_0, ()), ()), (qk0, qk1, ()), ()))) m s.1.2.2.1 s.1.2.2.2.1 s.1.2.2.2.2.1 s.1.2.2.2.2.2.1 s.1.2.2.2.2.2.2.1 s.1.2.2.2.2.2.2.2.1 s.2.1.1.1 s.2.1.2.1.1 s.2.1.2.2.1.1 s.2.2.1.1 s.2.2.1.2.1
noncomputable def F.split_Lines.L3_split_datagrams_1.li (X : Type) (n : Nat) : LoopI X := ⟨5, ⟨3, 0, 1⟩, F.split_Lines.L3_split_datagrams_1.head, [(0, F.split_Lines.L3_split_datagrams_1.e0)], none, F.split_Lines.L3_split_datagrams_1.f n n⟩
noncomputable def cx7 (X : Type) (n : Nat) : Cx X := mkCx tab.get [(7, Try.f7), (13, Try.f13), (14, Try.f14), (18, Try.f18), (19, Try.f19)] [(11, orcOf [(.int .i64)] (.one .bool) (fun x => F.split_may n x.1)), (12, orcOf [.str, .str] (.one .bool) (fun x => F.strings_Contains n x.1 x.2.1)), (20, orcOf [(.sl .str .unk), .str] (.one .str) (fun x => O.join n x.1 x.2.1))] [(7, 4, [F.split_Lines.L4.li X n]), (19, 3, [F.split_Lines.L3_split_datagrams_1.li X n])] [(18, 2, Try.f18, [2], 0)] [] []
theorem F.split_Lines.L4.ok (X : Type) (n : Nat) : LoopOK (cx7 X n) 7 Try.f7.ntmps (loopNo Try.f7 0) (F.split_Lines.L4.li X n) :=
  ⟨F.split_Lines.L4.f n, n, fun _ _ => rfl, fun _ _ => rfl, fun m ks s => by kernel_rfl⟩
theorem F.split_Lines.L3_split_datagrams_1.ok (X : Type) (n : Nat) : LoopOK (cx7 X n) 19 Try.f19.ntmps (loopNo Try.f19 0) (F.split_Lines.L3_split_datagrams_1.li X n) :=
  ⟨F.split_Lines.L3_split_datagrams_1.f n, n, fun _ _ => rfl, fun _ _ => rfl, fun m ks s => by kernel_rfl⟩
theorem cx7_ok (X : Type) (n : Nat) : CxOK Try.prog SW (cx7 X n) := mkCx_ok mixed (tabOK tab_ok) ⟨⟨Try.func7, by decide⟩,
  ⟨Try.func13, by decide⟩,
  ⟨Try.func14, by decide⟩,
  ⟨Try.func18, by decide⟩,
  ⟨Try.func19, by decide⟩, trivial⟩ ⟨orcOf_ok (ok11 n),
  orcOf_ok (ok12 n),
  orcOf_ok (ok20 n), trivial⟩ ⟨okC_mk rfl (by kernel_rfl) (castP (by kernel_rfl) (show (LoopOK (cx7 X n) 7 Try.f7.ntmps (loopNo Try.f7 0) (F.split_Lines.L4.li X n) ∧ True) ∧ True from ⟨⟨F.split_Lines.L4.ok X n, trivial⟩, trivial⟩)) (castP (by kernel_rfl) (show True from trivial)),
  okC_mk rfl (by kernel_rfl) (castP (by kernel_rfl) (show True from trivial)) (castP (by kernel_rfl) (show True from trivial)),
  okC_mk rfl (by kernel_rfl) (castP (by kernel_rfl) (show True from trivial)) (castP (by kernel_rfl) (show True from trivial)),
  okC_mk rfl (by kernel_rfl) (castP (by kernel_rfl) (show True from trivial)) (castP (by kernel_rfl) (show (∀ i, some 2 = some i → ∃ lv, (cx7 X n).rfs 18 i = some (Try.f18.ntmps, lv, rfNo Try.f18 0)) ∧ True from ⟨(fun i h => by cases h; exact ⟨[2], by kernel_rfl⟩), trivial⟩)),
  okC_mk rfl (by kernel_rfl) (castP (by kernel_rfl) (show (LoopOK (cx7 X n) 19 Try.f19.ntmps (loopNo Try.f19 0) (F.split_Lines.L3_split_datagrams_1.li X n) ∧ True) ∧ True from ⟨⟨F.split_Lines.L3_split_datagrams_1.ok X n, trivial⟩, trivial⟩)) (castP (by kernel_rfl) (show True from trivial)), trivial⟩ ⟨⟨Try.func18, rfl⟩, trivial⟩
theorem ok7 (n : Nat) : FnOK Try.prog SW 7 [(.sl .str .unk), (.int .i64)] (.many [(.sl (.sl .u8) .unk), (.int .i64), (.int .i64)]) (fun x => F.split_Lines n x.1 x.2.1) := fnOK_of WOf.st (cx7_ok _ n) (d := 8) (fun x => by kernel_rfl)
def F.law20_same.L4.head : Shape := ⟨[(0, (.sl (.sl .u8) .unk)), (1, (.sl .str .unk)), (5, (.int .i64))], [], [], [], [], 0, 0, 0⟩
def F.law20_same.L4.e0 : Shape := ⟨[], [], [], [], [], 0, 0, 0⟩
def F.law20_same.L4.er : Shape := ⟨[(4, .bool)], [], [], [], [], 0, 0, 0⟩
noncomputable def F.law20_same.L4.f {X : Type} (n m : Nat) (ks : Ks X) (s : F.law20_same.L4.head.den) : Option X := F.law20_same.L4 n (fun (_ : Unit) => ks.ex 0 (F.law20_same.L4.e0.e ((), (), (), ())) (F.law20_same.L4.e0.h ((), (), (), ()))) (fun q4 => ks.ret (F.law20_same.L4.er.e ((q4, ()), (), (), ())) (F.law20_same.L4.er.h ((q4, ()), (), (), ()))) m s.1.1 s.1.2.1 s.1.2.2.1
noncomputable def F.law20_same.L4.li (X : Type) (n : Nat) : LoopI X := ⟨8, ⟨0, 0, 0⟩, F.law20_same.L4.head, [(0, F.law20_same.L4.e0)], some F.law20_same.L4.er, F.law20_same.L4.f n n⟩
noncomputable def cx9 (X : Type) (n : Nat) : Cx X := mkCx tab.get [(9, Try.f9)] [] [(9, 4, [F.law20_same.L4.li X n])] [] [] []
theorem F.law20_same.L4.ok (X : Type) (n : Nat) : LoopOK (cx9 X n) 9 Try.f9.ntmps (loopNo Try.f9 0) (F.law20_same.L4.li X n) :=
  ⟨F.law20_same.L4.f n, n, fun _ _ => rfl, fun _ _ => rfl, fun m ks s => by kernel_rfl⟩
theorem cx9_ok (X : Type) (n : Nat) : CxOK Try.prog SW (cx9 X n) := mkCx_ok mixed (tabOK tab_ok) ⟨⟨Try.func9, by decide⟩, trivial⟩ trivial ⟨okC_mk rfl (by kernel_rfl) (castP (by kernel_rfl) (show (LoopOK (cx9 X n) 9 Try.f9.ntmps (loopNo Try.f9 0) (F.law20_same.L4.li X n) ∧ True) ∧ True from ⟨⟨F.law20_same.L4.ok X n, trivial⟩, trivial⟩)) (castP (by kernel_rfl) (show True from trivial)), trivial⟩ trivial
theorem ok9 (n : Nat) : FnOK Try.prog SW 9 [(.sl (.sl .u8) .unk), (.sl .str .unk)] (.one .bool) (fun x => F.law20_same n x.1 x.2.1) := fnOK_of WOf.st (cx9_ok _ n) (d := 8) (fun x => by kernel_rfl)
theorem ok16 (n : Nat) : FnOK Try.prog SW 16 [(.sl (.sl .u8) .unk), (.sl .u8 .unk)] (.one (.sl .u8 .unk)) (fun x => O.bjoin n x.1 x.2.1) := bjoin_ok (enters Try.func16 (by kernel_rfl) (by decide)) (fun p c sv w => ⟨_, Try.bytes_Join_none p c sv w⟩) Try.bytes_Join_one Try.bytes_Join_one_empty Try.bytes_Join_many n
noncomputable def cx10 (X : Type) (n : Nat) : Cx X := mkCx tab.get [(10, Try.f10)] [(16, orcOf [(.sl (.sl .u8) .unk), (.sl .u8 .unk)] (.one (.sl .u8 .unk)) (fun x => O.bjoin n x.1 x.2.1))] [] [] [] []
theorem cx10_ok (X : Type) (n : Nat) : CxOK Try.prog SW (cx10 X n) := mkCx_ok mixed (tabOK tab_ok) ⟨⟨Try.func10, by decide⟩, trivial⟩ ⟨orcOf_ok (ok16 n), trivial⟩ ⟨okC_mk rfl (by kernel_rfl) (castP (by kernel_rfl) (show True from trivial)) (castP (by kernel_rfl) (show True from trivial)), trivial⟩ trivial
theorem ok10 (n : Nat) : FnOK Try.prog SW 10 [(.sl (.sl .u8) .unk)] (.one (.sl .u8 .unk)) (fun x => F.split_Join n x.1) := fnOK_of WOf.st (cx10_ok _ n) (d := 8) (fun x => by kernel_rfl)
noncomputable def cx6 (X : Type) (n : Nat) : Cx X := mkCx tab.get [(6, Try.f6)] [(7, orcOf [(.sl .str .unk), (.int .i64)] (.many [(.sl (.sl .u8) .unk), (.int .i64), (.int .i64)]) (fun x => F.split_Lines n x.1 x.2.1)), (9, orcOf [(.sl (.sl .u8) .unk), (.sl .str .unk)] (.one .bool) (fun x => F.law20_same n x.1 x.2.1)), (10, orcOf [(.sl (.sl .u8) .unk)] (.one (.sl .u8 .unk)) (fun x => F.split_Join n x.1))] [] [] [] []
theorem cx6_ok (X : Type) (n : Nat) : CxOK Try.prog SW (cx6 X n) := mkCx_ok mixed (tabOK tab_ok) ⟨⟨Try.func6, by decide⟩, trivial⟩ ⟨orcOf_ok (ok7 n),
  orcOf_ok (ok9 n),
  orcOf_ok (ok10 n), trivial⟩ ⟨okC_mk rfl (by kernel_rfl) (castP (by kernel_rfl) (show True from trivial)) (castP (by kernel_rfl) (show True from trivial)), trivial⟩ trivial
theorem ok6 (n : Nat) : FnOK Try.prog SW 6 [] (.one .bool) (fun x => F.law20_awake n ) := fnOK_of WOf.st (cx6_ok _ n) (d := 8) (fun x => by kernel_rfl)
def F.law20_SplitWhole.L8.head : Shape := ⟨[(0, (.sl .str .unk)), (1, (.int .i64)), (5, (.sl (.sl .u8) .unk)), (8, .str), (9, (.int .i64))], [], [], [], [], 0, 0, 0⟩
def F.law20_SplitWhole.L8.e0 : Shape := ⟨[(1, (.int .i64)), (5, (.sl (.sl .u8) .unk)), (8, .str)], [], [], [], [], 0, 0, 0⟩
noncomputable def F.law20_SplitWhole.L8.f {X : Type} (n m : Nat) (ks : Ks X) (s : F.law20_SplitWhole.L8.head.den) : Option X := F.law20_SplitWhole.L8 n (fun q1 q5 q8 => ks.ex 0 (F.law20_SplitWhole.L8.e0.e ((q1, q5, q8, ()), (), (), ())) (F.law20_SplitWhole.L8.e0.h ((q1, q5, q8, ()), (), (), ()))) m s.1.1 s.1.2.1 s.1.2.2.1 s.1.2.2.2.1 s.1.2.2.2.2.1
noncomputable def F.law20_SplitWhole.L8.li (X : Type) (n : Nat) : LoopI X := ⟨8, ⟨0, 0, 0⟩, F.law20_SplitWhole.L8.head, [(0, F.law20_SplitWhole.L8.e0)], none, F.law20_SplitWhole.L8.f n n⟩
def F.law20_SplitWhole.L13.head : Shape := ⟨[(1, (.int .i64)), (5, (.sl (.sl .u8) .unk)), (8, .str), (10, (.int .i64)), (11, (.int .i64))], [], [], [], [], 0, 0, 0⟩
def F.law20_SplitWhole.L13.e2 : Shape := ⟨[(5, (.sl (.sl .u8) .unk)), (8, .str), (10, (.int .i64))], [], [], [], [], 0, 0, 0⟩
def F.law20_SplitWhole.L13.er : Shape := ⟨[(4, .bool)], [], [], [], [], 0, 0, 0⟩
noncomputable def F.law20_SplitWhole.L13.f {X : Type} (n m : Nat) (ks : Ks X) (s : F.law20_SplitWhole.L13.head.den) : Option X := F.law20_SplitWhole.L13 n (fun q5 q8 q10 => ks.ex 2 (F.law20_SplitWhole.L13.e2.e ((q5, q8, q10, ()), (), (), ())) (F.law20_SplitWhole.L13.e2.h ((q5, q8, q10, ()), (), (), ()))) (fun q4 => ks.ret (F.law20_SplitWhole.L13.er.e ((q4, ()), (), (), ())) (F.law20_SplitWhole.L13.er.h ((q4, ()), (), (), ()))) m s.1.1 s.1.2.1 s.1.2.2.1 s.1.2.2.2.1 s.1.2.2.2.2.1
noncomputable def F.law20_SplitWhole.L13.li (X : Type) (n : Nat) : LoopI X := ⟨8, ⟨0, 0, 0⟩, F.law20_SplitWhole.L13.head, [(2, F.law20_SplitWhole.L13.e2)], some F.law20_SplitWhole.L13.er, F.law20_SplitWhole.L13.f n n⟩
noncomputable def cx4 (X : Type) (n : Nat) : Cx X := mkCx tab.get [(4, Try.f4)] [(5, orcOf [(.sl .str .unk)] (.one .bool) (fun x => F.law20_Few n x.1)), (6, orcOf [] (.one .bool) (fun x => F.law20_awake n )), (7, orcOf [(.sl .str .unk), (.int .i64)] (.many [(.sl (.sl .u8) .unk), (.int .i64), (.int .i64)]) (fun x => F.split_Lines n x.1 x.2.1)), (10, orcOf [(.sl (.sl .u8) .unk)] (.one (.sl .u8 .unk)) (fun x => F.split_Join n x.1))] [(4, 8, [F.law20_SplitWhole.L8.li X n]), (4, 13, [F.law20_SplitWhole.L13.li X n])] [] [] []
theorem F.law20_SplitWhole.L8.ok (X : Type) (n : Nat) : LoopOK (cx4 X n) 4 Try.f4.ntmps (loopNo Try.f4 0) (F.law20_SplitWhole.L8.li X n) :=
  ⟨F.law20_SplitWhole.L8.f n, n, fun _ _ => rfl, fun _ _ => rfl, fun m ks s => by kernel_rfl⟩
theorem F.law20_SplitWhole.L13.ok (X : Type) (n : Nat) : LoopOK (cx4 X n) 4 Try.f4.ntmps (loopNo Try.f4 1) (F.law20_SplitWhole.L13.li X n) :=
  ⟨F.law20_SplitWhole.L13.f n, n, fun _ _ => rfl, fun _ _ => rfl, fun m ks s => by kernel_rfl⟩
theorem cx4_ok (X : Type) (n : Nat) : CxOK Try.prog SW (cx4 X n) := mkCx_ok mixed (tabOK tab_ok) ⟨⟨Try.func4, by decide⟩, trivial⟩ ⟨orcOf_ok (ok5 n),
  orcOf_ok (ok6 n),
  orcOf_ok (ok7 n),
  orcOf_ok (ok10 n), trivial⟩ ⟨okC_mk rfl (by kernel_rfl) (castP (by kernel_rfl) (show (LoopOK (cx4 X n) 4 Try.f4.ntmps (loopNo Try.f4 0) (F.law20_SplitWhole.L8.li X n) ∧ True) ∧ (LoopOK (cx4 X n) 4 Try.f4.ntmps (loopNo Try.f4 1) (F.law20_SplitWhole.L13.li X n) ∧ True) ∧ True from ⟨⟨F.law20_SplitWhole.L8.ok X n, trivial⟩, ⟨F.law20_SplitWhole.L13.ok X n, trivial⟩, trivial⟩)) (castP (by kernel_rfl) (show True from trivial)), trivial⟩ trivial
theorem ok4 (n : Nat) : FnOK Try.prog SW 4 [(.sl .str .unk), (.int .i64)] (.one .bool) (fun x => F.law20_SplitWhole n x.1 x.2.1) := fnOK_of WOf.st (cx4_ok _ n) (d := 8) (fun x => by kernel_rfl)
end Go.AM
set_option linter.unusedVariables false
set_option linter.unusedSimpArgs false
namespace Go.AM
def small100 (s : List UInt8) : Bool := decide (s.length ≤ 100)
def few20 (l : List (List UInt8)) : Bool := decide (l.length ≤ 40) && l.all small100
def bad (mtu : Int) : Nat → List (List UInt8) → Option (Nat × Int)
  | _, [] => none
  | k, s :: l => if 10 ∈ s then some (k, 14) else if (s.length : Int) + 1 > mtu then some (k, 27) else bad mtu (k + 1) l
def grams (mtu : Int) : List UInt8 → List (List UInt8) → List (List UInt8)
  | cur, [] => if cur = [] then [] else [cur]
  | cur, s :: l => if (cur.length : Int) + s.length + 1 > mtu then cur :: grams mtu (s ++ [10]) l else grams mtu (cur ++ s ++ [10]) l
theorem grams_cons (mtu : Int) (cur s : List UInt8) (l : List (List UInt8)) : grams mtu cur (s :: l) = if (cur.length : Int) + s.length + 1 > mtu then cur :: grams mtu (s ++ [10]) l else grams mtu (cur ++ s ++ [10]) l := rfl
def linesOf (l : List (List UInt8)) (mtu : Int) : List (List UInt8) × Int × Int × Unit :=
  if mtu < 1 ∨ 65536 < mtu then ([], 0, 10, ()) else match bad mtu 0 l with
    | some (k, e) => ([], (k : Int), e, ())
    | none => (grams mtu [] l, 0, 0, ())
theorem few_loop (n : Nat) (X : Type) (k0 : List (List UInt8) → Option X) (kr : Bool → Option X) (l : List (List UInt8)) : ∀ (r : List (List UInt8)) (k m : Nat), l.drop k = r → k ≤ 41 → 42 < m + k →
    F.law20_Few.L2 n k0 kr m l k = if (r.take (41 - k)).all small100 then k0 l else kr false := by
  intro r
  induction r with
  | nil =>
    intro k m hk hk1 hm
    have := drop_nil' hk
    cases m with
    | zero => omega
    | succ m =>
      show F.law20_Few.L2.step n _ k0 kr l k = _
      unfold F.law20_Few.L2.step
      rw [bif_neg (by omega)]
      simp
  | cons x r ih =>
    intro k m hk hk1 hm
    obtain ⟨h1, h2, h3⟩ := drop_cons hk
    cases m with
    | zero => omega
    | succ m =>
      show F.law20_Few.L2.step n (F.law20_Few.L2 n k0 kr m) k0 kr l k = _
      unfold F.law20_Few.L2.step
      rw [bif_pos (by omega)]
      by_cases h41 : k < 41
      · rw [bif_pos (by omega), idx_nat, h2, some_bind', show 41 - k = (41 - (k + 1)) + 1 from by omega, List.take_succ_cons, List.all_cons]
        by_cases hx : x.length ≤ 100
        · rw [bif_neg (by omega), wrap_succ (by omega), ih (k + 1) m h3 (by omega) (by omega)]
          simp [small100, hx]
        · rw [bif_pos (by omega)]
          simp [small100, hx]
      · rw [bif_neg (by omega), show 41 - k = 0 from by omega]
        simp
theorem few_eq (n : Nat) (h : 100 ≤ n) (l : List (List UInt8)) : F.law20_Few n l = some (few20 l) := by
  unfold F.law20_Few
  refine (few_loop n Bool _ _ l l 0 n rfl (by omega) (by omega)).trans ?_
  unfold few20
  by_cases hl : l.length ≤ 40
  · rw [List.take_of_length_le (by omega)]
    by_cases ha : l.all small100 = true
    · simp [ha, hl]; omega
    · simp [ha]
  · by_cases ha : (l.take 41).all small100 = true
    · simp [ha, hl]; omega
    · simp [ha, hl]
theorem may_eq (n : Nat) (mtu : Int) : F.split_may n mtu = some (decide (1 ≤ mtu ∧ mtu ≤ 65536)) := by
  unfold F.split_may
  by_cases h : 1 ≤ mtu
  · rw [bif_pos (by omega)]; simp [h]
  · rw [bif_neg (by omega)]; simp [h]
theorem contains_eq (n : Nat) (s : List UInt8) : F.strings_Contains n s [10] = some (decide (10 ∈ s)) := by
  unfold F.strings_Contains F.strings_Index O.index1
  simp only [some_bind']
  congr 1
  have := indexByte_ge (l := s) (c := 10)
  by_cases h : 10 ∈ s
  · simp [h, this.2 h]
  · simp only [h, decide_false, decide_eq_false_iff_not]
    intro h2
    exact h (this.1 h2)
theorem bad_loop (n : Nat) (X : Type) (k0 : List (List UInt8) → Int → Option X) (kr : List (List UInt8) → Int → Int → Nat → Option X) (l : List (List UInt8)) (mtu : Int) (hl : few20 l = true) : ∀ (r : List (List UInt8)) (k m : Nat), l.drop k = r → r.length < m →
    F.split_Lines.L4 n k0 kr m l mtu l (l.length : Int) k = match bad mtu k r with
      | some (j, e) => kr [] (j : Int) e 0
      | none => k0 l mtu := by
  simp only [few20, Bool.and_eq_true, decide_eq_true_eq, List.all_eq_true, small100] at hl
  intro r
  induction r with
  | nil =>
    intro k m hk hm
    have := drop_nil' hk
    cases m with
    | zero => simp at hm
    | succ m =>
      show F.split_Lines.L4.step n _ k0 kr l mtu l _ k = _
      unfold F.split_Lines.L4.step
      rw [bif_neg (by omega)]
      rfl
  | cons x r ih =>
    intro k m hk hm
    obtain ⟨h1, h2, h3⟩ := drop_cons hk
    have hx : x.length ≤ 100 := hl.2 x (List.mem_of_getElem? h2)
    cases m with
    | zero => simp at hm
    | succ m =>
      show F.split_Lines.L4.step n (F.split_Lines.L4 n k0 kr m) k0 kr l mtu l _ k = _
      unfold F.split_Lines.L4.step
      rw [bif_pos (by omega), idx_nat, h2, some_bind', contains_eq, some_bind', wrap_in (by omega)]
      unfold bad
      by_cases h10 : 10 ∈ x
      · simp [h10]
      · simp only [h10, decide_false, cond_false, if_false]
        by_cases hf : (x.length : Int) + 1 > mtu
        · rw [bif_pos hf, if_pos hf]
        · rw [bif_neg hf, if_neg hf, wrap_succ (by omega), ih (k + 1) m h3 (by simp at hm; omega)]
theorem feeds_length_le {l : List (List UInt8)} (h : ∀ s ∈ l, s.length ≤ 100) : (feeds l).length ≤ 101 * l.length := by
  induction l with
  | nil => simp [feeds]
  | cons x l ih =>
    have h1 := h x (by simp)
    have h2 := ih (fun s hs => h s (by simp [hs]))
    simp only [feeds, List.length_append, List.length_cons, List.length_nil]
    omega
theorem grams_loop (n : Nat) (X : Type) (k0 : List UInt8 → Int → Int → List (List UInt8) → Int → List (List UInt8) → Nat → Nat → Option X) (l : List (List UInt8)) (mtu : Int) (t : List UInt8) (q : Nat) (hl : l.length ≤ 40) (hs : ∀ s ∈ l, s.length ≤ 100) :
    ∀ (r : List (List UInt8)) (k m a : Nat) (out : List (List UInt8)), l.drop k = r → k ≤ l.length → r.length < m → a ≤ (feeds (l.take k)).length → out.length ≤ k →
    ∃ (a' : Nat) (out' : List (List UInt8)), a' ≤ (feeds l).length ∧ out'.length ≤ l.length ∧ F.split_Lines.L3_split_datagrams_1 n k0 m (feeds l ++ t) (a : Int) ((feeds (l.take k)).length : Int) l (l.length : Int) (k : Int) l mtu out q out.length = k0 (feeds l ++ t) (a' : Int) ((feeds l).length : Int) l mtu out' q out'.length ∧
      out ++ grams mtu ((feeds (l.take k)).drop a) r = out' ++ (if (feeds l).drop a' = [] then [] else [(feeds l).drop a']) := by
  intro r
  induction r with
  | nil =>
    intro k m a out hk hkl hm ha ho
    have hk' := drop_nil' hk
    have e : l.take k = l := List.take_of_length_le hk'
    cases m with
    | zero => simp at hm
    | succ m =>
      refine ⟨a, out, by rw [e] at ha; exact ha, by omega, ?_, by rw [e]; rfl⟩
      · show F.split_Lines.L3_split_datagrams_1.step n _ k0 _ _ _ _ _ _ _ _ _ _ _ = _
        unfold F.split_Lines.L3_split_datagrams_1.step
        rw [bif_neg (by omega), e]
  | cons x r ih =>
    intro k m a out hk hkl hm ha ho
    obtain ⟨h1, h2, h3⟩ := drop_cons hk
    have hx : x.length ≤ 100 := hs x (List.mem_of_getElem? h2)
    have htk : l.take (k + 1) = l.take k ++ [x] := by rw [List.take_add_one, h2]; rfl
    have hfk : feeds (l.take (k + 1)) = feeds (l.take k) ++ (x ++ [10]) := by rw [htk, feeds_append]; simp [feeds]
    have hfl : (feeds (l.take k)).length ≤ 101 * k := by
      have := feeds_length_le (l := l.take k) (fun s hs' => hs s (List.mem_of_mem_take hs'))
      simp only [List.length_take] at this
      omega
    have hpre : ∃ t', feeds l = feeds (l.take k) ++ t' := ⟨feeds (l.drop k), by rw [← feeds_append, List.take_append_drop]⟩
    obtain ⟨t', ht'⟩ := hpre
    have hlen : ((feeds (l.take (k + 1))).length : Int) = (feeds (l.take k)).length + x.length + 1 := by rw [hfk]; simp; omega
    generalize hp : feeds (l.take k) = p at *
    cases m with
    | zero => simp at hm
    | succ m =>
      have hw : IntKind.wrap .i64 ((IntKind.wrap .i64 ((p.length : Int) + (x.length : Int))) + (1 : Int)) = ((feeds (l.take (k + 1))).length : Int) := by
        rw [wrap_in (x := (p.length : Int) + (x.length : Int)) (by omega), wrap_in (by omega), hlen]
      have step : F.split_Lines.L3_split_datagrams_1 n k0 (m + 1) (feeds l ++ t) (a : Int) (p.length : Int) l (l.length : Int) (k : Int) l mtu out q out.length =
          if (p.length : Int) + x.length + 1 - a > mtu then F.split_Lines.L3_split_datagrams_1 n k0 m (feeds l ++ t) (p.length : Int) ((feeds (l.take (k + 1))).length : Int) l (l.length : Int) ((k + 1 : Nat) : Int) l mtu (out ++ [p.drop a]) q (out ++ [p.drop a]).length
          else F.split_Lines.L3_split_datagrams_1 n k0 m (feeds l ++ t) (a : Int) ((feeds (l.take (k + 1))).length : Int) l (l.length : Int) ((k + 1 : Nat) : Int) l mtu out q out.length := by
        show F.split_Lines.L3_split_datagrams_1.step n (F.split_Lines.L3_split_datagrams_1 n k0 m) k0 _ _ _ _ _ _ _ _ _ _ _ = _
        unfold F.split_Lines.L3_split_datagrams_1.step
        rw [bif_pos (by omega), idx_nat, h2, some_bind', hw, hlen, wrap_in (by omega), wrap_succ (by omega), bdec]
        by_cases hc : (p.length : Int) + x.length + 1 - a > mtu
        · rw [if_pos hc, if_pos hc, sub_nat _ _ _ ha (by rw [ht']; simp)]
          have e2 : ((feeds l ++ t).take p.length).drop a = p.drop a := by rw [ht']; simp
          rw [e2]
          have e3 : (decide ((out.length + 1) * 24 ≤ 2 ^ 46) && decide (0 < 24 ∧ 24 ≤ 2 ^ 20)) = true := by simp; omega
          have e4 : Nat.beq out.length out.length = true := Nat.beq_refl _
          simp only [some_bind', e3, e4, cond_true, beq_self_eq_true]
        · rw [if_neg hc, if_neg hc]
      rw [step]
      by_cases hc : (p.length : Int) + x.length + 1 - a > mtu
      · rw [if_pos hc]
        obtain ⟨a', out', q1, q2, q3, q4⟩ := ih (k + 1) m p.length (out ++ [p.drop a]) h3 (by omega) (by simp at hm; omega) (by rw [hfk]; simp) (by simp; omega)
        refine ⟨a', out', q1, q2, q3, ?_⟩
        rw [← q4, hfk]
        rw [grams_cons, if_pos (by rw [List.length_drop]; omega)]
        simp
      · rw [if_neg hc]
        obtain ⟨a', out', q1, q2, q3, q4⟩ := ih (k + 1) m a out h3 (by omega) (by simp at hm; omega) (by rw [hfk]; simp; omega) (by omega)
        refine ⟨a', out', q1, q2, q3, ?_⟩
        rw [← q4, hfk]
        rw [grams_cons, if_neg (by rw [List.length_drop]; omega), List.drop_append_of_le_length ha]
        simp
theorem feeds_ne {l : List (List UInt8)} (h : feeds l = []) : l = [] := by
  cases l with
  | nil => rfl
  | cons x l => simp [feeds] at h
theorem join40 {l : List (List UInt8)} (hl : l.length ≤ 40) (hs : ∀ s ∈ l, s.length ≤ 100) : (Lib.join l [10]).length ≤ 5000 := by
  by_cases h : l = []
  · subst h; simp [Lib.join]
  · have h1 := congrArg List.length (feeds_eq l h)
    have h2 := feeds_length_le hs
    simp at h1
    omega
theorem lines_eq (n : Nat) (hn : 100 ≤ n) (l : List (List UInt8)) (mtu : Int) (hf : few20 l = true) : F.split_Lines n l mtu = some (linesOf l mtu) := by
  have hf' := hf
  simp only [few20, Bool.and_eq_true, decide_eq_true_eq, List.all_eq_true, small100] at hf'
  obtain ⟨hl, hs⟩ := hf'
  unfold F.split_Lines linesOf
  rw [may_eq, some_bind']
  by_cases hm : 1 ≤ mtu ∧ mtu ≤ 65536
  · rw [if_neg (by omega)]
    simp only [hm, decide_true, Bool.not_true, cond_false, and_self]
    refine (bad_loop n _ _ _ l mtu hf l 0 n rfl (by omega)).trans ?_
    split
    · rfl
    · have hj := join40 hl hs
      have e1 : O.join n l [10] = some (Lib.join l [10]) := by
        unfold O.join
        have : (Nat.ble l.length big47 && Nat.ble (Lib.join l [10]).length big47) = true := by
          simp only [Bool.and_eq_true, nble, big47]; omega
        rw [this]; rfl
      rw [e1, some_bind', bif_pos (by rw [strMax_eq]; omega)]
      obtain ⟨t, ht, ht0⟩ : ∃ t, Lib.join l [10] ++ [10] = feeds l ++ t ∧ (l ≠ [] → t = []) := by
        by_cases h : l = []
        · subst h; exact ⟨[10], rfl, fun h => absurd rfl h⟩
        · exact ⟨[], by rw [feeds_eq l h]; simp, fun _ => rfl⟩
      rw [ht]
      obtain ⟨a', out', q1, q2, q3, q4⟩ := grams_loop n _ (fun e8_4 e8_5 e8_6 e8_b0_0 e8_b1_0 e8_b2_0 e8_k0 e8_k1 =>
                  bif decide (e8_6 > e8_5) then
                    bif e8_6 == e8_6 then
                      (sub e8_4 e8_5 e8_6).bind fun x9 =>
                        bif decide ((e8_b2_0.length + 1) * 24 ≤ 2 ^ 46) && decide (0 < 24 ∧ 24 ≤ 2 ^ 20) then
                          bif Nat.beq e8_k1 e8_b2_0.length then
                            some ((e8_b2_0 ++ ([x9]), (0 : Int), (0 : Int), ()))
                          else
                            none
                        else
                          none
                    else
                      none
                  else
                    some ((e8_b2_0, (0 : Int), (0 : Int), ()))) l mtu t ((feeds l ++ t).length) hl hs l 0 n 0 [] rfl (by omega) (by omega) (by simp) (by simp)
      refine q3.trans ?_
      simp only [List.nil_append, List.take_zero, feeds, List.drop_nil] at q4
      rw [q4]
      by_cases hc : (feeds l).drop a' = []
      · have : (feeds l).length ≤ a' := by simpa using hc
        rw [bif_neg (by omega), if_pos hc]
        simp
      · have : ¬ (feeds l).length ≤ a' := by simpa using hc
        rw [bif_pos (by omega), if_neg hc]
        have e3 : (decide ((out'.length + 1) * 24 ≤ 2 ^ 46) && decide (0 < 24 ∧ 24 ≤ 2 ^ 20)) = true := by simp; omega
        have e4 : Nat.beq out'.length out'.length = true := Nat.beq_refl _
        rw [sub_nat _ _ _ q1 (by simp), some_bind', e3, e4]
        simp
  · rw [if_pos (by omega)]
    simp [hm]
theorem same_loop (n : Nat) (X : Type) (k0 : Unit → Option X) (kr : Bool → Option X) (a b : List (List UInt8)) (he : a.length = b.length) (hb : a.length < 4611686018427387904) : ∀ (r : List (List UInt8)) (k m : Nat), a.drop k = r → r.length < m →
    F.law20_same.L4 n k0 kr m a b (k : Int) = if r = b.drop k then k0 () else kr false := by
  intro r
  induction r with
  | nil =>
    intro k m hk hm
    have := drop_nil' hk
    cases m with
    | zero => simp at hm
    | succ m =>
      show F.law20_same.L4.step n _ k0 kr a b k = _
      unfold F.law20_same.L4.step
      rw [bif_neg (by omega), if_pos (by symm; simp; omega)]
  | cons x r ih =>
    intro k m hk hm
    obtain ⟨h1, h2, h3⟩ := drop_cons hk
    have hkb : k < b.length := by omega
    cases m with
    | zero => simp at hm
    | succ m =>
      show F.law20_same.L4.step n (F.law20_same.L4 n k0 kr m) k0 kr a b k = _
      unfold F.law20_same.L4.step
      rw [bif_pos (by omega), idx_nat, h2, some_bind', idx_lt hkb, some_bind', wrap_succ (by omega), ih (k + 1) m h3 (by simp at hm; omega), List.drop_eq_getElem_cons hkb]
      by_cases hx : x = b[k]
      · have e : (!(x == b[k])) = false := by simp [hx]
        rw [e, cond_false, hx]
        by_cases hr : r = b.drop (k + 1)
        · rw [if_pos hr, if_pos (by rw [hr])]
        · rw [if_neg hr, if_neg (fun h => hr (List.cons.inj h).2)]
      · have e : (!(x == b[k])) = true := by simp [hx]
        rw [e, cond_true, if_neg (fun h => hx (List.cons.inj h).1)]
theorem same_eq (n : Nat) (a b : List (List UInt8)) (hb : a.length < 4611686018427387904) (hn : a.length < n) : F.law20_same n a b = some (decide (a = b)) := by
  unfold F.law20_same
  by_cases he : a.length = b.length
  · have : (!((a.length : Int) == (b.length : Int))) = false := by simp [he]
    rw [this, cond_false]
    refine (same_loop n _ _ _ a b he hb a 0 n rfl hn).trans ?_
    by_cases h : a = b
    · simp [h]
    · simp [h]
  · have : (!((a.length : Int) == (b.length : Int))) = true := by simp; omega
    rw [this, cond_true]
    have : a ≠ b := fun h => he (by rw [h])
    simp [this]
theorem joinB_eq (n : Nat) (a : List (List UInt8)) (h1 : a.length ≤ 1000000) (h2 : a.flatten.length ≤ 1000000) : F.split_Join n a = some a.flatten := by
  unfold F.split_Join O.bjoin
  have : (Nat.ble a.length big47 && Nat.ble (Lib.lens a + ([] : List UInt8).length * (a.length - 1)) big47 && ([] : List UInt8).isEmpty) = true := by
    simp only [Bool.and_eq_true, nble, big47, List.length_nil, Nat.zero_mul, Nat.add_zero, ← lens_flatten]
    exact ⟨⟨by omega, by omega⟩, rfl⟩
  rw [this]
  rfl
theorem awake_eq (n : Nat) (hn : 100 ≤ n) : F.law20_awake n = some true := by
  unfold F.law20_awake
  rw [lines_eq n hn _ _ (by decide), lines_eq n hn _ _ (by decide)]
  have e1 : linesOf [[97, 98], [99], [100, 101, 102]] 5 = ([[97, 98, 10, 99, 10], [100, 101, 102, 10]], 0, 0, ()) := by decide
  have e2 : linesOf [[97, 98], [99], [100, 101, 102]] 3 = ([], 2, 27, ()) := by decide
  simp only [some_bind', e1, e2]
  rw [same_eq n _ _ (by simp) (by simp; omega), joinB_eq n _ (by simp) (by simp)]
  rfl
def good (mtu : Int) : Option Nat → List (List UInt8) → Prop
  | _, [] => True
  | p, x :: r => 1 ≤ x.length ∧ (x.length : Int) ≤ mtu ∧ x[x.length - 1]? = some 10 ∧ (∀ q, p = some q → (q : Int) + x.length > mtu) ∧ good mtu (some x.length) r
theorem bad_none {mtu : Int} : ∀ {l : List (List UInt8)} {k : Nat}, bad mtu k l = none → ∀ s ∈ l, 10 ∉ s ∧ (s.length : Int) + 1 ≤ mtu
  | [], k, h, s, hs => by simp at hs
  | x :: l, k, h, s, hs => by
    unfold bad at h
    split at h
    · cases h
    · split at h
      · cases h
      · rename_i h1 h2
        rcases List.mem_cons.1 hs with rfl | hs
        · exact ⟨h1, by omega⟩
        · exact bad_none h s hs
theorem bad_some {mtu : Int} : ∀ {l : List (List UInt8)} {k j : Nat} {e : Int}, bad mtu k l = some (j, e) → k ≤ j ∧ j < k + l.length ∧ (e = 14 ∨ e = 27)
  | [], k, j, e, h => by cases h
  | x :: l, k, j, e, h => by
    unfold bad at h
    split at h
    · simp at h; simp; omega
    · split at h
      · simp at h; simp; omega
      · have := bad_some h
        simp; omega
theorem grams_good {mtu : Int} : ∀ (l : List (List UInt8)) (cur : List UInt8) (p : Option Nat), (∀ s ∈ l, (s.length : Int) + 1 ≤ mtu) → (cur = [] → p = none) → (cur ≠ [] → (cur.length : Int) ≤ mtu ∧ cur[cur.length - 1]? = some 10 ∧ ∀ q, p = some q → (q : Int) + cur.length > mtu) →
    good mtu p (grams mtu cur l)
  | [], cur, p, hs, h0, h1 => by
    unfold grams
    split
    · trivial
    · rename_i hc
      obtain ⟨a, b, c⟩ := h1 hc
      exact ⟨by cases cur with | nil => exact absurd rfl hc | cons _ _ => simp, a, b, c, trivial⟩
  | s :: l, cur, p, hs, h0, h1 => by
    have hs1 := hs s (by simp)
    rw [grams_cons]
    split
    · rename_i hf
      have hc : cur ≠ [] := by rintro rfl; simp at hf; omega
      obtain ⟨a, b, c⟩ := h1 hc
      refine ⟨by cases cur with | nil => exact absurd rfl hc | cons _ _ => simp, a, b, c, ?_⟩
      refine grams_good l (s ++ [10]) _ (fun t ht => hs t (by simp [ht])) (by simp) fun _ => ⟨by simp; omega, by simp, fun q hq => ?_⟩
      obtain rfl := Option.some.inj hq
      simp
      omega
    · rename_i hf
      refine grams_good l (cur ++ s ++ [10]) p (fun t ht => hs t (by simp [ht])) (by simp) fun _ => ⟨by simp; omega, by simp, fun q hq => ?_⟩
      by_cases hc : cur = []
      · rw [h0 hc] at hq; cases hq
      · have := (h1 hc).2.2 q hq
        simp
        omega
theorem grams_flat {mtu : Int} : ∀ (l : List (List UInt8)) (cur : List UInt8), (grams mtu cur l).flatten = cur ++ feeds l
  | [], cur => by
    unfold grams
    split
    · rename_i h; simp [h, feeds]
    · simp [feeds]
  | s :: l, cur => by
    rw [grams_cons]
    split
    · simp [grams_flat l, feeds]
    · simp [grams_flat l, feeds]
theorem grams_length {mtu : Int} : ∀ (l : List (List UInt8)) (cur : List UInt8), (grams mtu cur l).length ≤ l.length + 1
  | [], cur => by unfold grams; split <;> simp
  | s :: l, cur => by
    rw [grams_cons]
    split
    · have := grams_length (mtu := mtu) l (s ++ [10]); simp; omega
    · have := grams_length (mtu := mtu) l (cur ++ s ++ [10]); simp at this ⊢; omega
theorem feeds_loop (n : Nat) (X : Type) (k0 : Int → List (List UInt8) → List UInt8 → Option X) (l : List (List UInt8)) (mtu : Int) (a : List (List UInt8)) (hl : l.length ≤ 40) (hs : ∀ s ∈ l, s.length ≤ 100) : ∀ (r : List (List UInt8)) (k m : Nat), l.drop k = r → k ≤ l.length → r.length < m →
    F.law20_SplitWhole.L8 n k0 m l mtu a (feeds (l.take k)) (k : Int) = k0 mtu a (feeds l) := by
  intro r
  induction r with
  | nil =>
    intro k m hk hkl hm
    have := drop_nil' hk
    cases m with
    | zero => simp at hm
    | succ m =>
      show F.law20_SplitWhole.L8.step n _ k0 _ _ _ _ _ = _
      unfold F.law20_SplitWhole.L8.step
      rw [bif_neg (by omega), List.take_of_length_le this]
  | cons x r ih =>
    intro k m hk hkl hm
    obtain ⟨h1, h2, h3⟩ := drop_cons hk
    have hx : x.length ≤ 100 := hs x (List.mem_of_getElem? h2)
    have hfl := feeds_length_le (l := l.take k) (fun s hs' => hs s (List.mem_of_mem_take hs'))
    simp only [List.length_take] at hfl
    have hfk : feeds (l.take (k + 1)) = feeds (l.take k) ++ x ++ [10] := by rw [List.take_add_one, h2]; simp [feeds_append, feeds]
    cases m with
    | zero => simp at hm
    | succ m =>
      show F.law20_SplitWhole.L8.step n (F.law20_SplitWhole.L8 n k0 m) k0 _ _ _ _ _ = _
      unfold F.law20_SplitWhole.L8.step
      rw [bif_pos (by omega), idx_nat, h2, some_bind', bif_pos (by rw [strMax_eq]; omega), bif_pos (by rw [strMax_eq, List.length_append]; omega), wrap_succ (by omega), ← hfk]
      exact ih (k + 1) m h3 (by omega) (by simp at hm; omega)
theorem mem_flat {x : List UInt8} {a : List (List UInt8)} (h : x ∈ a) : x.length ≤ a.flatten.length := by
  induction a with
  | nil => simp at h
  | cons y a ih =>
    rcases List.mem_cons.1 h with rfl | h
    · simp only [List.flatten_cons, List.length_append]; omega
    · have := ih h; simp only [List.flatten_cons, List.length_append]; omega
theorem whole_loop (n : Nat) (X : Type) (k2 : List (List UInt8) → List UInt8 → Int → Option X) (kr : Bool → Option X) (mtu : Int) (a : List (List UInt8)) (all : List UInt8) (ha : a.length ≤ 41) (hf : a.flatten.length ≤ 5000) (hm : mtu ≤ 65536) :
    ∀ (r : List (List UInt8)) (k m : Nat), a.drop k = r → k ≤ a.length → r.length < m → good mtu (if k = 0 then none else a[k - 1]?.map List.length) r →
    F.law20_SplitWhole.L13 n k2 kr m mtu a all ((a.take k).flatten.length : Int) (k : Int) = k2 a all (a.flatten.length : Int) := by
  intro r
  induction r with
  | nil =>
    intro k m hk hkl hm' hg
    have := drop_nil' hk
    cases m with
    | zero => simp at hm'
    | succ m =>
      show F.law20_SplitWhole.L13.step n _ k2 kr _ _ _ _ _ = _
      unfold F.law20_SplitWhole.L13.step
      rw [bif_neg (by omega), List.take_of_length_le this]
  | cons x r ih =>
    intro k m hk hkl hm' hg
    obtain ⟨h1, h2, h3⟩ := drop_cons hk
    obtain ⟨g1, g2, g3, g4, g5⟩ := hg
    have htk : a.take (k + 1) = a.take k ++ [x] := by rw [List.take_add_one, h2]; rfl
    have hsum : (a.take (k + 1)).flatten.length = (a.take k).flatten.length + x.length := by rw [htk]; simp
    have hle : (a.take (k + 1)).flatten.length ≤ a.flatten.length := by
      have := congrArg (fun q => q.flatten.length) (List.take_append_drop (k + 1) a)
      simp only [List.flatten_append, List.length_append] at this
      omega
    cases m with
    | zero => simp at hm'
    | succ m =>
      show F.law20_SplitWhole.L13.step n (F.law20_SplitWhole.L13 n k2 kr m) k2 kr _ _ _ _ _ = _
      unfold F.law20_SplitWhole.L13.step
      have e1 : IntKind.wrap .i64 ((x.length : Int) - 1) = ((x.length - 1 : Nat) : Int) := by rw [wrap_in (by omega)]; omega
      have e2 : IntKind.wrap .i64 (((a.take k).flatten.length : Int) + x.length) = ((a.take (k + 1)).flatten.length : Int) := by rw [wrap_in (by omega), hsum]; omega
      have e3 : (!(((10 : UInt8).toNat : Int) == (10 : Int))) = false := rfl
      have rest := ih (k + 1) m h3 (by omega) (by simp at hm'; omega) (by simpa [h2] using g5)
      rw [bif_pos (by omega), idx_nat, h2]
      simp only [some_bind']
      rw [bif_neg (by omega), bif_neg (by omega), e1, idx_nat, g3]
      simp only [some_bind']
      rw [e3, cond_false, e2, wrap_succ (by omega), rest]
      by_cases hk0 : k = 0
      · rw [bif_neg (by omega)]
      · rw [bif_pos (by omega), wrap_in (x := (k : Int) - 1) (by omega), idx_pred (by omega)]
        have hk1 : k - 1 < a.length := by omega
        simp only [hk0, if_false, List.getElem?_eq_getElem hk1, Option.map_some] at g4
        have := g4 _ rfl
        have hk2 := mem_flat (List.getElem_mem hk1)
        rw [List.getElem?_eq_getElem hk1, some_bind', wrap_in (by omega), bif_neg (by omega)]
theorem splitWhole_eq (n : Nat) (hn : 100 ≤ n) (l : List (List UInt8)) (mtu : Int) : F.law20_SplitWhole n l mtu = some true := by
  unfold F.law20_SplitWhole
  rw [few_eq n hn, some_bind', awake_eq n hn]
  cases hf : few20 l with
  | false => rfl
  | true =>
    rw [lines_eq n hn l mtu hf]
    have hf' := hf
    simp only [few20, Bool.and_eq_true, decide_eq_true_eq, List.all_eq_true, small100] at hf'
    obtain ⟨hl, hs⟩ := hf'
    simp only [Bool.not_true, cond_false, some_bind', linesOf]
    by_cases hm : mtu < 1 ∨ 65536 < mtu
    · rw [if_pos hm]
      cases l <;> simp
    · rw [if_neg hm]
      cases hb : bad mtu 0 l with
      | some je =>
        obtain ⟨j, e⟩ := je
        have hbs := bad_some hb
        have he : (!(e == (0 : Int))) = true := by simp; omega
        simp only [he, cond_true]
        have h1 : (0 : Int) ≤ (j : Int) := by omega
        have h2 : (j : Int) < (l.length : Int) := by omega
        simp [h2]
      | none =>
        have hnone := bad_none hb
        have hg := grams_good (mtu := mtu) l [] none (fun s hs' => (hnone s hs').2) (fun _ => rfl) (fun h => absurd rfl h)
        have hflat := grams_flat (mtu := mtu) l []
        have hlen := grams_length (mtu := mtu) l []
        have hfl := feeds_length_le hs
        simp only [List.nil_append] at hflat
        simp only [beq_self_eq_true, Bool.not_true, cond_false]
        refine (feeds_loop n _ _ l mtu (grams mtu [] l) hl hs l 0 n rfl (by omega) (by omega)).trans ?_
        refine (whole_loop n _ _ _ mtu (grams mtu [] l) (feeds l) (by omega) (by rw [hflat]; omega) (by omega) (grams mtu [] l) 0 n rfl (by omega) (by omega) (by simpa using hg)).trans ?_
        rw [hflat, joinB_eq n _ (by omega) (by rw [hflat]; omega), hflat]
        simp
end Go.AM
namespace Go.Proofs.Ythfaagjjkdoedaa.splitWhole
open Go.ChangeShapes Go.WideShapes Go.ChangeAt Go.RowKit Go.AM
theorem own : ownKnob Try.prog.godebug = none := by kernel_rfl
theorem goes : LawGoes Try.prog SI 4 [(.sl .str), (.int .i64)] := fun x hx w vals hI hr =>
  ok4 _ (x.1, x.2.1, ()) true (splitWhole_eq 100 (by omega) x.1 x.2.1) w (AllD w) vals (WOf.of hI) hr (fun b o h => h)
set_option maxRecDepth 100000 in
theorem lifted (os : Os) (started : os.Started) (H : Type) (enc : TypeId × Value → H) :
    ReturnsInHanded {} Try.checked os 4 .any (Rows.splitWholeSpec.pre6 enc Try.prog Try.f4 Rows.splitWholeRow.domain false) (Rows.splitWholeSpec.post enc Try.prog Try.f4 false true false false) := by
  refine returnsInHanded_of_change_sized (C := Try.checked) own started (by kernel_rfl) Try.func4
    (ChangeSpec.witness6 (enc := enc) (C := Try.checked) false ⟨#[], #[.slice none 0 0, .int .i64 0], []⟩ 8 (by kernel_rfl) (by kernel_rfl) (by kernel_rfl) (by kernel_rfl)) ?_
  intro W base args ds gs before hval hW _ hw _
  exact law_calls (n := 8) (by kernel_rfl) Try.func4 (by kernel_rfl) (by decide) (by kernel_rfl) rfl Try.underlying4 rfl (fun ds h => by match ds, h with | [_, _], _ => rfl) goes hval hW hw trivial
theorem proved : Rows.SplitWholeSaid :=
  OpenClaim.holds_of_wide 4 Try.f4 rfl rfl rfl rfl rfl rfl rfl ⟨rfl, rfl, rfl, rfl, rfl⟩ rfl rfl rfl rfl rfl (by kernel_rfl) Try.func4 (by kernel_rfl)
    (of_decide_eq_true (by kernel_rfl)) (by unfold Func.isWrapper; first | (rw [if_pos (by decide +kernel)]; kernel_rfl) | (rw [if_neg (by decide +kernel)]; exact ⟨rfl, rfl⟩))
    (fun os started H enc _ => lifted os started H enc)
end Go.Proofs.Ythfaagjjkdoedaa.splitWhole
