/- Of any texts, up to 40 of up to 100 bytes, and any number, split.Lines tells the datagrams, or the wrong line and its fault, that the document's answer tells. -/
import Derived.Test.YtpnaofiiekopcaaQ3
import Derived.Shelf.Strings.Builder1
import Derived.Shelf.Strings.Builder2
import Derived.Shelf.Strings.OnBuilder
import Derived.Shelf.Strings.BuilderF
import Derived.Shelf.Strings.BuilderK
import Derived.Shelf.Strings.Builder2Cap
import Derived.Shelf.Strings.Search1
import Derived.Shelf.Strings.Search2
import Derived.Shelf.Strings.Search3
import Derived.Shelf.LaysM
import Derived.Shelf.Strings.Shaped
import Derived.Shelf.Strings.BuilderCap
import Derived.Ground.SlbNamesProg
import Derived.Shelf.Bytes.SlJoin
import Derived.Test.YtpnaofiiekopcaaProg
import Derived.KernelRfl
import Derived.Test.YtpnaofiiekopcaaRows
set_option linter.unusedVariables false
namespace Go.AM
noncomputable def F.law20_Few.L2.step {X : Type} (n : Nat) (rec : (List (List UInt8)) → Int → Option X) (k0 : (List (List UInt8)) → Option X) (kr : Bool → Option X) (v0 : List (List UInt8)) (v3 : Int) : Option X :=
  bif decide (v3 < (v0.length : Int)) then
    bif decide (v3 < (41 : Int)) then
      (idx v0 v3).bind fun x1 =>
        bif decide ((x1.length : Int) > (100 : Int)) then
          kr false
        else
          rec v0 (IntKind.wrap .i64 (v3 + (1 : Int)))
    else
      k0 v0
  else
    k0 v0
noncomputable def F.law20_Few.L2 {X : Type} (n : Nat) (k0 : (List (List UInt8)) → Option X) (kr : Bool → Option X) : Nat → (List (List UInt8)) → Int → Option X
  | 0 => fun _ _ => none
  | m + 1 => fun v0 v3 => F.law20_Few.L2.step n (F.law20_Few.L2 n k0 kr m) k0 kr v0 v3
noncomputable def F.law20_Few (n : Nat) (a0 : List (List UInt8)) : Option (Bool) :=
  F.law20_Few.L2 n
    (fun e2_0 =>
      some (decide ((e2_0.length : Int) ≤ (40 : Int))))
    (fun e3_2 =>
      some (e3_2)) n a0 (0 : Int)
noncomputable def F.split_may (n : Nat) (a0 : Int) : Option (Bool) :=
  bif decide (a0 ≥ (1 : Int)) then
    some (decide (a0 ≤ (65536 : Int)))
  else
    some (false)
noncomputable def F.strings_Index (n : Nat) (a0 : List UInt8) (a1 : List UInt8) : Option (Int) :=
  (O.index1 n a0 a1).bind fun y1 =>
    some (y1)
noncomputable def F.strings_Contains (n : Nat) (a0 : List UInt8) (a1 : List UInt8) : Option (Bool) :=
  (F.strings_Index n a0 a1).bind fun y1 =>
    some (decide (y1 ≥ (0 : Int)))
noncomputable def F.split_Lines.L4.step {X : Type} (n : Nat) (rec : (List (List UInt8)) → Int → (List (List UInt8)) → Int → Int → Option X) (k0 : (List (List UInt8)) → Int → Option X) (kr : (List (List (UInt8))) → Int → Int → Nat → Option X) (v0 : List (List UInt8)) (v1 : Int) (v12 : List (List UInt8)) (v13 : Int) (v14 : Int) : Option X :=
  bif decide (v14 < v13) then
    (idx v12 v14).bind fun x2 =>
      (F.strings_Contains n x2 ([10])).bind fun y3 =>
        bif y3 then
          kr [] v14 (14 : Int) 0
        else
        bif decide ((IntKind.wrap .i64 ((x2.length : Int) + (1 : Int))) > v1) then
          kr [] v14 (27 : Int) 0
        else
          rec v0 v1 v12 v13 (IntKind.wrap .i64 (v14 + (1 : Int)))
  else
    k0 v0 v1
noncomputable def F.split_Lines.L4 {X : Type} (n : Nat) (k0 : (List (List UInt8)) → Int → Option X) (kr : (List (List (UInt8))) → Int → Int → Nat → Option X) : Nat → (List (List UInt8)) → Int → (List (List UInt8)) → Int → Int → Option X
  | 0 => fun _ _ _ _ _ => none
  | m + 1 => fun v0 v1 v12 v13 v14 => F.split_Lines.L4.step n (F.split_Lines.L4 n k0 kr m) k0 kr v0 v1 v12 v13 v14
noncomputable def F.split_Lines.L3_split_datagrams_1.step {X : Type} (n : Nat) (rec : (List (UInt8)) → Int → Int → (List (List UInt8)) → Int → Int → (List (List UInt8)) → Int → (List (List (UInt8))) → Nat → Nat → Option X) (k0 : (List (UInt8)) → Int → Int → (List (List UInt8)) → Int → (List (List (UInt8))) → Nat → Nat → Option X) (v4 : List (UInt8)) (v5 : Int) (v6 : Int) (v14 : List (List UInt8)) (v15 : Int) (v16 : Int) (vb0_0 : List (List UInt8)) (vb1_0 : Int) (vb2_0 : List (List (UInt8))) (vk0 : Nat) (vk1 : Nat) : Option X :=
  bif decide (v16 < v15) then
    (idx v14 v16).bind fun x6 =>
      bif decide ((IntKind.wrap .i64 ((IntKind.wrap .i64 ((IntKind.wrap .i64 (v6 + (x6.length : Int))) + (1 : Int))) - v5)) > vb1_0) then
        bif v6 == v6 then
          (sub v4 v5 v6).bind fun x7 =>
            bif decide ((vb2_0.length + 1) * 24 ≤ 2 ^ 46) && decide (0 < 24 ∧ 24 ≤ 2 ^ 20) then
              bif Nat.beq vk1 vb2_0.length then
                rec v4 v6 (IntKind.wrap .i64 ((IntKind.wrap .i64 (v6 + (x6.length : Int))) + (1 : Int))) v14 v15 (IntKind.wrap .i64 (v16 + (1 : Int))) vb0_0 vb1_0 (vb2_0 ++ ([x7])) vk0 ((vb2_0 ++ ([x7])).length)
              else
                none
            else
              none
        else
          none
      else
        rec v4 v5 (IntKind.wrap .i64 ((IntKind.wrap .i64 (v6 + (x6.length : Int))) + (1 : Int))) v14 v15 (IntKind.wrap .i64 (v16 + (1 : Int))) vb0_0 vb1_0 vb2_0 vk0 vk1
  else
    k0 v4 v5 v6 vb0_0 vb1_0 vb2_0 vk0 vk1
noncomputable def F.split_Lines.L3_split_datagrams_1 {X : Type} (n : Nat) (k0 : (List (UInt8)) → Int → Int → (List (List UInt8)) → Int → (List (List (UInt8))) → Nat → Nat → Option X) : Nat → (List (UInt8)) → Int → Int → (List (List UInt8)) → Int → Int → (List (List UInt8)) → Int → (List (List (UInt8))) → Nat → Nat → Option X
  | 0 => fun _ _ _ _ _ _ _ _ _ _ _ => none
  | m + 1 => fun v4 v5 v6 v14 v15 v16 vb0_0 vb1_0 vb2_0 vk0 vk1 => F.split_Lines.L3_split_datagrams_1.step n (F.split_Lines.L3_split_datagrams_1 n k0 m) k0 v4 v5 v6 v14 v15 v16 vb0_0 vb1_0 vb2_0 vk0 vk1
noncomputable def F.split_Lines (n : Nat) (a0 : List (List UInt8)) (a1 : Int) : Option ((List (List (UInt8))) × (Int) × (Int) × Unit) :=
  (F.split_may n a1).bind fun y1 =>
    bif !y1 then
      some (([], (0 : Int), (10 : Int), ()))
    else
      F.split_Lines.L4 n
        (fun e4_0 e4_1 =>
          (O.join n e4_0 ([10])).bind fun y5 =>
            bif decide (y5.length + 1 ≤ strMax) then
              F.split_Lines.L3_split_datagrams_1 n
                (fun e8_4 e8_5 e8_6 e8_b0_0 e8_b1_0 e8_b2_0 e8_k0 e8_k1 =>
                  bif decide (e8_6 > e8_5) then
                    bif e8_6 == e8_6 then
                      (sub e8_4 e8_5 e8_6).bind fun x9 =>
                        bif decide ((e8_b2_0.length + 1) * 24 ≤ 2 ^ 46) && decide (0 < 24 ∧ 24 ≤ 2 ^ 20) then
                          bif Nat.beq e8_k1 e8_b2_0.length then
                            some ((e8_b2_0 ++ ([x9]), (0 : Int), (0 : Int), ()))
                          else
                            none
                        else
                          none
                    else
                      none
                  else
                    some ((e8_b2_0, (0 : Int), (0 : Int), ()))) n (y5 ++ ([10])) (0 : Int) (0 : Int) e4_0 (e4_0.length : Int) (0 : Int) e4_0 e4_1 [] ((y5 ++ ([10])).length) 0
            else
              none)
        (fun e10_4 e10_5 e10_6 e10_k0 =>
          some ((e10_4, e10_5, e10_6, ()))) n a0 a1 a0 (a0.length : Int) (0 : Int)
noncomputable def F.law20_same.L4.step {X : Type} (n : Nat) (rec : (List (List (UInt8))) → (List (List UInt8)) → Int → Option X) (k0 : Unit → Option X) (kr : Bool → Option X) (v0 : List (List (UInt8))) (v1 : List (List UInt8)) (v5 : Int) : Option X :=
  bif decide (v5 < (v0.length : Int)) then
    (idx v0 v5).bind fun x1 =>
      (idx v1 v5).bind fun x2 =>
        bif !(x1 == x2) then
          kr false
        else
          rec v0 v1 (IntKind.wrap .i64 (v5 + (1 : Int)))
  else
    k0 ()
noncomputable def F.law20_same.L4 {X : Type} (n : Nat) (k0 : Unit → Option X) (kr : Bool → Option X) : Nat → (List (List (UInt8))) → (List (List UInt8)) → Int → Option X
  | 0 => fun _ _ _ => none
  | m + 1 => fun v0 v1 v5 => F.law20_same.L4.step n (F.law20_same.L4 n k0 kr m) k0 kr v0 v1 v5
noncomputable def F.law20_same (n : Nat) (a0 : List (List (UInt8))) (a1 : List (List UInt8)) : Option (Bool) :=
  bif !((a0.length : Int) == (a1.length : Int)) then
    some (false)
  else
    F.law20_same.L4 n
      (fun (_ : Unit) =>
        some (true))
      (fun e4_4 =>
        some (e4_4)) n a0 a1 (0 : Int)
noncomputable def F.split_Join (n : Nat) (a0 : List (List (UInt8))) : Option (List (UInt8)) :=
  (O.bjoin n a0 []).bind fun y1 =>
    some (y1)
noncomputable def F.law20_awake (n : Nat) : Option (Bool) :=
  (F.split_Lines n ([[97, 98], [99], [100, 101, 102]]) (5 : Int)).bind fun y1 =>
    (F.split_Lines n ([[97, 98], [99], [100, 101, 102]]) (3 : Int)).bind fun y2 =>
      (F.law20_same n y1.1 ([[97, 98, 10, 99, 10], [100, 101, 102, 10]])).bind fun y3 =>
        bif y3 then
          bif y1.2.1 == (0 : Int) then
            bif y1.2.2.1 == (0 : Int) then
              bif (y2.1.length : Int) == (0 : Int) then
                bif y2.2.1 == (2 : Int) then
                  bif y2.2.2.1 == (27 : Int) then
                    (F.split_Join n y1.1).bind fun y4 =>
                      some (y4 == ([97, 98, 10, 99, 10, 100, 101, 102, 10]))
                  else
                    some (false)
                else
                  some (false)
              else
                some (false)
            else
              some (false)
          else
            some (false)
        else
          some (false)
noncomputable def F.ref20_MTU (n : Nat) (a0 : Int) : Option (Bool) :=
  bif decide (a0 ≥ (1 : Int)) then
    some (decide (a0 ≤ (65536 : Int)))
  else
    some (false)
noncomputable def F.ref20_Lines.L7.step {X : Type} (n : Nat) (rec : (List (List UInt8)) → Int → Int → Int → (Nat × List (List UInt8)) → Option X) (k2 : (List (List UInt8)) → Int → Int → (Nat × List (List UInt8)) → Option X) (kr : (Nat × Nat) → Int → Int → (Nat × List (List UInt8)) → (Nat × List (List UInt8)) → Option X) (v0 : List (List UInt8)) (v1 : Int) (v7 : Int) (v8 : Int) (vb0_0 : Nat × List (List UInt8)) : Option X :=
  (idx v0 v7).bind fun x2 =>
    bif decide (v8 < (x2.length : Int)) then
      (idx v0 v7).bind fun x3 =>
        (idx x3 v8).bind fun x4 =>
          bif ((x4).toNat) == (10 : Int) then
            kr (1, 0) v7 (14 : Int) (vb0_0.1, vb0_0.2) (1, [])
          else
            rec v0 v1 v7 (IntKind.wrap .i64 (v8 + (1 : Int))) (vb0_0.1, vb0_0.2)
    else
      k2 v0 v1 v7 (vb0_0.1, vb0_0.2)
noncomputable def F.ref20_Lines.L7 {X : Type} (n : Nat) (k2 : (List (List UInt8)) → Int → Int → (Nat × List (List UInt8)) → Option X) (kr : (Nat × Nat) → Int → Int → (Nat × List (List UInt8)) → (Nat × List (List UInt8)) → Option X) : Nat → (List (List UInt8)) → Int → Int → Int → (Nat × List (List UInt8)) → Option X
  | 0 => fun _ _ _ _ _ => none
  | m + 1 => fun v0 v1 v7 v8 vb0_0 => F.ref20_Lines.L7.step n (F.ref20_Lines.L7 n k2 kr m) k2 kr v0 v1 v7 v8 vb0_0
noncomputable def F.ref20_Lines.L4.step {X : Type} (n : Nat) (rec : (List (List UInt8)) → Int → Int → (Nat × List (List UInt8)) → Option X) (k0 : (List (List UInt8)) → Int → (Nat × List (List UInt8)) → Option X) (kr : (Nat × Nat) → Int → Int → (Nat × List (List UInt8)) → (Nat × List (List UInt8)) → Option X) (v0 : List (List UInt8)) (v1 : Int) (v7 : Int) (vb0_0 : Nat × List (List UInt8)) : Option X :=
  bif decide (v7 < (v0.length : Int)) then
    F.ref20_Lines.L7 n
      (fun e5_0 e5_1 e5_7 e5_b0_0 =>
        (idx e5_0 e5_7).bind fun x6 =>
          bif decide ((IntKind.wrap .i64 ((x6.length : Int) + (1 : Int))) > e5_1) then
            kr (1, 0) e5_7 (27 : Int) (e5_b0_0.1, e5_b0_0.2) (1, [])
          else
            rec e5_0 e5_1 (IntKind.wrap .i64 (e5_7 + (1 : Int))) (e5_b0_0.1, e5_b0_0.2))
      (fun e7_4 e7_5 e7_6 e7_b0_0 e7_b1_0 =>
        kr (e7_4.1, e7_4.2) e7_5 e7_6 (e7_b0_0.1, e7_b0_0.2) (e7_b1_0.1, e7_b1_0.2)) n v0 v1 v7 (0 : Int) (vb0_0.1, vb0_0.2)
  else
    k0 v0 v1 (vb0_0.1, vb0_0.2)
noncomputable def F.ref20_Lines.L4 {X : Type} (n : Nat) (k0 : (List (List UInt8)) → Int → (Nat × List (List UInt8)) → Option X) (kr : (Nat × Nat) → Int → Int → (Nat × List (List UInt8)) → (Nat × List (List UInt8)) → Option X) : Nat → (List (List UInt8)) → Int → Int → (Nat × List (List UInt8)) → Option X
  | 0 => fun _ _ _ _ => none
  | m + 1 => fun v0 v1 v7 vb0_0 => F.ref20_Lines.L4.step n (F.ref20_Lines.L4 n k0 kr m) k0 kr v0 v1 v7 vb0_0
noncomputable def F.ref20_Lines.L15.step {X : Type} (n : Nat) (rec : (List (List UInt8)) → Int → (Nat × Nat) → Int → (Nat × List (List UInt8)) → (Nat × List (List UInt8)) → Option X) (k4 : (Nat × Nat) → (Nat × List (List UInt8)) → (Nat × List (List UInt8)) → Option X) (v0 : List (List UInt8)) (v1 : Int) (v9 : Nat × Nat) (v10 : Int) (vb0_0 : Nat × List (List UInt8)) (vb1_0 : Nat × List (List UInt8)) : Option X :=
  bif decide (v10 < (v0.length : Int)) then
    bif ((v9.2 : Nat) : Int) == (0 : Int) then
      bif Nat.beq v9.1 vb1_0.1 then
        bif decide ((vb1_0.2.length + 1) * 16 ≤ 2 ^ 46) && decide (0 < 16 ∧ 16 ≤ 2 ^ 20) then
          bif decide (0 ≤ (IntKind.wrap .i64 ((((vb1_0.2 ++ ([[]])).length : Nat) : Int) - (1 : Int)))) && decide ((IntKind.wrap .i64 ((((vb1_0.2 ++ ([[]])).length : Nat) : Int) - (1 : Int))) < (((vb1_0.2 ++ ([[]])).length : Nat) : Int)) then
            bif Nat.beq (v9.1 + 1) (v9.1 + 1) then
              (idx (vb1_0.2 ++ ([[]])) (IntKind.wrap .i64 ((((vb1_0.2 ++ ([[]])).length : Nat) : Int) - (1 : Int)))).bind fun x9 =>
                (idx v0 v10).bind fun x10 =>
                  bif decide (x9.length + x10.length ≤ strMax) then
                    bif decide (((x9 ++ x10).length) + 1 ≤ strMax) then
                      bif decide (0 ≤ (IntKind.wrap .i64 ((((vb1_0.2 ++ ([[]])).length : Nat) : Int) - (1 : Int)))) && decide ((IntKind.wrap .i64 ((((vb1_0.2 ++ ([[]])).length : Nat) : Int) - (1 : Int))) < (((vb1_0.2 ++ ([[]])).length : Nat) : Int)) then
                        bif Nat.beq (v9.1 + 1) (v9.1 + 1) then
                          (idx (vb1_0.2 ++ ([[]])) (IntKind.wrap .i64 ((((vb1_0.2 ++ ([[]])).length : Nat) : Int) - (1 : Int)))).bind fun x11 =>
                            rec v0 v1 (v9.1 + 1, (vb1_0.2 ++ ([[]])).length) (IntKind.wrap .i64 (v10 + (1 : Int))) (vb0_0.1, vb0_0.2) (v9.1 + 1, upd (vb1_0.2 ++ ([[]])) (Int.toNat (IntKind.wrap .i64 ((((vb1_0.2 ++ ([[]])).length : Nat) : Int) - (1 : Int)))) ((x9 ++ x10) ++ ([10])))
                        else
                          none
                      else
                        none
                    else
                      none
                  else
                    none
            else
              none
          else
            none
        else
          none
      else
        none
    else
    bif decide (0 ≤ (IntKind.wrap .i64 (((v9.2 : Nat) : Int) - (1 : Int)))) && decide ((IntKind.wrap .i64 (((v9.2 : Nat) : Int) - (1 : Int))) < ((v9.2 : Nat) : Int)) then
      bif Nat.beq v9.1 vb1_0.1 then
        (idx vb1_0.2 (IntKind.wrap .i64 (((v9.2 : Nat) : Int) - (1 : Int)))).bind fun x12 =>
          (idx v0 v10).bind fun x13 =>
            bif decide ((IntKind.wrap .i64 ((IntKind.wrap .i64 ((x12.length : Int) + (x13.length : Int))) + (1 : Int))) > v1) then
              bif Nat.beq v9.1 vb1_0.1 then
                bif decide ((vb1_0.2.length + 1) * 16 ≤ 2 ^ 46) && decide (0 < 16 ∧ 16 ≤ 2 ^ 20) then
                  bif decide (0 ≤ (IntKind.wrap .i64 ((((vb1_0.2 ++ ([[]])).length : Nat) : Int) - (1 : Int)))) && decide ((IntKind.wrap .i64 ((((vb1_0.2 ++ ([[]])).length : Nat) : Int) - (1 : Int))) < (((vb1_0.2 ++ ([[]])).length : Nat) : Int)) then
                    bif Nat.beq (v9.1 + 1) (v9.1 + 1) then
                      (idx (vb1_0.2 ++ ([[]])) (IntKind.wrap .i64 ((((vb1_0.2 ++ ([[]])).length : Nat) : Int) - (1 : Int)))).bind fun x14 =>
                        (idx v0 v10).bind fun x15 =>
                          bif decide (x14.length + x15.length ≤ strMax) then
                            bif decide (((x14 ++ x15).length) + 1 ≤ strMax) then
                              bif decide (0 ≤ (IntKind.wrap .i64 ((((vb1_0.2 ++ ([[]])).length : Nat) : Int) - (1 : Int)))) && decide ((IntKind.wrap .i64 ((((vb1_0.2 ++ ([[]])).length : Nat) : Int) - (1 : Int))) < (((vb1_0.2 ++ ([[]])).length : Nat) : Int)) then
                                bif Nat.beq (v9.1 + 1) (v9.1 + 1) then
                                  (idx (vb1_0.2 ++ ([[]])) (IntKind.wrap .i64 ((((vb1_0.2 ++ ([[]])).length : Nat) : Int) - (1 : Int)))).bind fun x16 =>
                                    rec v0 v1 (v9.1 + 1, (vb1_0.2 ++ ([[]])).length) (IntKind.wrap .i64 (v10 + (1 : Int))) (vb0_0.1, vb0_0.2) (v9.1 + 1, upd (vb1_0.2 ++ ([[]])) (Int.toNat (IntKind.wrap .i64 ((((vb1_0.2 ++ ([[]])).length : Nat) : Int) - (1 : Int)))) ((x14 ++ x15) ++ ([10])))
                                else
                                  none
                              else
                                none
                            else
                              none
                          else
                            none
                    else
                      none
                  else
                    none
                else
                  none
              else
                none
            else
            bif decide (0 ≤ (IntKind.wrap .i64 (((v9.2 : Nat) : Int) - (1 : Int)))) && decide ((IntKind.wrap .i64 (((v9.2 : Nat) : Int) - (1 : Int))) < ((v9.2 : Nat) : Int)) then
              bif Nat.beq v9.1 vb1_0.1 then
                (idx vb1_0.2 (IntKind.wrap .i64 (((v9.2 : Nat) : Int) - (1 : Int)))).bind fun x17 =>
                  (idx v0 v10).bind fun x18 =>
                    bif decide (x17.length + x18.length ≤ strMax) then
                      bif decide (((x17 ++ x18).length) + 1 ≤ strMax) then
                        bif decide (0 ≤ (IntKind.wrap .i64 (((v9.2 : Nat) : Int) - (1 : Int)))) && decide ((IntKind.wrap .i64 (((v9.2 : Nat) : Int) - (1 : Int))) < ((v9.2 : Nat) : Int)) then
                          bif Nat.beq v9.1 vb1_0.1 then
                            (idx vb1_0.2 (IntKind.wrap .i64 (((v9.2 : Nat) : Int) - (1 : Int)))).bind fun x19 =>
                              rec v0 v1 (v9.1, v9.2) (IntKind.wrap .i64 (v10 + (1 : Int))) (vb0_0.1, vb0_0.2) (v9.1, upd vb1_0.2 (Int.toNat (IntKind.wrap .i64 (((v9.2 : Nat) : Int) - (1 : Int)))) ((x17 ++ x18) ++ ([10])))
                          else
                            none
                        else
                          none
                      else
                        none
                    else
                      none
              else
                none
            else
              none
      else
        none
    else
      none
  else
    k4 (v9.1, v9.2) (vb0_0.1, vb0_0.2) (vb1_0.1, vb1_0.2)
noncomputable def F.ref20_Lines.L15 {X : Type} (n : Nat) (k4 : (Nat × Nat) → (Nat × List (List UInt8)) → (Nat × List (List UInt8)) → Option X) : Nat → (List (List UInt8)) → Int → (Nat × Nat) → Int → (Nat × List (List UInt8)) → (Nat × List (List UInt8)) → Option X
  | 0 => fun _ _ _ _ _ _ => none
  | m + 1 => fun v0 v1 v9 v10 vb0_0 vb1_0 => F.ref20_Lines.L15.step n (F.ref20_Lines.L15 n k4 m) k4 v0 v1 v9 v10 vb0_0 vb1_0
noncomputable def F.ref20_Lines (n : Nat) (a0 : List (List UInt8)) (a1 : Int) : Option ((List (List UInt8)) × (Int) × (Int) × Unit) :=
  (F.ref20_MTU n a1).bind fun y1 =>
    bif !y1 then
      some (([], (0 : Int), (10 : Int), ()))
    else
      F.ref20_Lines.L4 n
        (fun e8_0 e8_1 e8_b0_0 =>
          F.ref20_Lines.L15 n
            (fun e20_9 e20_b0_0 e20_b1_0 =>
              bif Nat.beq e20_9.1 e20_b1_0.1 then
                some ((e20_b1_0.2, (0 : Int), (0 : Int), ()))
              else
                none) n e8_0 e8_1 (1, 0) (0 : Int) (e8_b0_0.1, e8_b0_0.2) (1, []))
        (fun e21_4 e21_5 e21_6 e21_b0_0 e21_b1_0 =>
          bif Nat.beq e21_4.1 e21_b1_0.1 then
            some ((e21_b1_0.2, e21_5, e21_6, ()))
          else
            none) n a0 a1 (0 : Int) (1, [])
noncomputable def F.law20_SplitLines (n : Nat) (a0 : List (List UInt8)) (a1 : Int) : Option (Bool) :=
  (F.law20_Few n a0).bind fun y1 =>
    bif !y1 then
      (F.law20_awake n ).bind fun y2 =>
        some (y2)
    else
      (F.split_Lines n a0 a1).bind fun y3 =>
        (F.ref20_Lines n a0 a1).bind fun y4 =>
          (F.law20_same n y3.1 y4.1).bind fun y5 =>
            bif y5 then
              bif y3.2.1 == y4.2.1 then
                bif y3.2.2.1 == y4.2.2.1 then
                  (F.law20_awake n ).bind fun y6 =>
                    some (y6)
                else
                  some (false)
              else
                some (false)
            else
              some (false)
end Go.AM
namespace Go.Proofs
open Go.Shelf
def Try.lays156_ren : Go.Shelf.Ren := ⟨fun | 156 => 19 | 165 => 22 | 166 => 23 | 169 => 24 | 240 => 29 | 241 => 30 | 276 => 33 | 277 => 20 | n => n, fun | 31 => 22 | 9 => 9 | 3 => 3 | 4 => 4 | 0 => 0 | 20 => 20 | 72 => 49 | 76 => 53 | 70 => 47 | 37 => 33 | 75 => 52 | 127 => 59 | 164 => 63 | 5 => 5 | 80 => 55 | n => n, fun | n => n⟩
theorem Try.lays156 : Go.Proofs.Lays.n156 Try.prog Try.lays156_ren := {
  mixed := by kernel_rfl
  f156 := Try.func19.trans (congrArg some (by kernel_rfl))
  f165 := Try.func22.trans (congrArg some (by kernel_rfl))
  f166 := Try.func23.trans (congrArg some (by kernel_rfl))
  f169 := Try.func24.trans (congrArg some (by kernel_rfl))
  f240 := Try.func29.trans (congrArg some (by kernel_rfl))
  f241 := Try.func30.trans (congrArg some (by kernel_rfl))
  f276 := Try.func33.trans (congrArg some (by kernel_rfl))
  f277 := Try.func20.trans (congrArg some (by kernel_rfl))
  t0 := Try.underlying0
  a0 := Try.isAgg0
  z0 := Try.sizeOf0
  v0 := Try.zeroValue0
  t3 := Try.underlying3
  a3 := Try.isAgg3
  z3 := Try.sizeOf3
  v3 := Try.zeroValue3
  t4 := Try.underlying4
  a4 := Try.isAgg4
  z4 := Try.sizeOf4
  v4 := Try.zeroValue4
  t9 := Try.underlying9
  a9 := Try.isAgg9
  z9 := Try.sizeOf9
  v9 := Try.zeroValue9
  t20 := Try.underlying20
  a20 := Try.isAgg20
  z20 := Try.sizeOf20
  v20 := Try.zeroValue20
  t31 := Try.underlying22
  a31 := Try.isAgg22
  z31 := Try.sizeOf22
  v31 := Try.zeroValue22
  t37 := Try.underlying33
  a37 := Try.isAgg33
  z37 := Try.sizeOf33
  v37 := Try.zeroValue33
  t70 := Try.underlying47
  a70 := Try.isAgg47
  z70 := Try.sizeOf47
  v70 := Try.zeroValue47
  t72 := Try.underlying49
  a72 := Try.isAgg49
  z72 := Try.sizeOf49
  v72 := Try.zeroValue49
  t75 := Try.underlying52
  a75 := Try.isAgg52
  z75 := Try.sizeOf52
  v75 := Try.zeroValue52
  t76 := Try.underlying53
  a76 := Try.isAgg53
  z76 := Try.sizeOf53
  v76 := Try.zeroValue53
  t127 := Try.underlying59
  a127 := Try.isAgg59
  z127 := Try.sizeOf59
  v127 := Try.zeroValue59
  t164 := Try.underlying63
  a164 := Try.isAgg63
  z164 := Try.sizeOf63
  v164 := Try.zeroValue63 }
theorem Try.Builder_Extra_156 : Builder.Extra Try.prog Try.lays156_ren := {
  sizeBuilder := by kernel_rfl
  liesBuilder := by kernel_rfl
  t5 := Try.underlying5
  a5 := Try.isAgg5
  z5 := Try.sizeOf5
  v5 := Try.zeroValue5
  infoByte := by kernel_rfl
  cellsByte := by kernel_rfl
  sizeByte := by kernel_rfl
  neB5 := by decide }
open Go.RowKit in
theorem Try.strings_Join_none (a : Option Addr) (c : Nat) (sep : ByteArray) (w : World) :
    Calls Try.prog 19 #[.slice a 0 c, .string sep] w fun e w' => e = .returned (.string ⟨#[]⟩) ∧ w' = w := Any.strings_Join_none Try.lays156 Try.Builder_Extra_156 a c sep w
open Go.RowKit in
theorem Try.strings_Join (bk o c : Nat) (xs : List ByteArray) (sep : ByteArray) (w : World) (hcells : ∀ (j : Nat) x, xs[j]? = some x → w.cell? ⟨bk, o + j, none⟩ = some (.string x)) (hbk : bk < w.heap.size) (hN : xs.length ≤ 140737488355328) (hcap : xs.length ≤ c) (hlen : (Lib.join (xs.map (·.data.toList)) sep.data.toList).length ≤ 140737488355328) :
    Calls Try.prog 19 #[.slice (some ⟨bk, o, none⟩) xs.length c, .string sep] w fun e w' => e = .returned (.string ⟨(Lib.join (xs.map (·.data.toList)) sep.data.toList).toArray⟩) ∧ Below w.heap.size w w' := Any.strings_Join Try.lays156 Try.Builder_Extra_156 bk o c xs sep w hcells hbk hN hcap hlen
def Try.lays219_ren : Go.Shelf.Ren := ⟨fun | 219 => 21 | 217 => 25 | 225 => 26 | 224 => 27 | 267 => 28 | 266 => 31 | 314 => 32 | n => n, fun | 9 => 9 | 3 => 3 | 4 => 4 | 5 => 5 | 46 => 58 | 146 => 61 | 51 => 60 | n => n, fun | 1 => 0 | n => n⟩
theorem Try.lays219 : Go.Proofs.Lays.n219 Try.prog Try.lays219_ren := {
  mixed := by kernel_rfl
  f217 := Try.func25.trans (congrArg some (by kernel_rfl))
  f219 := Try.func21.trans (congrArg some (by kernel_rfl))
  f224 := Try.func27.trans (congrArg some (by kernel_rfl))
  f225 := Try.func26.trans (congrArg some (by kernel_rfl))
  f266 := Try.func31.trans (congrArg some (by kernel_rfl))
  f267 := Try.func28.trans (congrArg some (by kernel_rfl))
  f314 := Try.func32.trans (congrArg some (by kernel_rfl))
  t3 := Try.underlying3
  a3 := Try.isAgg3
  z3 := Try.sizeOf3
  v3 := Try.zeroValue3
  t4 := Try.underlying4
  a4 := Try.isAgg4
  z4 := Try.sizeOf4
  v4 := Try.zeroValue4
  t5 := Try.underlying5
  a5 := Try.isAgg5
  z5 := Try.sizeOf5
  v5 := Try.zeroValue5
  t9 := Try.underlying9
  a9 := Try.isAgg9
  z9 := Try.sizeOf9
  v9 := Try.zeroValue9
  t46 := Try.underlying58
  a46 := Try.isAgg58
  z46 := Try.sizeOf58
  v46 := Try.zeroValue58
  t51 := Try.underlying60
  a51 := Try.isAgg60
  z51 := Try.sizeOf60
  v51 := Try.zeroValue60
  t146 := Try.underlying61
  a146 := Try.isAgg61
  z146 := Try.sizeOf61
  v146 := Try.zeroValue61
  g1 := by kernel_rfl }
open Go.RowKit Go.Lib in
theorem Try.stringslite_Index_one (s : ByteArray) (c : UInt8) (w : World) :
    Calls Try.prog 21 #[.string s, .string ⟨#[c]⟩] w fun e w' => e = .returned (.int .i64 (Lib.indexByte s.data.toList c)) ∧ w' = w := Any.stringslite_Index_one Try.lays219 s c w
def Try.laysSlJ14_ren : Go.Shelf.Ren := ⟨fun | 14 => 15 | 15 => 20 | n => n, fun | 26 => 25 | 22 => 33 | 3 => 3 | 4 => 4 | 0 => 0 | 9 => 9 | 20 => 20 | 5 => 5 | n => n, fun | n => n⟩
theorem Try.laysSlJ14 : Go.Proofs.SlLaysJ.n14 Try.prog Try.laysSlJ14_ren := {
  mixed := by kernel_rfl
  f14 := Try.func15.trans (congrArg some (by kernel_rfl))
  f15 := Try.func20.trans (congrArg some (by kernel_rfl))
  t0 := Try.underlying0
  a0 := Try.isAgg0
  z0 := Try.sizeOf0
  v0 := Try.zeroValue0
  t3 := Try.underlying3
  a3 := Try.isAgg3
  z3 := Try.sizeOf3
  v3 := Try.zeroValue3
  t4 := Try.underlying4
  a4 := Try.isAgg4
  z4 := Try.sizeOf4
  v4 := Try.zeroValue4
  t9 := Try.underlying9
  a9 := Try.isAgg9
  z9 := Try.sizeOf9
  v9 := Try.zeroValue9
  t20 := Try.underlying20
  a20 := Try.isAgg20
  z20 := Try.sizeOf20
  v20 := Try.zeroValue20
  t22 := Try.underlying33
  a22 := Try.isAgg33
  z22 := Try.sizeOf33
  v22 := Try.zeroValue33
  t26 := Try.underlying25
  a26 := Try.isAgg25
  z26 := Try.sizeOf25
  v26 := Try.zeroValue25
  t5 := Try.underlying5
  z5 := Try.sizeOf5
  i5 := by kernel_rfl }
open Go.RowKit Go.Lib in
theorem Try.bytes_Join_many (b o n c : Nat) (vs : List Value) (ls : List (List UInt8)) (sv : Value) (sep : List UInt8) (w : World) (hn : ls.length = n) (h2 : 2 ≤ n) (hP : Lib.PartsAt w ⟨b, o, none⟩ vs ls) (hcap : n ≤ c) (hS : Lib.HoldsBytes w sv sep) (hn47 : n ≤ 140737488355328) (hlen : Lib.lens ls + sep.length * (n - 1) ≤ 140737488355328) :
    Calls Try.prog 15 #[.slice (some ⟨b, o, none⟩) n c, sv] w fun e w' => ∃ v', e = .returned v' ∧ Lib.FreshBytes w.heap.size w' v' (Lib.join ls sep) ∧ Below w.heap.size w w' := Any.bytes_Join_many Try.laysSlJ14 b o n c vs ls sv sep w hn h2 hP hcap hS hn47 hlen
open Go.RowKit Go.Lib in
theorem Try.bytes_Join_none (p : Option Addr) (c : Nat) (sv : Value) (w : World) :
    Calls Try.prog 15 #[.slice p 0 c, sv] w fun e w' => e = .returned (.slice (some ⟨w.heap.size, 0, none⟩) 0 0) ∧ w' = w.alloc (.cells #[] 5) := Any.bytes_Join_none Try.laysSlJ14 p c sv w
open Go.RowKit Go.Lib in
theorem Try.bytes_Join_one (b o c : Nat) (ad0 : Addr) (c0 : Nat) (l0 : List UInt8) (sv : Value) (w : World) (hcell : w.cell? ⟨b, o, none⟩ = some (.slice (some ad0) l0.length c0)) (hc : ∀ (i : Nat) x, l0[i]? = some x → w.cell? (ad0.add i) = some (.int .u8 (x.toNat : Int))) (h0 : 0 < l0.length) (hs : l0.length ≤ 140737488355328) :
    Calls Try.prog 15 #[.slice (some ⟨b, o, none⟩) 1 c, sv] w fun e w' => ∃ v', e = .returned v' ∧ Lib.FreshBytes w.heap.size w' v' l0 ∧ Below w.heap.size w w' := Any.bytes_Join_one Try.laysSlJ14 b o c ad0 c0 l0 sv w hcell hc h0 hs
open Go.RowKit Go.Lib in
theorem Try.bytes_Join_one_empty (b o c : Nat) (p0 : Option Addr) (c0 : Nat) (sv : Value) (w : World) (hcell : w.cell? ⟨b, o, none⟩ = some (.slice p0 0 c0)) :
    Calls Try.prog 15 #[.slice (some ⟨b, o, none⟩) 1 c, sv] w fun e w' => e = .returned (.slice none 0 0) ∧ w' = w := Any.bytes_Join_one_empty Try.laysSlJ14 b o c p0 c0 sv w hcell
end Go.Proofs
set_option linter.unusedVariables false
set_option maxRecDepth 100000
namespace Go.AM
open Go.Proofs Go.RowKit
def SI (w : World) : Prop := True
def SW : World → Prop := WOf SI
theorem mixed : Try.prog.follows .mixedOrders = true := by kernel_rfl
def tab : Tree TI := .node 26 (.node 9 (.node 4 (.one 3 ⟨.int .i64, 1, 8, false, [(.int .i64 (0 : Int))], some (.int .i64), false⟩) (.node 5 (.one 4 ⟨.bool, 1, 1, false, [(.bool false)], some .bool, false⟩) (.one 5 ⟨.int .u8, 1, 1, false, [(.int .u8 (0 : Int))], some .u8, false⟩))) (.node 22 (.one 9 ⟨.str, 1, 16, false, [(.str [])], some .str, false⟩) (.node 25 (.one 22 ⟨.slice 9, 1, 24, false, [.sl .str [] .full], some (.sl .str), false⟩) (.one 25 ⟨.slice 33, 1, 24, false, [.sl (.sl .u8) [] .full], some (.sl (.sl .u8)), false⟩)))) (.node 33 (.node 27 (.one 26 ⟨.int .i64, 1, 8, false, [(.int .i64 (0 : Int))], some (.int .i64), false⟩) (.node 29 (.one 27 ⟨.other, 1, 0, false, [.any], none, false⟩) (.one 29 ⟨.other, 1, 0, false, [.any], none, false⟩))) (.node 39 (.one 33 ⟨.slice 5, 1, 24, false, [.sl .u8 [] .full], some (.sl .u8), false⟩) (.node 44 (.one 39 ⟨.func, 1, 8, false, [.nilfn], none, false⟩) (.one 44 ⟨.func, 1, 8, false, [.nilfn], none, false⟩))))
theorem tab_ok : tab.all (tiOK Try.prog) = true := by kernel_rfl
def F.law20_Few.L2.head : Shape := ⟨[(0, (.sl .str .unk)), (3, (.int .i64))], [], [], [], [], 0, 0, 0⟩
def F.law20_Few.L2.e0 : Shape := ⟨[(0, (.sl .str .unk))], [], [], [], [], 0, 0, 0⟩
def F.law20_Few.L2.er : Shape := ⟨[(2, .bool)], [], [], [], [], 0, 0, 0⟩
noncomputable def F.law20_Few.L2.f {X : Type} (n m : Nat) (ks : Ks X) (s : F.law20_Few.L2.head.den) : Option X := F.law20_Few.L2 n (fun q0 => ks.ex 0 (F.law20_Few.L2.e0.e ((q0, ()), (), (), ())) (F.law20_Few.L2.e0.h ((q0, ()), (), (), ()))) (fun q2 => ks.ret (F.law20_Few.L2.er.e ((q2, ()), (), (), ())) (F.law20_Few.L2.er.h ((q2, ()), (), (), ()))) m s.1.1 s.1.2.1
noncomputable def F.law20_Few.L2.li (X : Type) (n : Nat) : LoopI X := ⟨8, ⟨0, 0, 0⟩, F.law20_Few.L2.head, [(0, F.law20_Few.L2.e0)], some F.law20_Few.L2.er, F.law20_Few.L2.f n n⟩
noncomputable def cx4 (X : Type) (n : Nat) : Cx X := mkCx tab.get [(4, Try.f4)] [] [(4, 2, [F.law20_Few.L2.li X n])] [] [] []
theorem F.law20_Few.L2.ok (X : Type) (n : Nat) : LoopOK (cx4 X n) 4 Try.f4.ntmps (loopNo Try.f4 0) (F.law20_Few.L2.li X n) :=
  ⟨F.law20_Few.L2.f n, n, fun _ _ => rfl, fun _ _ => rfl, fun m ks s => by kernel_rfl⟩
theorem cx4_ok (X : Type) (n : Nat) : CxOK Try.prog SW (cx4 X n) := mkCx_ok mixed (tabOK tab_ok) ⟨⟨Try.func4, by decide⟩, trivial⟩ trivial ⟨okC_mk (fun _ => rfl) (by kernel_rfl) (castP (by kernel_rfl) (show (LoopOK (cx4 X n) 4 Try.f4.ntmps (loopNo Try.f4 0) (F.law20_Few.L2.li X n) ∧ True) ∧ True from ⟨⟨F.law20_Few.L2.ok X n, trivial⟩, trivial⟩)) (castP (by kernel_rfl) (show True from trivial)), trivial⟩ trivial
theorem ok4 (n : Nat) : FnOK Try.prog SW 4 [(.sl .str .unk)] (.one .bool) (fun x => F.law20_Few n x.1) := fnOK_of WOf.st (cx4_ok _ n) (d := 8) (fun x => by kernel_rfl)
noncomputable def cx10 (X : Type) (n : Nat) : Cx X := mkCx tab.get [(10, Try.f10)] [] [] [] [] []
theorem cx10_ok (X : Type) (n : Nat) : CxOK Try.prog SW (cx10 X n) := mkCx_ok mixed (tabOK tab_ok) ⟨⟨Try.func10, by decide⟩, trivial⟩ trivial ⟨okC_mk (fun _ => rfl) (by kernel_rfl) (castP (by kernel_rfl) (show True from trivial)) (castP (by kernel_rfl) (show True from trivial)), trivial⟩ trivial
theorem ok10 (n : Nat) : FnOK Try.prog SW 10 [(.int .i64)] (.one .bool) (fun x => F.split_may n x.1) := fnOK_of WOf.st (cx10_ok _ n) (d := 8) (fun x => by kernel_rfl)
theorem ok21 (n : Nat) : FnOK Try.prog SW 21 [.str, .str] (.one (.int .i64)) (fun x => O.index1 n x.1 x.2.1) := index1_ok (enters Try.func21 (by kernel_rfl) (by decide)) Try.stringslite_Index_one n
noncomputable def cx16 (X : Type) (n : Nat) : Cx X := mkCx tab.get [(16, Try.f16)] [(21, orcOf [.str, .str] (.one (.int .i64)) (fun x => O.index1 n x.1 x.2.1))] [] [] [] []
theorem cx16_ok (X : Type) (n : Nat) : CxOK Try.prog SW (cx16 X n) := mkCx_ok mixed (tabOK tab_ok) ⟨⟨Try.func16, by decide⟩, trivial⟩ ⟨orcOf_ok (ok21 n), trivial⟩ ⟨okC_mk (fun _ => rfl) (by kernel_rfl) (castP (by kernel_rfl) (show True from trivial)) (castP (by kernel_rfl) (show True from trivial)), trivial⟩ trivial
theorem ok16 (n : Nat) : FnOK Try.prog SW 16 [.str, .str] (.one (.int .i64)) (fun x => F.strings_Index n x.1 x.2.1) := fnOK_of WOf.st (cx16_ok _ n) (d := 8) (fun x => by kernel_rfl)
noncomputable def cx11 (X : Type) (n : Nat) : Cx X := mkCx tab.get [(11, Try.f11)] [(16, orcOf [.str, .str] (.one (.int .i64)) (fun x => F.strings_Index n x.1 x.2.1))] [] [] [] []
theorem cx11_ok (X : Type) (n : Nat) : CxOK Try.prog SW (cx11 X n) := mkCx_ok mixed (tabOK tab_ok) ⟨⟨Try.func11, by decide⟩, trivial⟩ ⟨orcOf_ok (ok16 n), trivial⟩ ⟨okC_mk (fun _ => rfl) (by kernel_rfl) (castP (by kernel_rfl) (show True from trivial)) (castP (by kernel_rfl) (show True from trivial)), trivial⟩ trivial
theorem ok11 (n : Nat) : FnOK Try.prog SW 11 [.str, .str] (.one .bool) (fun x => F.strings_Contains n x.1 x.2.1) := fnOK_of WOf.st (cx11_ok _ n) (d := 8) (fun x => by kernel_rfl)
theorem ok19 (n : Nat) : FnOK Try.prog SW 19 [(.sl .str .unk), .str] (.one .str) (fun x => O.join n x.1 x.2.1) := join_ok (enters Try.func19 (by kernel_rfl) (by decide)) Try.strings_Join_none Try.strings_Join n
def F.split_Lines.L4.head : Shape := ⟨[(0, (.sl .str .unk)), (1, (.int .i64)), (12, (.sl .str .unk)), (13, (.int .i64)), (14, (.int .i64))], [], [], [], [], 0, 0, 0⟩
def F.split_Lines.L4.e0 : Shape := ⟨[(0, (.sl .str .unk)), (1, (.int .i64))], [], [], [], [], 0, 0, 0⟩
def F.split_Lines.L4.er : Shape := ⟨[(4, (.sl (.sl .u8) (.own 0))), (5, (.int .i64)), (6, (.int .i64))], [], [true], [], [], 0, 0, 0⟩
noncomputable def F.split_Lines.L4.f {X : Type} (n m : Nat) (ks : Ks X) (s : F.split_Lines.L4.head.den) : Option X := F.split_Lines.L4 n (fun q0 q1 => ks.ex 0 (F.split_Lines.L4.e0.e ((q0, q1, ()), (), (), ())) (F.split_Lines.L4.e0.h ((q0, q1, ()), (), (), ()))) (fun q4 q5 q6 qk0 => ks.ret (F.split_Lines.L4.er.e ((q4, q5, q6, ()), (), (qk0, ()), ())) (F.split_Lines.L4.er.h ((q4, q5, q6, ()), (), (qk0, ()), ()))) m s.1.1 s.1.2.1 s.1.2.2.1 s.1.2.2.2.1 s.1.2.2.2.2.1
noncomputable def F.split_Lines.L4.li (X : Type) (n : Nat) : LoopI X := ⟨8, ⟨0, 0, 0⟩, F.split_Lines.L4.head, [(0, F.split_Lines.L4.e0)], some F.split_Lines.L4.er, F.split_Lines.L4.f n n⟩
def F.split_Lines.L3_split_datagrams_1.head : Shape := ⟨[(0, (.const (.yield 0))), (2, (.const (.ref 1 0))), (4, (.sl .u8 (.own 0))), (5, (.int .i64)), (6, (.int .i64)), (14, (.sl .str .unk)), (15, (.int .i64)), (16, (.int .i64))], [[(.sl .str .unk)], [(.int .i64)], [(.sl (.sl .u8) (.own 1))]], [true, true], [.ready], [(0, 17, 2, [(2, (.const (.ref 2 0)))])], 3, 0, 1⟩
def F.split_Lines.L3_split_datagrams_1.e0 : Shape := ⟨[(0, (.const (.yield 0))), (4, (.sl .u8 (.own 0))), (5, (.int .i64)), (6, (.int .i64))], [[(.sl .str .unk)], [(.int .i64)], [(.sl (.sl .u8) (.own 1))]], [true, true], [.ready], [], 3, 0, 1⟩
noncomputable def F.split_Lines.L3_split_datagrams_1.f {X : Type} (n m : Nat) (ks : Ks X) (s : F.split_Lines.L3_split_datagrams_1.head.den) : Option X := F.split_Lines.L3_split_datagrams_1 n (fun q4 q5 q6 qb0_0 qb1_0 qb2_0 qk0 qk1 => ks.ex 0 (F.split_Lines.L3_split_datagrams_1.e0.e (((), q4, q5, q6, ()), ((qb0_0, ()), (qb1_0, ()), (qb2_0, ()), ()), (qk0, qk1, ()), ())) (F.split_Lines.L3_split_datagrams_1.e0.h (((), q4, q5, q6, ()), ((qb0_0, ()), (qb1_0, ()), (qb2_0, ()), ()), (qk0, qk1, ()), ()))) m s.1.2.2.1 s.1.2.2.2.1 s.1.2.2.2.2.1 s.1.2.2.2.2.2.1 s.1.2.2.2.2.2.2.1 s.1.2.2.2.2.2.2.2.1 s.2.1.1.1 s.2.1.2.1.1 s.2.1.2.2.1.1 s.2.2.1.1 s.2.2.1.2.1
noncomputable def F.split_Lines.L3_split_datagrams_1.li (X : Type) (n : Nat) : LoopI X := ⟨5, ⟨3, 0, 1⟩, F.split_Lines.L3_split_datagrams_1.head, [(0, F.split_Lines.L3_split_datagrams_1.e0)], none, F.split_Lines.L3_split_datagrams_1.f n n⟩
noncomputable def cx6 (X : Type) (n : Nat) : Cx X := mkCx tab.get [(6, Try.f6), (12, Try.f12), (13, Try.f13), (17, Try.f17), (18, Try.f18)] [(10, orcOf [(.int .i64)] (.one .bool) (fun x => F.split_may n x.1)), (11, orcOf [.str, .str] (.one .bool) (fun x => F.strings_Contains n x.1 x.2.1)), (19, orcOf [(.sl .str .unk), .str] (.one .str) (fun x => O.join n x.1 x.2.1))] [(6, 4, [F.split_Lines.L4.li X n]), (18, 3, [F.split_Lines.L3_split_datagrams_1.li X n])] [(17, 2, Try.f17, [2], 0)] [] []
theorem F.split_Lines.L4.ok (X : Type) (n : Nat) : LoopOK (cx6 X n) 6 Try.f6.ntmps (loopNo Try.f6 0) (F.split_Lines.L4.li X n) :=
  ⟨F.split_Lines.L4.f n, n, fun _ _ => rfl, fun _ _ => rfl, fun m ks s => by kernel_rfl⟩
theorem F.split_Lines.L3_split_datagrams_1.ok (X : Type) (n : Nat) : LoopOK (cx6 X n) 18 Try.f18.ntmps (loopNo Try.f18 0) (F.split_Lines.L3_split_datagrams_1.li X n) :=
  ⟨F.split_Lines.L3_split_datagrams_1.f n, n, fun _ _ => rfl, fun _ _ => rfl, fun m ks s => by kernel_rfl⟩
theorem cx6_ok (X : Type) (n : Nat) : CxOK Try.prog SW (cx6 X n) := mkCx_ok mixed (tabOK tab_ok) ⟨⟨Try.func6, by decide⟩,
  ⟨Try.func12, by decide⟩,
  ⟨Try.func13, by decide⟩,
  ⟨Try.func17, by decide⟩,
  ⟨Try.func18, by decide⟩, trivial⟩ ⟨orcOf_ok (ok10 n),
  orcOf_ok (ok11 n),
  orcOf_ok (ok19 n), trivial⟩ ⟨okC_mk (fun _ => rfl) (by kernel_rfl) (castP (by kernel_rfl) (show (LoopOK (cx6 X n) 6 Try.f6.ntmps (loopNo Try.f6 0) (F.split_Lines.L4.li X n) ∧ True) ∧ True from ⟨⟨F.split_Lines.L4.ok X n, trivial⟩, trivial⟩)) (castP (by kernel_rfl) (show True from trivial)),
  okC_mk (fun _ => rfl) (by kernel_rfl) (castP (by kernel_rfl) (show True from trivial)) (castP (by kernel_rfl) (show True from trivial)),
  okC_mk (fun _ => rfl) (by kernel_rfl) (castP (by kernel_rfl) (show True from trivial)) (castP (by kernel_rfl) (show True from trivial)),
  okC_mk (fun _ => rfl) (by kernel_rfl) (castP (by kernel_rfl) (show True from trivial)) (castP (by kernel_rfl) (show (∀ i, some 2 = some i → ∃ lv, (cx6 X n).rfs 17 i = some (Try.f17.ntmps, lv, rfNo Try.f17 0)) ∧ True from ⟨(fun i h => by cases h; exact ⟨[2], by kernel_rfl⟩), trivial⟩)),
  okC_mk (fun _ => rfl) (by kernel_rfl) (castP (by kernel_rfl) (show (LoopOK (cx6 X n) 18 Try.f18.ntmps (loopNo Try.f18 0) (F.split_Lines.L3_split_datagrams_1.li X n) ∧ True) ∧ True from ⟨⟨F.split_Lines.L3_split_datagrams_1.ok X n, trivial⟩, trivial⟩)) (castP (by kernel_rfl) (show True from trivial)), trivial⟩ ⟨⟨Try.func17, rfl⟩, trivial⟩
theorem ok6 (n : Nat) : FnOK Try.prog SW 6 [(.sl .str .unk), (.int .i64)] (.many [(.sl (.sl .u8) .unk), (.int .i64), (.int .i64)]) (fun x => F.split_Lines n x.1 x.2.1) := fnOK_of WOf.st (cx6_ok _ n) (d := 8) (fun x => by kernel_rfl)
def F.law20_same.L4.head : Shape := ⟨[(0, (.sl (.sl .u8) .unk)), (1, (.sl .str .unk)), (5, (.int .i64))], [], [], [], [], 0, 0, 0⟩
def F.law20_same.L4.e0 : Shape := ⟨[], [], [], [], [], 0, 0, 0⟩
def F.law20_same.L4.er : Shape := ⟨[(4, .bool)], [], [], [], [], 0, 0, 0⟩
noncomputable def F.law20_same.L4.f {X : Type} (n m : Nat) (ks : Ks X) (s : F.law20_same.L4.head.den) : Option X := F.law20_same.L4 n (fun (_ : Unit) => ks.ex 0 (F.law20_same.L4.e0.e ((), (), (), ())) (F.law20_same.L4.e0.h ((), (), (), ()))) (fun q4 => ks.ret (F.law20_same.L4.er.e ((q4, ()), (), (), ())) (F.law20_same.L4.er.h ((q4, ()), (), (), ()))) m s.1.1 s.1.2.1 s.1.2.2.1
noncomputable def F.law20_same.L4.li (X : Type) (n : Nat) : LoopI X := ⟨8, ⟨0, 0, 0⟩, F.law20_same.L4.head, [(0, F.law20_same.L4.e0)], some F.law20_same.L4.er, F.law20_same.L4.f n n⟩
noncomputable def cx8 (X : Type) (n : Nat) : Cx X := mkCx tab.get [(8, Try.f8)] [] [(8, 4, [F.law20_same.L4.li X n])] [] [] []
theorem F.law20_same.L4.ok (X : Type) (n : Nat) : LoopOK (cx8 X n) 8 Try.f8.ntmps (loopNo Try.f8 0) (F.law20_same.L4.li X n) :=
  ⟨F.law20_same.L4.f n, n, fun _ _ => rfl, fun _ _ => rfl, fun m ks s => by kernel_rfl⟩
theorem cx8_ok (X : Type) (n : Nat) : CxOK Try.prog SW (cx8 X n) := mkCx_ok mixed (tabOK tab_ok) ⟨⟨Try.func8, by decide⟩, trivial⟩ trivial ⟨okC_mk (fun _ => rfl) (by kernel_rfl) (castP (by kernel_rfl) (show (LoopOK (cx8 X n) 8 Try.f8.ntmps (loopNo Try.f8 0) (F.law20_same.L4.li X n) ∧ True) ∧ True from ⟨⟨F.law20_same.L4.ok X n, trivial⟩, trivial⟩)) (castP (by kernel_rfl) (show True from trivial)), trivial⟩ trivial
theorem ok8 (n : Nat) : FnOK Try.prog SW 8 [(.sl (.sl .u8) .unk), (.sl .str .unk)] (.one .bool) (fun x => F.law20_same n x.1 x.2.1) := fnOK_of WOf.st (cx8_ok _ n) (d := 8) (fun x => by kernel_rfl)
theorem ok15 (n : Nat) : FnOK Try.prog SW 15 [(.sl (.sl .u8) .unk), (.sl .u8 .unk)] (.one (.sl .u8 .unk)) (fun x => O.bjoin n x.1 x.2.1) := bjoin_ok (enters Try.func15 (by kernel_rfl) (by decide)) (fun p c sv w => ⟨_, Try.bytes_Join_none p c sv w⟩) Try.bytes_Join_one Try.bytes_Join_one_empty Try.bytes_Join_many n
noncomputable def cx9 (X : Type) (n : Nat) : Cx X := mkCx tab.get [(9, Try.f9)] [(15, orcOf [(.sl (.sl .u8) .unk), (.sl .u8 .unk)] (.one (.sl .u8 .unk)) (fun x => O.bjoin n x.1 x.2.1))] [] [] [] []
theorem cx9_ok (X : Type) (n : Nat) : CxOK Try.prog SW (cx9 X n) := mkCx_ok mixed (tabOK tab_ok) ⟨⟨Try.func9, by decide⟩, trivial⟩ ⟨orcOf_ok (ok15 n), trivial⟩ ⟨okC_mk (fun _ => rfl) (by kernel_rfl) (castP (by kernel_rfl) (show True from trivial)) (castP (by kernel_rfl) (show True from trivial)), trivial⟩ trivial
theorem ok9 (n : Nat) : FnOK Try.prog SW 9 [(.sl (.sl .u8) .unk)] (.one (.sl .u8 .unk)) (fun x => F.split_Join n x.1) := fnOK_of WOf.st (cx9_ok _ n) (d := 8) (fun x => by kernel_rfl)
noncomputable def cx5 (X : Type) (n : Nat) : Cx X := mkCx tab.get [(5, Try.f5)] [(6, orcOf [(.sl .str .unk), (.int .i64)] (.many [(.sl (.sl .u8) .unk), (.int .i64), (.int .i64)]) (fun x => F.split_Lines n x.1 x.2.1)), (8, orcOf [(.sl (.sl .u8) .unk), (.sl .str .unk)] (.one .bool) (fun x => F.law20_same n x.1 x.2.1)), (9, orcOf [(.sl (.sl .u8) .unk)] (.one (.sl .u8 .unk)) (fun x => F.split_Join n x.1))] [] [] [] []
theorem cx5_ok (X : Type) (n : Nat) : CxOK Try.prog SW (cx5 X n) := mkCx_ok mixed (tabOK tab_ok) ⟨⟨Try.func5, by decide⟩, trivial⟩ ⟨orcOf_ok (ok6 n),
  orcOf_ok (ok8 n),
  orcOf_ok (ok9 n), trivial⟩ ⟨okC_mk (fun _ => rfl) (by kernel_rfl) (castP (by kernel_rfl) (show True from trivial)) (castP (by kernel_rfl) (show True from trivial)), trivial⟩ trivial
theorem ok5 (n : Nat) : FnOK Try.prog SW 5 [] (.one .bool) (fun x => F.law20_awake n ) := fnOK_of WOf.st (cx5_ok _ n) (d := 8) (fun x => by kernel_rfl)
noncomputable def cx14 (X : Type) (n : Nat) : Cx X := mkCx tab.get [(14, Try.f14)] [] [] [] [] []
theorem cx14_ok (X : Type) (n : Nat) : CxOK Try.prog SW (cx14 X n) := mkCx_ok mixed (tabOK tab_ok) ⟨⟨Try.func14, by decide⟩, trivial⟩ trivial ⟨okC_mk (fun _ => rfl) (by kernel_rfl) (castP (by kernel_rfl) (show True from trivial)) (castP (by kernel_rfl) (show True from trivial)), trivial⟩ trivial
theorem ok14 (n : Nat) : FnOK Try.prog SW 14 [(.int .i64)] (.one .bool) (fun x => F.ref20_MTU n x.1) := fnOK_of WOf.st (cx14_ok _ n) (d := 8) (fun x => by kernel_rfl)
def F.ref20_Lines.L7.head : Shape := ⟨[(0, (.sl .str .unk)), (1, (.int .i64)), (7, (.int .i64)), (8, (.int .i64))], [[(.row .str)]], [], [], [], 1, 0, 0⟩
def F.ref20_Lines.L7.e2 : Shape := ⟨[(0, (.sl .str .unk)), (1, (.int .i64)), (7, (.int .i64))], [[(.row .str)]], [], [], [], 1, 0, 0⟩
def F.ref20_Lines.L7.er : Shape := ⟨[(4, (.ms 1 .str)), (5, (.int .i64)), (6, (.int .i64))], [[(.row .str)], [(.row .str)]], [], [], [], 2, 0, 0⟩
noncomputable def F.ref20_Lines.L7.f {X : Type} (n m : Nat) (ks : Ks X) (s : F.ref20_Lines.L7.head.den) : Option X := F.ref20_Lines.L7 n (fun q0 q1 q7 qb0_0 => ks.ex 2 (F.ref20_Lines.L7.e2.e ((q0, q1, q7, ()), ((qb0_0, ()), ()), (), ())) (F.ref20_Lines.L7.e2.h ((q0, q1, q7, ()), ((qb0_0, ()), ()), (), ()))) (fun q4 q5 q6 qb0_0 qb1_0 => ks.ret (F.ref20_Lines.L7.er.e ((q4, q5, q6, ()), ((qb0_0, ()), (qb1_0, ()), ()), (), ())) (F.ref20_Lines.L7.er.h ((q4, q5, q6, ()), ((qb0_0, ()), (qb1_0, ()), ()), (), ()))) m s.1.1 s.1.2.1 s.1.2.2.1 s.1.2.2.2.1 s.2.1.1.1
noncomputable def F.ref20_Lines.L7.li (X : Type) (n : Nat) : LoopI X := ⟨8, ⟨0, 0, 0⟩, F.ref20_Lines.L7.head, [(2, F.ref20_Lines.L7.e2)], some F.ref20_Lines.L7.er, F.ref20_Lines.L7.f n n⟩
def F.ref20_Lines.L4.head : Shape := ⟨[(0, (.sl .str .unk)), (1, (.int .i64)), (7, (.int .i64))], [[(.row .str)]], [], [], [], 1, 0, 0⟩
def F.ref20_Lines.L4.e0 : Shape := ⟨[(0, (.sl .str .unk)), (1, (.int .i64))], [[(.row .str)]], [], [], [], 1, 0, 0⟩
def F.ref20_Lines.L4.er : Shape := ⟨[(4, (.ms 1 .str)), (5, (.int .i64)), (6, (.int .i64))], [[(.row .str)], [(.row .str)]], [], [], [], 2, 0, 0⟩
noncomputable def F.ref20_Lines.L4.f {X : Type} (n m : Nat) (ks : Ks X) (s : F.ref20_Lines.L4.head.den) : Option X := F.ref20_Lines.L4 n (fun q0 q1 qb0_0 => ks.ex 0 (F.ref20_Lines.L4.e0.e ((q0, q1, ()), ((qb0_0, ()), ()), (), ())) (F.ref20_Lines.L4.e0.h ((q0, q1, ()), ((qb0_0, ()), ()), (), ()))) (fun q4 q5 q6 qb0_0 qb1_0 => ks.ret (F.ref20_Lines.L4.er.e ((q4, q5, q6, ()), ((qb0_0, ()), (qb1_0, ()), ()), (), ())) (F.ref20_Lines.L4.er.h ((q4, q5, q6, ()), ((qb0_0, ()), (qb1_0, ()), ()), (), ()))) m s.1.1 s.1.2.1 s.1.2.2.1 s.2.1.1.1
noncomputable def F.ref20_Lines.L4.li (X : Type) (n : Nat) : LoopI X := ⟨8, ⟨0, 0, 0⟩, F.ref20_Lines.L4.head, [(0, F.ref20_Lines.L4.e0)], some F.ref20_Lines.L4.er, F.ref20_Lines.L4.f n n⟩
def F.ref20_Lines.L15.head : Shape := ⟨[(0, (.sl .str .unk)), (1, (.int .i64)), (9, (.ms 1 .str)), (10, (.int .i64))], [[(.row .str)], [(.row .str)]], [], [], [], 2, 0, 0⟩
def F.ref20_Lines.L15.e4 : Shape := ⟨[(9, (.ms 1 .str))], [[(.row .str)], [(.row .str)]], [], [], [], 2, 0, 0⟩
noncomputable def F.ref20_Lines.L15.f {X : Type} (n m : Nat) (ks : Ks X) (s : F.ref20_Lines.L15.head.den) : Option X := F.ref20_Lines.L15 n (fun q9 qb0_0 qb1_0 => ks.ex 4 (F.ref20_Lines.L15.e4.e ((q9, ()), ((qb0_0, ()), (qb1_0, ()), ()), (), ())) (F.ref20_Lines.L15.e4.h ((q9, ()), ((qb0_0, ()), (qb1_0, ()), ()), (), ()))) m s.1.1 s.1.2.1 s.1.2.2.1 s.1.2.2.2.1 s.2.1.1.1 s.2.1.2.1.1
noncomputable def F.ref20_Lines.L15.li (X : Type) (n : Nat) : LoopI X := ⟨8, ⟨0, 0, 0⟩, F.ref20_Lines.L15.head, [(4, F.ref20_Lines.L15.e4)], none, F.ref20_Lines.L15.f n n⟩
noncomputable def cx7 (X : Type) (n : Nat) : Cx X := mkCx tab.get [(7, Try.f7)] [(14, orcOf [(.int .i64)] (.one .bool) (fun x => F.ref20_MTU n x.1))] [(7, 4, [F.ref20_Lines.L4.li X n]), (7, 7, [F.ref20_Lines.L7.li X n]), (7, 15, [F.ref20_Lines.L15.li X n])] [] [] [] [] [(22, .str)]
theorem F.ref20_Lines.L7.ok (X : Type) (n : Nat) : LoopOK (cx7 X n) 7 Try.f7.ntmps (loopNo Try.f7 1) (F.ref20_Lines.L7.li X n) :=
  ⟨F.ref20_Lines.L7.f n, n, fun _ _ => rfl, fun _ _ => rfl, fun m ks s => by kernel_rfl⟩
theorem F.ref20_Lines.L4.ok (X : Type) (n : Nat) : LoopOK (cx7 X n) 7 Try.f7.ntmps (loopNo Try.f7 0) (F.ref20_Lines.L4.li X n) :=
  ⟨F.ref20_Lines.L4.f n, n, fun _ _ => rfl, fun _ _ => rfl, fun m ks s => by kernel_rfl⟩
theorem F.ref20_Lines.L15.ok (X : Type) (n : Nat) : LoopOK (cx7 X n) 7 Try.f7.ntmps (loopNo Try.f7 2) (F.ref20_Lines.L15.li X n) :=
  ⟨F.ref20_Lines.L15.f n, n, fun _ _ => rfl, fun _ _ => rfl, fun m ks s => by kernel_rfl⟩
theorem cx7_ok (X : Type) (n : Nat) : CxOK Try.prog SW (cx7 X n) := mkCx_ok mixed (tabOK tab_ok) ⟨⟨Try.func7, by decide⟩, trivial⟩ ⟨orcOf_ok (ok14 n), trivial⟩ ⟨okC_mk (fun _ => rfl) (by kernel_rfl) (castP (by kernel_rfl) (show (LoopOK (cx7 X n) 7 Try.f7.ntmps (loopNo Try.f7 0) (F.ref20_Lines.L4.li X n) ∧ True) ∧ (LoopOK (cx7 X n) 7 Try.f7.ntmps (loopNo Try.f7 1) (F.ref20_Lines.L7.li X n) ∧ True) ∧ (LoopOK (cx7 X n) 7 Try.f7.ntmps (loopNo Try.f7 2) (F.ref20_Lines.L15.li X n) ∧ True) ∧ True from ⟨⟨F.ref20_Lines.L4.ok X n, trivial⟩, ⟨F.ref20_Lines.L7.ok X n, trivial⟩, ⟨F.ref20_Lines.L15.ok X n, trivial⟩, trivial⟩)) (castP (by kernel_rfl) (show True from trivial)), trivial⟩ trivial
theorem ok7 (n : Nat) : FnOK Try.prog SW 7 [(.sl .str .unk), (.int .i64)] (.many [(.sl .str .unk), (.int .i64), (.int .i64)]) (fun x => F.ref20_Lines n x.1 x.2.1) := fnOK_of WOf.st (cx7_ok _ n) (d := 8) (fun x => by kernel_rfl)
noncomputable def cx3 (X : Type) (n : Nat) : Cx X := mkCx tab.get [(3, Try.f3)] [(4, orcOf [(.sl .str .unk)] (.one .bool) (fun x => F.law20_Few n x.1)), (5, orcOf [] (.one .bool) (fun x => F.law20_awake n )), (6, orcOf [(.sl .str .unk), (.int .i64)] (.many [(.sl (.sl .u8) .unk), (.int .i64), (.int .i64)]) (fun x => F.split_Lines n x.1 x.2.1)), (7, orcOf [(.sl .str .unk), (.int .i64)] (.many [(.sl .str .unk), (.int .i64), (.int .i64)]) (fun x => F.ref20_Lines n x.1 x.2.1)), (8, orcOf [(.sl (.sl .u8) .unk), (.sl .str .unk)] (.one .bool) (fun x => F.law20_same n x.1 x.2.1))] [] [] [] []
theorem cx3_ok (X : Type) (n : Nat) : CxOK Try.prog SW (cx3 X n) := mkCx_ok mixed (tabOK tab_ok) ⟨⟨Try.func3, by decide⟩, trivial⟩ ⟨orcOf_ok (ok4 n),
  orcOf_ok (ok5 n),
  orcOf_ok (ok6 n),
  orcOf_ok (ok7 n),
  orcOf_ok (ok8 n), trivial⟩ ⟨okC_mk (fun _ => rfl) (by kernel_rfl) (castP (by kernel_rfl) (show True from trivial)) (castP (by kernel_rfl) (show True from trivial)), trivial⟩ trivial
theorem ok3 (n : Nat) : FnOK Try.prog SW 3 [(.sl .str .unk), (.int .i64)] (.one .bool) (fun x => F.law20_SplitLines n x.1 x.2.1) := fnOK_of WOf.st (cx3_ok _ n) (d := 8) (fun x => by kernel_rfl)
end Go.AM
set_option linter.unusedVariables false
set_option linter.unusedSimpArgs false
namespace Go.AM
def small100 (s : List UInt8) : Bool := decide (s.length ≤ 100)
def few20 (l : List (List UInt8)) : Bool := decide (l.length ≤ 40) && l.all small100
def bad (mtu : Int) : Nat → List (List UInt8) → Option (Nat × Int)
  | _, [] => none
  | k, s :: l => if 10 ∈ s then some (k, 14) else if (s.length : Int) + 1 > mtu then some (k, 27) else bad mtu (k + 1) l
def grams (mtu : Int) : List UInt8 → List (List UInt8) → List (List UInt8)
  | cur, [] => if cur = [] then [] else [cur]
  | cur, s :: l => if (cur.length : Int) + s.length + 1 > mtu then cur :: grams mtu (s ++ [10]) l else grams mtu (cur ++ s ++ [10]) l
theorem grams_cons (mtu : Int) (cur s : List UInt8) (l : List (List UInt8)) : grams mtu cur (s :: l) = if (cur.length : Int) + s.length + 1 > mtu then cur :: grams mtu (s ++ [10]) l else grams mtu (cur ++ s ++ [10]) l := rfl
def linesOf (l : List (List UInt8)) (mtu : Int) : List (List UInt8) × Int × Int × Unit :=
  if mtu < 1 ∨ 65536 < mtu then ([], 0, 10, ()) else match bad mtu 0 l with
    | some (k, e) => ([], (k : Int), e, ())
    | none => (grams mtu [] l, 0, 0, ())
theorem few_loop (n : Nat) (X : Type) (k0 : List (List UInt8) → Option X) (kr : Bool → Option X) (l : List (List UInt8)) : ∀ (r : List (List UInt8)) (k m : Nat), l.drop k = r → k ≤ 41 → 42 < m + k →
    F.law20_Few.L2 n k0 kr m l k = if (r.take (41 - k)).all small100 then k0 l else kr false := by
  intro r
  induction r with
  | nil =>
    intro k m hk hk1 hm
    have := drop_nil' hk
    cases m with
    | zero => omega
    | succ m =>
      show F.law20_Few.L2.step n _ k0 kr l k = _
      unfold F.law20_Few.L2.step
      rw [bif_neg (by omega)]
      simp
  | cons x r ih =>
    intro k m hk hk1 hm
    obtain ⟨h1, h2, h3⟩ := drop_cons hk
    cases m with
    | zero => omega
    | succ m =>
      show F.law20_Few.L2.step n (F.law20_Few.L2 n k0 kr m) k0 kr l k = _
      unfold F.law20_Few.L2.step
      rw [bif_pos (by omega)]
      by_cases h41 : k < 41
      · rw [bif_pos (by omega), idx_nat, h2, some_bind', show 41 - k = (41 - (k + 1)) + 1 from by omega, List.take_succ_cons, List.all_cons]
        by_cases hx : x.length ≤ 100
        · rw [bif_neg (by omega), wrap_succ (by omega), ih (k + 1) m h3 (by omega) (by omega)]
          simp [small100, hx]
        · rw [bif_pos (by omega)]
          simp [small100, hx]
      · rw [bif_neg (by omega), show 41 - k = 0 from by omega]
        simp
theorem few_eq (n : Nat) (h : 100 ≤ n) (l : List (List UInt8)) : F.law20_Few n l = some (few20 l) := by
  unfold F.law20_Few
  refine (few_loop n Bool _ _ l l 0 n rfl (by omega) (by omega)).trans ?_
  unfold few20
  by_cases hl : l.length ≤ 40
  · rw [List.take_of_length_le (by omega)]
    by_cases ha : l.all small100 = true
    · simp [ha, hl]; omega
    · simp [ha]
  · by_cases ha : (l.take 41).all small100 = true
    · simp [ha, hl]; omega
    · simp [ha, hl]
theorem may_eq (n : Nat) (mtu : Int) : F.split_may n mtu = some (decide (1 ≤ mtu ∧ mtu ≤ 65536)) := by
  unfold F.split_may
  by_cases h : 1 ≤ mtu
  · rw [bif_pos (by omega)]; simp [h]
  · rw [bif_neg (by omega)]; simp [h]
theorem contains_eq (n : Nat) (s : List UInt8) : F.strings_Contains n s [10] = some (decide (10 ∈ s)) := by
  unfold F.strings_Contains F.strings_Index O.index1
  simp only [some_bind']
  congr 1
  have := indexByte_ge (l := s) (c := 10)
  by_cases h : 10 ∈ s
  · simp [h, this.2 h]
  · simp only [h, decide_false, decide_eq_false_iff_not]
    intro h2
    exact h (this.1 h2)
theorem bad_loop (n : Nat) (X : Type) (k0 : List (List UInt8) → Int → Option X) (kr : List (List UInt8) → Int → Int → Nat → Option X) (l : List (List UInt8)) (mtu : Int) (hl : few20 l = true) : ∀ (r : List (List UInt8)) (k m : Nat), l.drop k = r → r.length < m →
    F.split_Lines.L4 n k0 kr m l mtu l (l.length : Int) k = match bad mtu k r with
      | some (j, e) => kr [] (j : Int) e 0
      | none => k0 l mtu := by
  simp only [few20, Bool.and_eq_true, decide_eq_true_eq, List.all_eq_true, small100] at hl
  intro r
  induction r with
  | nil =>
    intro k m hk hm
    have := drop_nil' hk
    cases m with
    | zero => simp at hm
    | succ m =>
      show F.split_Lines.L4.step n _ k0 kr l mtu l _ k = _
      unfold F.split_Lines.L4.step
      rw [bif_neg (by omega)]
      rfl
  | cons x r ih =>
    intro k m hk hm
    obtain ⟨h1, h2, h3⟩ := drop_cons hk
    have hx : x.length ≤ 100 := hl.2 x (List.mem_of_getElem? h2)
    cases m with
    | zero => simp at hm
    | succ m =>
      show F.split_Lines.L4.step n (F.split_Lines.L4 n k0 kr m) k0 kr l mtu l _ k = _
      unfold F.split_Lines.L4.step
      rw [bif_pos (by omega), idx_nat, h2, some_bind', contains_eq, some_bind', wrap_in (by omega)]
      unfold bad
      by_cases h10 : 10 ∈ x
      · simp [h10]
      · simp only [h10, decide_false, cond_false, if_false]
        by_cases hf : (x.length : Int) + 1 > mtu
        · rw [bif_pos hf, if_pos hf]
        · rw [bif_neg hf, if_neg hf, wrap_succ (by omega), ih (k + 1) m h3 (by simp at hm; omega)]
theorem feeds_length_le {l : List (List UInt8)} (h : ∀ s ∈ l, s.length ≤ 100) : (feeds l).length ≤ 101 * l.length := by
  induction l with
  | nil => simp [feeds]
  | cons x l ih =>
    have h1 := h x (by simp)
    have h2 := ih (fun s hs => h s (by simp [hs]))
    simp only [feeds, List.length_append, List.length_cons, List.length_nil]
    omega
theorem grams_loop (n : Nat) (X : Type) (k0 : List UInt8 → Int → Int → List (List UInt8) → Int → List (List UInt8) → Nat → Nat → Option X) (l : List (List UInt8)) (mtu : Int) (t : List UInt8) (q : Nat) (hl : l.length ≤ 40) (hs : ∀ s ∈ l, s.length ≤ 100) :
    ∀ (r : List (List UInt8)) (k m a : Nat) (out : List (List UInt8)), l.drop k = r → k ≤ l.length → r.length < m → a ≤ (feeds (l.take k)).length → out.length ≤ k →
    ∃ (a' : Nat) (out' : List (List UInt8)), a' ≤ (feeds l).length ∧ out'.length ≤ l.length ∧ F.split_Lines.L3_split_datagrams_1 n k0 m (feeds l ++ t) (a : Int) ((feeds (l.take k)).length : Int) l (l.length : Int) (k : Int) l mtu out q out.length = k0 (feeds l ++ t) (a' : Int) ((feeds l).length : Int) l mtu out' q out'.length ∧
      out ++ grams mtu ((feeds (l.take k)).drop a) r = out' ++ (if (feeds l).drop a' = [] then [] else [(feeds l).drop a']) := by
  intro r
  induction r with
  | nil =>
    intro k m a out hk hkl hm ha ho
    have hk' := drop_nil' hk
    have e : l.take k = l := List.take_of_length_le hk'
    cases m with
    | zero => simp at hm
    | succ m =>
      refine ⟨a, out, by rw [e] at ha; exact ha, by omega, ?_, by rw [e]; rfl⟩
      · show F.split_Lines.L3_split_datagrams_1.step n _ k0 _ _ _ _ _ _ _ _ _ _ _ = _
        unfold F.split_Lines.L3_split_datagrams_1.step
        rw [bif_neg (by omega), e]
  | cons x r ih =>
    intro k m a out hk hkl hm ha ho
    obtain ⟨h1, h2, h3⟩ := drop_cons hk
    have hx : x.length ≤ 100 := hs x (List.mem_of_getElem? h2)
    have htk : l.take (k + 1) = l.take k ++ [x] := by rw [List.take_add_one, h2]; rfl
    have hfk : feeds (l.take (k + 1)) = feeds (l.take k) ++ (x ++ [10]) := by rw [htk, feeds_append]; simp [feeds]
    have hfl : (feeds (l.take k)).length ≤ 101 * k := by
      have := feeds_length_le (l := l.take k) (fun s hs' => hs s (List.mem_of_mem_take hs'))
      simp only [List.length_take] at this
      omega
    have hpre : ∃ t', feeds l = feeds (l.take k) ++ t' := ⟨feeds (l.drop k), by rw [← feeds_append, List.take_append_drop]⟩
    obtain ⟨t', ht'⟩ := hpre
    have hlen : ((feeds (l.take (k + 1))).length : Int) = (feeds (l.take k)).length + x.length + 1 := by rw [hfk]; simp; omega
    generalize hp : feeds (l.take k) = p at *
    cases m with
    | zero => simp at hm
    | succ m =>
      have hw : IntKind.wrap .i64 ((IntKind.wrap .i64 ((p.length : Int) + (x.length : Int))) + (1 : Int)) = ((feeds (l.take (k + 1))).length : Int) := by
        rw [wrap_in (x := (p.length : Int) + (x.length : Int)) (by omega), wrap_in (by omega), hlen]
      have step : F.split_Lines.L3_split_datagrams_1 n k0 (m + 1) (feeds l ++ t) (a : Int) (p.length : Int) l (l.length : Int) (k : Int) l mtu out q out.length =
          if (p.length : Int) + x.length + 1 - a > mtu then F.split_Lines.L3_split_datagrams_1 n k0 m (feeds l ++ t) (p.length : Int) ((feeds (l.take (k + 1))).length : Int) l (l.length : Int) ((k + 1 : Nat) : Int) l mtu (out ++ [p.drop a]) q (out ++ [p.drop a]).length
          else F.split_Lines.L3_split_datagrams_1 n k0 m (feeds l ++ t) (a : Int) ((feeds (l.take (k + 1))).length : Int) l (l.length : Int) ((k + 1 : Nat) : Int) l mtu out q out.length := by
        show F.split_Lines.L3_split_datagrams_1.step n (F.split_Lines.L3_split_datagrams_1 n k0 m) k0 _ _ _ _ _ _ _ _ _ _ _ = _
        unfold F.split_Lines.L3_split_datagrams_1.step
        rw [bif_pos (by omega), idx_nat, h2, some_bind', hw, hlen, wrap_in (by omega), wrap_succ (by omega), bdec]
        by_cases hc : (p.length : Int) + x.length + 1 - a > mtu
        · rw [if_pos hc, if_pos hc, sub_nat _ _ _ ha (by rw [ht']; simp)]
          have e2 : ((feeds l ++ t).take p.length).drop a = p.drop a := by rw [ht']; simp
          rw [e2]
          have e3 : (decide ((out.length + 1) * 24 ≤ 2 ^ 46) && decide (0 < 24 ∧ 24 ≤ 2 ^ 20)) = true := by simp; omega
          have e4 : Nat.beq out.length out.length = true := Nat.beq_refl _
          simp only [some_bind', e3, e4, cond_true, beq_self_eq_true]
        · rw [if_neg hc, if_neg hc]
      rw [step]
      by_cases hc : (p.length : Int) + x.length + 1 - a > mtu
      · rw [if_pos hc]
        obtain ⟨a', out', q1, q2, q3, q4⟩ := ih (k + 1) m p.length (out ++ [p.drop a]) h3 (by omega) (by simp at hm; omega) (by rw [hfk]; simp) (by simp; omega)
        refine ⟨a', out', q1, q2, q3, ?_⟩
        rw [← q4, hfk]
        rw [grams_cons, if_pos (by rw [List.length_drop]; omega)]
        simp
      · rw [if_neg hc]
        obtain ⟨a', out', q1, q2, q3, q4⟩ := ih (k + 1) m a out h3 (by omega) (by simp at hm; omega) (by rw [hfk]; simp; omega) (by omega)
        refine ⟨a', out', q1, q2, q3, ?_⟩
        rw [← q4, hfk]
        rw [grams_cons, if_neg (by rw [List.length_drop]; omega), List.drop_append_of_le_length ha]
        simp
theorem feeds_ne {l : List (List UInt8)} (h : feeds l = []) : l = [] := by
  cases l with
  | nil => rfl
  | cons x l => simp [feeds] at h
theorem join40 {l : List (List UInt8)} (hl : l.length ≤ 40) (hs : ∀ s ∈ l, s.length ≤ 100) : (Lib.join l [10]).length ≤ 5000 := by
  by_cases h : l = []
  · subst h; simp [Lib.join]
  · have h1 := congrArg List.length (feeds_eq l h)
    have h2 := feeds_length_le hs
    simp at h1
    omega
theorem lines_eq (n : Nat) (hn : 100 ≤ n) (l : List (List UInt8)) (mtu : Int) (hf : few20 l = true) : F.split_Lines n l mtu = some (linesOf l mtu) := by
  have hf' := hf
  simp only [few20, Bool.and_eq_true, decide_eq_true_eq, List.all_eq_true, small100] at hf'
  obtain ⟨hl, hs⟩ := hf'
  unfold F.split_Lines linesOf
  rw [may_eq, some_bind']
  by_cases hm : 1 ≤ mtu ∧ mtu ≤ 65536
  · rw [if_neg (by omega)]
    simp only [hm, decide_true, Bool.not_true, cond_false, and_self]
    refine (bad_loop n _ _ _ l mtu hf l 0 n rfl (by omega)).trans ?_
    split
    · rfl
    · have hj := join40 hl hs
      have e1 : O.join n l [10] = some (Lib.join l [10]) := by
        unfold O.join
        have : (Nat.ble l.length big47 && Nat.ble (Lib.join l [10]).length big47) = true := by
          simp only [Bool.and_eq_true, nble, big47]; omega
        rw [this]; rfl
      rw [e1, some_bind', bif_pos (by rw [strMax_eq]; omega)]
      obtain ⟨t, ht, ht0⟩ : ∃ t, Lib.join l [10] ++ [10] = feeds l ++ t ∧ (l ≠ [] → t = []) := by
        by_cases h : l = []
        · subst h; exact ⟨[10], rfl, fun h => absurd rfl h⟩
        · exact ⟨[], by rw [feeds_eq l h]; simp, fun _ => rfl⟩
      rw [ht]
      obtain ⟨a', out', q1, q2, q3, q4⟩ := grams_loop n _ (fun e8_4 e8_5 e8_6 e8_b0_0 e8_b1_0 e8_b2_0 e8_k0 e8_k1 =>
                  bif decide (e8_6 > e8_5) then
                    bif e8_6 == e8_6 then
                      (sub e8_4 e8_5 e8_6).bind fun x9 =>
                        bif decide ((e8_b2_0.length + 1) * 24 ≤ 2 ^ 46) && decide (0 < 24 ∧ 24 ≤ 2 ^ 20) then
                          bif Nat.beq e8_k1 e8_b2_0.length then
                            some ((e8_b2_0 ++ ([x9]), (0 : Int), (0 : Int), ()))
                          else
                            none
                        else
                          none
                    else
                      none
                  else
                    some ((e8_b2_0, (0 : Int), (0 : Int), ()))) l mtu t ((feeds l ++ t).length) hl hs l 0 n 0 [] rfl (by omega) (by omega) (by simp) (by simp)
      refine q3.trans ?_
      simp only [List.nil_append, List.take_zero, feeds, List.drop_nil] at q4
      rw [q4]
      by_cases hc : (feeds l).drop a' = []
      · have : (feeds l).length ≤ a' := by simpa using hc
        rw [bif_neg (by omega), if_pos hc]
        simp
      · have : ¬ (feeds l).length ≤ a' := by simpa using hc
        rw [bif_pos (by omega), if_neg hc]
        have e3 : (decide ((out'.length + 1) * 24 ≤ 2 ^ 46) && decide (0 < 24 ∧ 24 ≤ 2 ^ 20)) = true := by simp; omega
        have e4 : Nat.beq out'.length out'.length = true := Nat.beq_refl _
        rw [sub_nat _ _ _ q1 (by simp), some_bind', e3, e4]
        simp
  · rw [if_pos (by omega)]
    simp [hm]
theorem same_loop (n : Nat) (X : Type) (k0 : Unit → Option X) (kr : Bool → Option X) (a b : List (List UInt8)) (he : a.length = b.length) (hb : a.length < 4611686018427387904) : ∀ (r : List (List UInt8)) (k m : Nat), a.drop k = r → r.length < m →
    F.law20_same.L4 n k0 kr m a b (k : Int) = if r = b.drop k then k0 () else kr false := by
  intro r
  induction r with
  | nil =>
    intro k m hk hm
    have := drop_nil' hk
    cases m with
    | zero => simp at hm
    | succ m =>
      show F.law20_same.L4.step n _ k0 kr a b k = _
      unfold F.law20_same.L4.step
      rw [bif_neg (by omega), if_pos (by symm; simp; omega)]
  | cons x r ih =>
    intro k m hk hm
    obtain ⟨h1, h2, h3⟩ := drop_cons hk
    have hkb : k < b.length := by omega
    cases m with
    | zero => simp at hm
    | succ m =>
      show F.law20_same.L4.step n (F.law20_same.L4 n k0 kr m) k0 kr a b k = _
      unfold F.law20_same.L4.step
      rw [bif_pos (by omega), idx_nat, h2, some_bind', idx_lt hkb, some_bind', wrap_succ (by omega), ih (k + 1) m h3 (by simp at hm; omega), List.drop_eq_getElem_cons hkb]
      by_cases hx : x = b[k]
      · have e : (!(x == b[k])) = false := by simp [hx]
        rw [e, cond_false, hx]
        by_cases hr : r = b.drop (k + 1)
        · rw [if_pos hr, if_pos (by rw [hr])]
        · rw [if_neg hr, if_neg (fun h => hr (List.cons.inj h).2)]
      · have e : (!(x == b[k])) = true := by simp [hx]
        rw [e, cond_true, if_neg (fun h => hx (List.cons.inj h).1)]
theorem same_eq (n : Nat) (a b : List (List UInt8)) (hb : a.length < 4611686018427387904) (hn : a.length < n) : F.law20_same n a b = some (decide (a = b)) := by
  unfold F.law20_same
  by_cases he : a.length = b.length
  · have : (!((a.length : Int) == (b.length : Int))) = false := by simp [he]
    rw [this, cond_false]
    refine (same_loop n _ _ _ a b he hb a 0 n rfl hn).trans ?_
    by_cases h : a = b
    · simp [h]
    · simp [h]
  · have : (!((a.length : Int) == (b.length : Int))) = true := by simp; omega
    rw [this, cond_true]
    have : a ≠ b := fun h => he (by rw [h])
    simp [this]
theorem joinB_eq (n : Nat) (a : List (List UInt8)) (h1 : a.length ≤ 1000000) (h2 : a.flatten.length ≤ 1000000) : F.split_Join n a = some a.flatten := by
  unfold F.split_Join O.bjoin
  have : (Nat.ble a.length big47 && Nat.ble (Lib.lens a + ([] : List UInt8).length * (a.length - 1)) big47 && ([] : List UInt8).isEmpty) = true := by
    simp only [Bool.and_eq_true, nble, big47, List.length_nil, Nat.zero_mul, Nat.add_zero, ← lens_flatten]
    exact ⟨⟨by omega, by omega⟩, rfl⟩
  rw [this]
  rfl
theorem awake_eq (n : Nat) (hn : 100 ≤ n) : F.law20_awake n = some true := by
  unfold F.law20_awake
  rw [lines_eq n hn _ _ (by decide), lines_eq n hn _ _ (by decide)]
  have e1 : linesOf [[97, 98], [99], [100, 101, 102]] 5 = ([[97, 98, 10, 99, 10], [100, 101, 102, 10]], 0, 0, ()) := by decide
  have e2 : linesOf [[97, 98], [99], [100, 101, 102]] 3 = ([], 2, 27, ()) := by decide
  simp only [some_bind', e1, e2]
  rw [same_eq n _ _ (by simp) (by simp; omega), joinB_eq n _ (by simp) (by simp)]
  rfl
def good (mtu : Int) : Option Nat → List (List UInt8) → Prop
  | _, [] => True
  | p, x :: r => 1 ≤ x.length ∧ (x.length : Int) ≤ mtu ∧ x[x.length - 1]? = some 10 ∧ (∀ q, p = some q → (q : Int) + x.length > mtu) ∧ good mtu (some x.length) r
theorem bad_none {mtu : Int} : ∀ {l : List (List UInt8)} {k : Nat}, bad mtu k l = none → ∀ s ∈ l, 10 ∉ s ∧ (s.length : Int) + 1 ≤ mtu
  | [], k, h, s, hs => by simp at hs
  | x :: l, k, h, s, hs => by
    unfold bad at h
    split at h
    · cases h
    · split at h
      · cases h
      · rename_i h1 h2
        rcases List.mem_cons.1 hs with rfl | hs
        · exact ⟨h1, by omega⟩
        · exact bad_none h s hs
theorem bad_some {mtu : Int} : ∀ {l : List (List UInt8)} {k j : Nat} {e : Int}, bad mtu k l = some (j, e) → k ≤ j ∧ j < k + l.length ∧ (e = 14 ∨ e = 27)
  | [], k, j, e, h => by cases h
  | x :: l, k, j, e, h => by
    unfold bad at h
    split at h
    · simp at h; simp; omega
    · split at h
      · simp at h; simp; omega
      · have := bad_some h
        simp; omega
theorem grams_good {mtu : Int} : ∀ (l : List (List UInt8)) (cur : List UInt8) (p : Option Nat), (∀ s ∈ l, (s.length : Int) + 1 ≤ mtu) → (cur = [] → p = none) → (cur ≠ [] → (cur.length : Int) ≤ mtu ∧ cur[cur.length - 1]? = some 10 ∧ ∀ q, p = some q → (q : Int) + cur.length > mtu) →
    good mtu p (grams mtu cur l)
  | [], cur, p, hs, h0, h1 => by
    unfold grams
    split
    · trivial
    · rename_i hc
      obtain ⟨a, b, c⟩ := h1 hc
      exact ⟨by cases cur with | nil => exact absurd rfl hc | cons _ _ => simp, a, b, c, trivial⟩
  | s :: l, cur, p, hs, h0, h1 => by
    have hs1 := hs s (by simp)
    rw [grams_cons]
    split
    · rename_i hf
      have hc : cur ≠ [] := by rintro rfl; simp at hf; omega
      obtain ⟨a, b, c⟩ := h1 hc
      refine ⟨by cases cur with | nil => exact absurd rfl hc | cons _ _ => simp, a, b, c, ?_⟩
      refine grams_good l (s ++ [10]) _ (fun t ht => hs t (by simp [ht])) (by simp) fun _ => ⟨by simp; omega, by simp, fun q hq => ?_⟩
      obtain rfl := Option.some.inj hq
      simp
      omega
    · rename_i hf
      refine grams_good l (cur ++ s ++ [10]) p (fun t ht => hs t (by simp [ht])) (by simp) fun _ => ⟨by simp; omega, by simp, fun q hq => ?_⟩
      by_cases hc : cur = []
      · rw [h0 hc] at hq; cases hq
      · have := (h1 hc).2.2 q hq
        simp
        omega
theorem grams_flat {mtu : Int} : ∀ (l : List (List UInt8)) (cur : List UInt8), (grams mtu cur l).flatten = cur ++ feeds l
  | [], cur => by
    unfold grams
    split
    · rename_i h; simp [h, feeds]
    · simp [feeds]
  | s :: l, cur => by
    rw [grams_cons]
    split
    · simp [grams_flat l, feeds]
    · simp [grams_flat l, feeds]
theorem grams_length {mtu : Int} : ∀ (l : List (List UInt8)) (cur : List UInt8), (grams mtu cur l).length ≤ l.length + 1
  | [], cur => by unfold grams; split <;> simp
  | s :: l, cur => by
    rw [grams_cons]
    split
    · have := grams_length (mtu := mtu) l (s ++ [10]); simp; omega
    · have := grams_length (mtu := mtu) l (cur ++ s ++ [10]); simp at this ⊢; omega
end Go.AM
set_option linter.unusedVariables false
set_option linter.unusedSimpArgs false
namespace Go.AM
theorem mtu_eq (n : Nat) (mtu : Int) : F.ref20_MTU n mtu = some (decide (1 ≤ mtu ∧ mtu ≤ 65536)) := by
  unfold F.ref20_MTU
  by_cases h : 1 ≤ mtu
  · rw [bif_pos (by omega)]; simp [h]
  · rw [bif_neg (by omega)]; simp [h]
theorem byte10 (b : UInt8) : ((b.toNat : Int) == (10 : Int)) = decide (b = 10) := by
  by_cases h : b = 10
  · subst h; rfl
  · simp only [h, decide_false, beq_eq_false_iff_ne, ne_eq]
    intro h2
    exact h (UInt8.toNat_inj.1 (by have : (10 : UInt8).toNat = 10 := rfl; omega))
theorem scan_loop (n : Nat) (X : Type) (k2 : List (List UInt8) → Int → Int → (Nat × List (List UInt8)) → Option X) (kr : (Nat × Nat) → Int → Int → (Nat × List (List UInt8)) → (Nat × List (List UInt8)) → Option X)
    (l : List (List UInt8)) (mtu : Int) (i : Nat) (s : List UInt8) (hi : l[i]? = some s) (hs : s.length ≤ 100) (vb : Nat × List (List UInt8)) : ∀ (r : List UInt8) (k m : Nat), s.drop k = r → r.length < m →
    F.ref20_Lines.L7 n k2 kr m l mtu (i : Int) (k : Int) vb = if 10 ∈ r then kr (1, 0) (i : Int) 14 vb (1, []) else k2 l mtu (i : Int) vb := by
  intro r
  induction r with
  | nil =>
    intro k m hk hm
    have := drop_nil' hk
    cases m with
    | zero => simp at hm
    | succ m =>
      show F.ref20_Lines.L7.step n _ k2 kr l mtu _ _ vb = _
      unfold F.ref20_Lines.L7.step
      rw [idx_nat, hi, some_bind', bif_neg (by omega)]
      simp
  | cons x r ih =>
    intro k m hk hm
    obtain ⟨h1, h2, h3⟩ := drop_cons hk
    cases m with
    | zero => simp at hm
    | succ m =>
      show F.ref20_Lines.L7.step n (F.ref20_Lines.L7 n k2 kr m) k2 kr l mtu _ _ vb = _
      unfold F.ref20_Lines.L7.step
      rw [idx_nat, hi, some_bind', bif_pos (by omega), some_bind', idx_nat, h2, some_bind', byte10]
      by_cases hx : x = 10
      · subst hx; simp
      · have hx' : ¬ (10 : UInt8) = x := fun e => hx e.symm
        rw [bif_neg hx, wrap_succ (by omega), ih (k + 1) m h3 (by simp at hm; omega)]
        simp [hx']
theorem check_loop (n : Nat) (hn : 100 < n) (X : Type) (k0 : List (List UInt8) → Int → (Nat × List (List UInt8)) → Option X) (kr : (Nat × Nat) → Int → Int → (Nat × List (List UInt8)) → (Nat × List (List UInt8)) → Option X)
    (l : List (List UInt8)) (mtu : Int) (hl : few20 l = true) (vb : Nat × List (List UInt8)) : ∀ (r : List (List UInt8)) (k m : Nat), l.drop k = r → r.length < m →
    F.ref20_Lines.L4 n k0 kr m l mtu (k : Int) vb = match bad mtu k r with
      | some (j, e) => kr (1, 0) (j : Int) e vb (1, [])
      | none => k0 l mtu vb := by
  simp only [few20, Bool.and_eq_true, decide_eq_true_eq, List.all_eq_true, small100] at hl
  intro r
  induction r with
  | nil =>
    intro k m hk hm
    have := drop_nil' hk
    cases m with
    | zero => simp at hm
    | succ m =>
      show F.ref20_Lines.L4.step n _ k0 kr l mtu _ vb = _
      unfold F.ref20_Lines.L4.step
      rw [bif_neg (by omega)]
      rfl
  | cons x r ih =>
    intro k m hk hm
    obtain ⟨h1, h2, h3⟩ := drop_cons hk
    have hx : x.length ≤ 100 := hl.2 x (List.mem_of_getElem? h2)
    cases m with
    | zero => simp at hm
    | succ m =>
      show F.ref20_Lines.L4.step n (F.ref20_Lines.L4 n k0 kr m) k0 kr l mtu _ vb = _
      unfold F.ref20_Lines.L4.step
      rw [bif_pos (by omega)]
      refine (scan_loop n _ _ _ l mtu k x h2 hx vb x 0 n rfl (by omega)).trans ?_
      unfold bad
      by_cases h10 : 10 ∈ x
      · simp [h10]
      · simp only [h10, if_false]
        rw [idx_nat, h2, some_bind', wrap_in (by omega)]
        by_cases hf : (x.length : Int) + 1 > mtu
        · rw [bif_pos hf, if_pos hf]
        · rw [bif_neg hf, if_neg hf, wrap_succ (by omega)]
          exact ih (k + 1) m h3 (by simp at hm; omega)
theorem upd_last {α : Type} (l : List α) (a z : α) : upd (l ++ [a]) l.length z = l ++ [z] := by
  rw [upd_eq]; simp
theorem idx_last {α : Type} (l : List α) (a : α) : idx (l ++ [a]) (l.length : Int) = some a := by
  rw [idx_nat]; simp
def sofar (cl : List (List UInt8)) (cur : List UInt8) : List (List UInt8) := if cur = [] then cl else cl ++ [cur]
theorem main_loop (n : Nat) (X : Type) (k4 : (Nat × Nat) → (Nat × List (List UInt8)) → (Nat × List (List UInt8)) → Option X) (l : List (List UInt8)) (mtu : Int) (hl : l.length ≤ 40) (hs : ∀ s ∈ l, s.length ≤ 100 ∧ (s.length : Int) + 1 ≤ mtu) (hm : mtu ≤ 65536) (vb : Nat × List (List UInt8)) :
    ∀ (r : List (List UInt8)) (k m w : Nat) (cl : List (List UInt8)) (cur : List UInt8), l.drop k = r → r.length < m → k ≤ 40 → cl.length ≤ k → (cur ≠ [] → cl.length + 1 ≤ k) → (cur = [] → cl = []) → cur.length ≤ 65536 →
    ∃ w', F.ref20_Lines.L15 n k4 m l mtu (w, (sofar cl cur).length) (k : Int) vb (w, sofar cl cur) = k4 (w', (cl ++ grams mtu cur r).length) vb (w', cl ++ grams mtu cur r) := by
  intro r
  induction r with
  | nil =>
    intro k m w cl cur hk hm' hk40 hc1 hc2 hc3 hc4
    have := drop_nil' hk
    cases m with
    | zero => simp at hm'
    | succ m =>
      refine ⟨w, ?_⟩
      show F.ref20_Lines.L15.step n _ k4 l mtu _ _ vb _ = _
      unfold F.ref20_Lines.L15.step
      rw [bif_neg (by omega)]
      have : sofar cl cur = cl ++ grams mtu cur [] := by
        unfold sofar grams
        by_cases h : cur = []
        · simp [h]
        · simp [h]
      rw [this]
  | cons s r ih =>
    intro k m w cl cur hk hm' hk40 hc1 hc2 hc3 hc4
    obtain ⟨h1, h2, h3⟩ := drop_cons hk
    obtain ⟨hs1, hs2⟩ := hs s (List.mem_of_getElem? h2)
    cases m with
    | zero => simp at hm'
    | succ m =>
      have hmr : r.length < m := by simp at hm'; omega
      have new : ∀ (out : List (List UInt8)), out.length ≤ 40 → out.length = (cl ++ (if cur = [] then [] else [cur])).length → out = cl ++ (if cur = [] then [] else [cur]) → grams mtu cur (s :: r) = (if cur = [] then [] else [cur]) ++ grams mtu (s ++ [10]) r →
          ∃ w', F.ref20_Lines.L15 n k4 m l mtu (w + 1, (out ++ [[]]).length) ((k + 1 : Nat) : Int) vb (w + 1, out ++ [s ++ [10]]) = k4 (w', (cl ++ grams mtu cur (s :: r)).length) vb (w', cl ++ grams mtu cur (s :: r)) := by
        intro out ho _ ho2 hg
        have hne : s ++ [10] ≠ [] := by simp
        obtain ⟨w', hw⟩ := ih (k + 1) m (w + 1) out (s ++ [10]) h3 hmr (by omega) (by
          rw [ho2]
          by_cases hcur : cur = []
          · simp [hcur]; omega
          · have := hc2 hcur; simp [hcur]; omega) (fun _ => by
          rw [ho2]
          by_cases hcur : cur = []
          · have := hc3 hcur; simp [hcur, this]
          · have := hc2 hcur; simp [hcur]; omega) (fun e => absurd e hne) (by simp; omega)
        refine ⟨w', ?_⟩
        have e1 : sofar out (s ++ [10]) = out ++ [s ++ [10]] := by unfold sofar; rw [if_neg hne]
        rw [e1] at hw
        have e2 : (out ++ [[]]).length = (out ++ [s ++ [10]]).length := by simp
        rw [e2, hw]
        have e3 : out ++ grams mtu (s ++ [10]) r = cl ++ grams mtu cur (s :: r) := by rw [hg, ho2, List.append_assoc]
        rw [e3]
      have hkl : k < l.length := h1
      by_cases hcur : cur = []
      · have hcl := hc3 hcur
        subst hcur hcl
        have hg : grams mtu [] (s :: r) = [] ++ grams mtu (s ++ [10]) r := by
          rw [grams_cons, if_neg (by simp; omega)]; simp
        obtain ⟨w', hw⟩ := new [] (by simp) rfl rfl (by simpa using hg)
        refine ⟨w', ?_⟩
        show F.ref20_Lines.L15.step n (F.ref20_Lines.L15 n k4 m) k4 l mtu _ _ vb _ = _
        unfold F.ref20_Lines.L15.step
        rw [bif_pos (by omega)]
        have e0 : sofar [] ([] : List UInt8) = [] := rfl
        simp only [e0, List.length_nil, List.nil_append, List.length_cons]
        have hb : Nat.beq w w = true := Nat.beq_refl w
        have hb1 : Nat.beq (w + 1) (w + 1) = true := Nat.beq_refl _
        have e1 : IntKind.wrap .i64 (((0 + 1 : Nat) : Int) - 1) = 0 := by rw [wrap_in (by omega)]; rfl
        have e2 : (decide ((0 + 1) * 16 ≤ 2 ^ 46) && decide (0 < 16 ∧ 16 ≤ 2 ^ 20)) = true := by decide
        have e3 : (((0 : Nat) : Int) == (0 : Int)) = true := rfl
        have e4 : (decide ((0 : Int) ≤ 0) && decide ((0 : Int) < ((0 + 1 : Nat) : Int))) = true := by decide
        have e5 : idx ([[]] : List (List UInt8)) (0 : Int) = some [] := rfl
        have e6 : (decide ((([] : List UInt8).length) + s.length ≤ strMax)) = true := by rw [strMax_eq]; simp; omega
        have e7 : (decide ((([] ++ s).length) + 1 ≤ strMax)) = true := by rw [strMax_eq]; simp; omega
        simp only [e1, e2, e3, e4, hb, hb1, e5, cond_true, some_bind', idx_nat, h2]
        simp only [List.length_nil, List.nil_append] at e6 e7
        simp only [List.length_nil, List.nil_append, e6, e7, cond_true]
        rw [wrap_succ (by omega)]
        exact hw
      · have hc5 := hc2 hcur
        have e0 : sofar cl cur = cl ++ [cur] := by unfold sofar; rw [if_neg hcur]
        have hlen : (cl ++ [cur]).length = cl.length + 1 := by simp
        have hb : Nat.beq w w = true := Nat.beq_refl w
        have hb1 : Nat.beq (w + 1) (w + 1) = true := Nat.beq_refl _
        have e1 : IntKind.wrap .i64 (((cl.length + 1 : Nat) : Int) - 1) = (cl.length : Int) := by rw [wrap_in (by omega)]; omega
        have e3 : (((cl.length + 1 : Nat) : Int) == (0 : Int)) = false := by simp; omega
        have e4 : (decide ((0 : Int) ≤ (cl.length : Int)) && decide ((cl.length : Int) < ((cl.length + 1 : Nat) : Int))) = true := by simp; omega
        have e5 : idx (cl ++ [cur]) (cl.length : Int) = some cur := idx_last _ _
        have e8 : IntKind.wrap .i64 ((IntKind.wrap .i64 ((cur.length : Int) + (s.length : Int))) + 1) = (cur.length : Int) + s.length + 1 := by rw [wrap_in (x := (cur.length : Int) + (s.length : Int)) (by omega), wrap_in (by omega)]
        by_cases hfit : (cur.length : Int) + s.length + 1 > mtu
        · have hg : grams mtu cur (s :: r) = [cur] ++ grams mtu (s ++ [10]) r := by rw [grams_cons, if_pos hfit]; rfl
          obtain ⟨w', hw⟩ := new (cl ++ [cur]) (by simp; omega) (by simp [hcur]) (by simp [hcur]) (by simp only [hcur, if_false]; exact hg)
          refine ⟨w', ?_⟩
          show F.ref20_Lines.L15.step n (F.ref20_Lines.L15 n k4 m) k4 l mtu _ _ vb _ = _
          unfold F.ref20_Lines.L15.step
          rw [bif_pos (by omega)]
          simp only [e0, hlen]
          have g0 : (cl ++ [cur] ++ [[]]).length = cl.length + 1 + 1 := by simp
          have g1 : IntKind.wrap .i64 (((cl.length + 1 + 1 : Nat) : Int) - 1) = ((cl.length + 1 : Nat) : Int) := by rw [wrap_in (by omega)]; omega
          have g2 : (decide ((cl.length + 1 + 1) * 16 ≤ 2 ^ 46) && decide (0 < 16 ∧ 16 ≤ 2 ^ 20)) = true := by simp; omega
          have g4 : (decide ((0 : Int) ≤ ((cl.length + 1 : Nat) : Int)) && decide (((cl.length + 1 : Nat) : Int) < ((cl.length + 1 + 1 : Nat) : Int))) = true := by simp; omega
          have g5 : idx (cl ++ [cur] ++ [[]]) ((cl.length + 1 : Nat) : Int) = some [] := by
            have := idx_last (cl ++ [cur]) ([] : List UInt8)
            rw [hlen] at this
            exact this
          have g6 : upd (cl ++ [cur] ++ [[]]) (Int.toNat ((cl.length + 1 : Nat) : Int)) (s ++ [10]) = cl ++ [cur] ++ [s ++ [10]] := by
            have := upd_last (cl ++ [cur]) ([] : List UInt8) (s ++ [10])
            rw [hlen] at this
            rw [Int.toNat_natCast]
            exact this
          have g7 : (decide (0 + s.length ≤ strMax)) = true := by rw [strMax_eq]; simp; omega
          have g8 : (decide (s.length + 1 ≤ strMax)) = true := by rw [strMax_eq]; simp; omega
          simp only [e3, e1, e4, hb, e5, e8, cond_true, cond_false, some_bind', idx_nat, h2]
          rw [bif_pos hfit]
          simp only [g0, g1, g2, g4, hb1, cond_true]
          rw [g5]
          simp only [some_bind', List.length_nil, List.nil_append, g7, g8, cond_true]
          rw [g6, wrap_succ (by omega)]
          rw [g0] at hw
          exact hw
        · have hg : grams mtu cur (s :: r) = grams mtu (cur ++ s ++ [10]) r := by rw [grams_cons, if_neg hfit]
          have hne : cur ++ s ++ [10] ≠ [] := by simp
          obtain ⟨w', hw⟩ := ih (k + 1) m w cl (cur ++ s ++ [10]) h3 hmr (by omega) (by omega) (fun _ => by omega) (fun e => absurd e hne) (by simp; omega)
          refine ⟨w', ?_⟩
          have e1' : sofar cl (cur ++ s ++ [10]) = cl ++ [cur ++ s ++ [10]] := by unfold sofar; rw [if_neg hne]
          rw [e1', ← hg] at hw
          show F.ref20_Lines.L15.step n (F.ref20_Lines.L15 n k4 m) k4 l mtu _ _ vb _ = _
          unfold F.ref20_Lines.L15.step
          rw [bif_pos (by omega)]
          simp only [e0, hlen]
          have g6 : upd (cl ++ [cur]) (Int.toNat (cl.length : Int)) (cur ++ s ++ [10]) = cl ++ [cur ++ s ++ [10]] := by rw [Int.toNat_natCast]; exact upd_last _ _ _
          have g7 : (decide (cur.length + s.length ≤ strMax)) = true := by rw [strMax_eq]; simp; omega
          have g8 : (decide (((cur ++ s).length) + 1 ≤ strMax)) = true := by rw [strMax_eq]; simp; omega
          simp only [e3, e1, e4, hb, e5, e8, cond_true, cond_false, some_bind', idx_nat, h2]
          rw [bif_neg hfit]
          simp only [g7, g8, cond_true]
          rw [g6, wrap_succ (by omega)]
          have g9 : (cl ++ [cur ++ s ++ [10]]).length = cl.length + 1 := by simp
          rw [g9] at hw
          exact hw
theorem refLines_eq (n : Nat) (hn : 101 ≤ n) (l : List (List UInt8)) (mtu : Int) (hf : few20 l = true) : F.ref20_Lines n l mtu = some (linesOf l mtu) := by
  have hf' := hf
  simp only [few20, Bool.and_eq_true, decide_eq_true_eq, List.all_eq_true, small100] at hf'
  obtain ⟨hl, hs⟩ := hf'
  unfold F.ref20_Lines linesOf
  rw [mtu_eq, some_bind']
  by_cases hm : 1 ≤ mtu ∧ mtu ≤ 65536
  · rw [if_neg (by omega)]
    simp only [hm, decide_true, Bool.not_true, cond_false, and_self]
    refine (check_loop n (by omega) _ _ _ l mtu hf (1, []) l 0 n rfl (by omega)).trans ?_
    cases hb : bad mtu 0 l with
    | some je => rfl
    | none =>
      have hnone := bad_none hb
      obtain ⟨w', hw⟩ := main_loop n _ (fun e20_9 e20_b0_0 e20_b1_0 =>
              bif Nat.beq e20_9.1 e20_b1_0.1 then
                some ((e20_b1_0.2, (0 : Int), (0 : Int), ()))
              else
                none) l mtu hl (fun s hs' => ⟨hs s hs', (hnone s hs').2⟩) (by omega) (1, []) l 0 n 1 [] [] rfl (by omega) (by omega) (by simp) (fun h => absurd rfl h) (fun _ => rfl) (by simp)
      refine Eq.trans hw ?_
      simp only [List.nil_append]
      rw [show Nat.beq w' w' = true from Nat.beq_refl w']
      rfl
  · rw [if_pos (by omega)]
    simp [hm]
theorem linesOf_length (l : List (List UInt8)) (mtu : Int) : (linesOf l mtu).1.length ≤ l.length + 1 := by
  unfold linesOf
  split
  · simp
  · split
    · simp
    · exact grams_length l []
theorem splitLines_eq (n : Nat) (hn : 101 ≤ n) (l : List (List UInt8)) (mtu : Int) : F.law20_SplitLines n l mtu = some true := by
  unfold F.law20_SplitLines
  rw [few_eq n (by omega), some_bind', awake_eq n (by omega)]
  cases hf : few20 l with
  | false => rfl
  | true =>
    rw [lines_eq n (by omega) l mtu hf, refLines_eq n hn l mtu hf]
    have hf' := hf
    simp only [few20, Bool.and_eq_true, decide_eq_true_eq] at hf'
    have := linesOf_length l mtu
    simp only [Bool.not_true, cond_false, some_bind']
    rw [same_eq n _ _ (by omega) (by omega)]
    simp
end Go.AM
namespace Go.Proofs.Ytpnaofiiekopcaa.splitLines
open Go.ChangeShapes Go.WideShapes Go.ChangeAt Go.RowKit Go.AM
theorem own : ownKnob Try.prog.godebug = none := by kernel_rfl
theorem goes : LawGoes Try.prog SI 3 [(.sl .str), (.int .i64)] := fun x hx w vals hI hr =>
  ok3 _ (x.1, x.2.1, ()) true (splitLines_eq 101 (by omega) x.1 x.2.1) w (AllD w) vals (WOf.of hI) hr (fun b o h => h)
set_option maxRecDepth 100000 in
theorem lifted (os : Os) (started : os.Started) (H : Type) (enc : TypeId × Value → H) :
    ReturnsInHanded {} Try.checked os 3 .any (Rows.splitLinesSpec.pre6 enc Try.prog Try.f3 Rows.splitLinesRow.domain false) (Rows.splitLinesSpec.post enc Try.prog Try.f3 false true false false) := by
  refine returnsInHanded_of_change_sized (C := Try.checked) own started (by kernel_rfl) Try.func3
    (ChangeSpec.witness6 (enc := enc) (C := Try.checked) false ⟨#[], #[.slice none 0 0, .int .i64 0], []⟩ 8 (by kernel_rfl) (by kernel_rfl) (by kernel_rfl) (by kernel_rfl)) ?_
  intro W base args ds gs before hval hW _ hw _
  exact law_calls (n := 8) (by kernel_rfl) Try.func3 (by kernel_rfl) (by decide) (by kernel_rfl) rfl Try.underlying4 rfl (fun ds h => by match ds, h with | [_, _], _ => rfl) goes hval hW hw trivial
theorem proved : Rows.SplitLinesSaid :=
  OpenClaim.holds_of_wide 3 Try.f3 rfl rfl rfl rfl rfl rfl rfl ⟨rfl, rfl, rfl, rfl, rfl⟩ rfl rfl rfl rfl rfl (by kernel_rfl) Try.func3 (by kernel_rfl)
    (of_decide_eq_true (by kernel_rfl)) (by unfold Func.isWrapper; first | (rw [if_pos (by decide +kernel)]; kernel_rfl) | (rw [if_neg (by decide +kernel)]; exact ⟨rfl, rfl⟩))
    (fun os started H enc _ => lifted os started H enc)
end Go.Proofs.Ytpnaofiiekopcaa.splitLines
