/- Part 3 of a proof by the abstract machine. -/
import Derived.Test.YtckofkijjcbcoaaDoorQ2
import Derived.Shelf.Strings.Builder1
import Derived.Shelf.Strings.Builder2
import Derived.Shelf.Strings.Trim
import Derived.Shelf.Small.Utf8
import Derived.Shelf.Small.Strs
import Derived.Shelf.Small.Wraps
import Derived.Shelf.Strings.BuilderF
import Derived.Shelf.Strconv.Itoa0
import Derived.Shelf.Strconv.Itoa1
import Derived.Shelf.LaysM
import Derived.Shelf.Strconv.Itoa2
import Derived.Shelf.Strings.Search1
import Derived.Shelf.Strings.Search2
import Derived.Shelf.Strings.Cut
import Derived.Shelf.Strings.Shaped
import Derived.Shelf.Strings.Prefix
import Derived.Shelf.Unicode.Decode
import Derived.Shelf.Strings.Runes
import Derived.Shelf.Strings.AsciiSet
import Derived.Shelf.Bits.Mul64
import Derived.Shelf.Strings.Repeat
import Derived.Shelf.Unicode.DecodeSlow
import Derived.Shelf.Unicode.DecodeAny
import Derived.Shelf.Unicode.DecodeLast
import Derived.Test.YtckofkijjcbcoaaDoorProg
import Derived.Shelf.Strconv.Itoa3
import Derived.Lib.AppendIntMem
import Derived.Lib.ItoaMem
import Derived.Lib.Walk
import Derived.WalkKit
import Derived.BigCall
import Derived.BigGuard
import Derived.KernelRfl
import Derived.Test.YtckofkijjcbcoaaDoorRows
import Derived.Shelf.Spec.BitsCarry
import Derived.Lib.ItoaNum
import Derived.Lib.ItoaLen
import Derived.Lib.AtoiAll
import Derived.Lib.TrimByte
set_option linter.unusedVariables false
namespace Go.AM
noncomputable def F.dec_times (n : Nat) (a0 : Int) (a1 : Int) : Option ((Int) × (Bool) × Unit) :=
  (O.mul64 n a0 (10 : Int)).bind fun y1 =>
    (O.add64 n y1.2.1 a1 (0 : Int)).bind fun y2 =>
      bif y1.1 == (0 : Int) then
        some ((y2.1, y2.2.1 == (0 : Int), ()))
      else
        some ((y2.1, false, ()))
noncomputable def F.dec_Normal.L3.step {X : Type} (n : Nat) (rec : Bool → Int → Int → Bool → Int → Int → Option X) (k0 : Bool → Int → Int → Bool → Int → Int → Option X) (vb0_0 : Bool) (vb0_1 : Int) (vb0_2 : Int) (vb1_0 : Bool) (vb1_1 : Int) (vb1_2 : Int) : Option X :=
  bif (vb0_1.tmod (10 : Int)) == (0 : Int) then
    bif decide (vb0_2 < (18 : Int)) then
      rec vb0_0 (IntKind.wrap .u64 (vb0_1.tdiv (10 : Int))) (IntKind.wrap .i64 (vb0_2 + (1 : Int))) vb1_0 vb1_1 vb1_2
    else
      k0 vb0_0 vb0_1 vb0_2 vb1_0 vb1_1 vb1_2
  else
    k0 vb0_0 vb0_1 vb0_2 vb1_0 vb1_1 vb1_2
noncomputable def F.dec_Normal.L3 {X : Type} (n : Nat) (k0 : Bool → Int → Int → Bool → Int → Int → Option X) : Nat → Bool → Int → Int → Bool → Int → Int → Option X
  | 0 => fun _ _ _ _ _ _ => none
  | m + 1 => fun vb0_0 vb0_1 vb0_2 vb1_0 vb1_1 vb1_2 => F.dec_Normal.L3.step n (F.dec_Normal.L3 n k0 m) k0 vb0_0 vb0_1 vb0_2 vb1_0 vb1_1 vb1_2
noncomputable def F.dec_Normal.L5.step {X : Type} (n : Nat) (rec : Bool → Int → Int → Bool → Int → Int → Option X) (k2 : Bool → Int → Int → Bool → Int → Int → Option X) (kr : Int → Bool → Int → Int → Bool → Int → Int → Option X) (vb0_0 : Bool) (vb0_1 : Int) (vb0_2 : Int) (vb1_0 : Bool) (vb1_1 : Int) (vb1_2 : Int) : Option X :=
  bif decide (vb0_2 > (18 : Int)) then
    (F.dec_times n vb0_1 (0 : Int)).bind fun y2 =>
      bif !y2.2.1 then
        kr (10 : Int) vb0_0 vb0_1 vb0_2 false (0 : Int) (0 : Int)
      else
        rec vb0_0 y2.1 (IntKind.wrap .i64 (vb0_2 - (1 : Int))) vb1_0 vb1_1 vb1_2
  else
    k2 vb0_0 vb0_1 vb0_2 vb1_0 vb1_1 vb1_2
noncomputable def F.dec_Normal.L5 {X : Type} (n : Nat) (k2 : Bool → Int → Int → Bool → Int → Int → Option X) (kr : Int → Bool → Int → Int → Bool → Int → Int → Option X) : Nat → Bool → Int → Int → Bool → Int → Int → Option X
  | 0 => fun _ _ _ _ _ _ => none
  | m + 1 => fun vb0_0 vb0_1 vb0_2 vb1_0 vb1_1 vb1_2 => F.dec_Normal.L5.step n (F.dec_Normal.L5 n k2 kr m) k2 kr vb0_0 vb0_1 vb0_2 vb1_0 vb1_1 vb1_2
noncomputable def F.dec_Normal (n : Nat) (a0 : (Bool) × (Int) × (Int) × Unit) : Option (((Bool) × (Int) × (Int) × Unit) × (Int) × Unit) :=
  bif a0.2.1 == (0 : Int) then
    some (((false, (0 : Int), (0 : Int), ()), (0 : Int), ()))
  else
    F.dec_Normal.L3 n
      (fun e1_b0_0 e1_b0_1 e1_b0_2 e1_b1_0 e1_b1_1 e1_b1_2 =>
        F.dec_Normal.L5 n
          (fun e3_b0_0 e3_b0_1 e3_b0_2 e3_b1_0 e3_b1_1 e3_b1_2 =>
            bif decide (e3_b0_2 < (-18 : Int)) then
              some (((false, (0 : Int), (0 : Int), ()), (10 : Int), ()))
            else
              some (((e3_b0_0, e3_b0_1, e3_b0_2, ()), (0 : Int), ())))
          (fun e4_3 e4_b0_0 e4_b0_1 e4_b0_2 e4_b1_0 e4_b1_1 e4_b1_2 =>
            some (((e4_b1_0, e4_b1_1, e4_b1_2, ()), e4_3, ()))) n e1_b0_0 e1_b0_1 e1_b0_2 e1_b1_0 e1_b1_1 e1_b1_2) n a0.1 a0.2.1 a0.2.2.1 false (0 : Int) (0 : Int)
noncomputable def F.ref03_Digits.go (n : Nat) : Nat → (Int) → Option (List UInt8)
  | 0 => fun _ => none
  | m + 1 => fun a0 =>
    bif decide (a0 < (10 : Int)) then
      (sub ([48, 49, 50, 51, 52, 53, 54, 55, 56, 57]) a0 (IntKind.wrap .u64 (a0 + (1 : Int)))).bind fun x1 =>
        some (x1)
    else
      (F.ref03_Digits.go n m (IntKind.wrap .u64 (a0.tdiv (10 : Int)))).bind fun y2 =>
        (sub ([48, 49, 50, 51, 52, 53, 54, 55, 56, 57]) (a0.tmod (10 : Int)) (IntKind.wrap .u64 ((a0.tmod (10 : Int)) + (1 : Int)))).bind fun x3 =>
          bif decide (y2.length + x3.length ≤ strMax) then
            some (y2 ++ x3)
          else
            none
noncomputable def F.ref03_Digits (n : Nat) (a0 : Int) : Option (List UInt8) := F.ref03_Digits.go n n a0
noncomputable def F.ref03_Fits (n : Nat) (a0 : List UInt8) : Option (Bool) :=
  bif decide ((a0.length : Int) < (20 : Int)) then
    some (true)
  else
  bif (a0.length : Int) == (20 : Int) then
    some (Op.bytesLess a0 ([49, 56, 52, 52, 54, 55, 52, 52, 48, 55, 51, 55, 48, 57, 53, 53, 49, 54, 49, 53]) || a0 == ([49, 56, 52, 52, 54, 55, 52, 52, 48, 55, 51, 55, 48, 57, 53, 53, 49, 54, 49, 53]))
  else
    some (false)
noncomputable def F.ref03_Value.L3.step {X : Type} (n : Nat) (rec : (List UInt8) → Int → Int → Option X) (k0 : Int → Option X) (v0 : List UInt8) (v3 : Int) (v4 : Int) : Option X :=
  bif decide (v4 < (v0.length : Int)) then
    (idx v0 v4).bind fun x1 =>
      rec v0 (IntKind.wrap .u64 ((IntKind.wrap .u64 ((10 : Int) * v3)) + (IntKind.wrap .u64 (IntKind.wrap .u8 (((x1).toNat) - (48 : Int)))))) (IntKind.wrap .i64 (v4 + (1 : Int)))
  else
    k0 v3
noncomputable def F.ref03_Value.L3 {X : Type} (n : Nat) (k0 : Int → Option X) : Nat → (List UInt8) → Int → Int → Option X
  | 0 => fun _ _ _ => none
  | m + 1 => fun v0 v3 v4 => F.ref03_Value.L3.step n (F.ref03_Value.L3 n k0 m) k0 v0 v3 v4
noncomputable def F.ref03_Value (n : Nat) (a0 : List UInt8) : Option (Int) :=
  F.ref03_Value.L3 n
    (fun e2_3 =>
      some (e2_3)) n a0 (0 : Int) (0 : Int)
noncomputable def F.ref03_Make.L1.step {X : Type} (n : Nat) (rec : Bool → (List UInt8) → Int → Bool → Int → Int → Option X) (k0 : Bool → (List UInt8) → Int → Bool → Int → Int → Option X) (v0 : Bool) (v1 : List UInt8) (v2 : Int) (vb0_0 : Bool) (vb0_1 : Int) (vb0_2 : Int) : Option X :=
  bif decide ((v1.length : Int) > (0 : Int)) then
    (idx v1 (0 : Int)).bind fun x1 =>
      bif ((x1).toNat) == (48 : Int) then
        (sub v1 (1 : Int) (v1.length : Int)).bind fun x2 =>
          rec v0 x2 v2 vb0_0 vb0_1 vb0_2
      else
        k0 v0 v1 v2 vb0_0 vb0_1 vb0_2
  else
    k0 v0 v1 v2 vb0_0 vb0_1 vb0_2
noncomputable def F.ref03_Make.L1 {X : Type} (n : Nat) (k0 : Bool → (List UInt8) → Int → Bool → Int → Int → Option X) : Nat → Bool → (List UInt8) → Int → Bool → Int → Int → Option X
  | 0 => fun _ _ _ _ _ _ => none
  | m + 1 => fun v0 v1 v2 vb0_0 vb0_1 vb0_2 => F.ref03_Make.L1.step n (F.ref03_Make.L1 n k0 m) k0 v0 v1 v2 vb0_0 vb0_1 vb0_2
noncomputable def F.ref03_Make.L7.step {X : Type} (n : Nat) (rec : Bool → (List UInt8) → Int → Bool → Int → Int → Option X) (k2 : Bool → (List UInt8) → Int → Bool → Int → Int → Option X) (v0 : Bool) (v1 : List UInt8) (v2 : Int) (vb0_0 : Bool) (vb0_1 : Int) (vb0_2 : Int) : Option X :=
  bif decide (v2 < (18 : Int)) then
    (idx v1 (IntKind.wrap .i64 ((v1.length : Int) - (1 : Int)))).bind fun x4 =>
      bif ((x4).toNat) == (48 : Int) then
        (sub v1 (0 : Int) (IntKind.wrap .i64 ((v1.length : Int) - (1 : Int)))).bind fun x5 =>
          rec v0 x5 (IntKind.wrap .i64 (v2 + (1 : Int))) vb0_0 vb0_1 vb0_2
      else
        k2 v0 v1 v2 vb0_0 vb0_1 vb0_2
  else
    k2 v0 v1 v2 vb0_0 vb0_1 vb0_2
noncomputable def F.ref03_Make.L7 {X : Type} (n : Nat) (k2 : Bool → (List UInt8) → Int → Bool → Int → Int → Option X) : Nat → Bool → (List UInt8) → Int → Bool → Int → Int → Option X
  | 0 => fun _ _ _ _ _ _ => none
  | m + 1 => fun v0 v1 v2 vb0_0 vb0_1 vb0_2 => F.ref03_Make.L7.step n (F.ref03_Make.L7 n k2 m) k2 v0 v1 v2 vb0_0 vb0_1 vb0_2
noncomputable def F.ref03_Make.L10.step {X : Type} (n : Nat) (rec : Bool → (List UInt8) → Int → Bool → Int → Int → Option X) (k4 : Bool → (List UInt8) → Int → Bool → Int → Int → Option X) (v0 : Bool) (v1 : List UInt8) (v2 : Int) (vb0_0 : Bool) (vb0_1 : Int) (vb0_2 : Int) : Option X :=
  bif decide (v2 > (18 : Int)) then
    bif decide (v1.length + 1 ≤ strMax) then
      rec v0 (v1 ++ ([48])) (IntKind.wrap .i64 (v2 - (1 : Int))) vb0_0 vb0_1 vb0_2
    else
      none
  else
    k4 v0 v1 v2 vb0_0 vb0_1 vb0_2
noncomputable def F.ref03_Make.L10 {X : Type} (n : Nat) (k4 : Bool → (List UInt8) → Int → Bool → Int → Int → Option X) : Nat → Bool → (List UInt8) → Int → Bool → Int → Int → Option X
  | 0 => fun _ _ _ _ _ _ => none
  | m + 1 => fun v0 v1 v2 vb0_0 vb0_1 vb0_2 => F.ref03_Make.L10.step n (F.ref03_Make.L10 n k4 m) k4 v0 v1 v2 vb0_0 vb0_1 vb0_2
noncomputable def F.ref03_Make (n : Nat) (a0 : Bool) (a1 : List UInt8) (a2 : Int) : Option (((Bool) × (Int) × (Int) × Unit) × (Bool) × Unit) :=
  F.ref03_Make.L1 n
    (fun e3_0 e3_1 e3_2 e3_b0_0 e3_b0_1 e3_b0_2 =>
      bif e3_1 == [] then
        some (((false, (0 : Int), (0 : Int), ()), true, ()))
      else
      bif decide (e3_2 > (1000 : Int)) then
        some (((false, (0 : Int), (0 : Int), ()), false, ()))
      else
      bif decide (e3_2 < (-1000000 : Int)) then
        some (((false, (0 : Int), (0 : Int), ()), false, ()))
      else
        F.ref03_Make.L7 n
          (fun e6_0 e6_1 e6_2 e6_b0_0 e6_b0_1 e6_b0_2 =>
            F.ref03_Make.L10 n
              (fun e7_0 e7_1 e7_2 e7_b0_0 e7_b0_1 e7_b0_2 =>
                bif decide (e7_2 < (-18 : Int)) then
                  some (((false, (0 : Int), (0 : Int), ()), false, ()))
                else
                  (F.ref03_Fits n e7_1).bind fun y8 =>
                    bif !y8 then
                      some (((false, (0 : Int), (0 : Int), ()), false, ()))
                    else
                      (F.ref03_Value n e7_1).bind fun y9 =>
                        some (((e7_0, y9, e7_2, ()), true, ()))) n e6_0 e6_1 e6_2 e6_b0_0 e6_b0_1 e6_b0_2) n e3_0 e3_1 e3_2 e3_b0_0 e3_b0_1 e3_b0_2) n a0 a1 a2 false (0 : Int) (0 : Int)
noncomputable def F.ref03_Normal (n : Nat) (a0 : (Bool) × (Int) × (Int) × Unit) : Option (((Bool) × (Int) × (Int) × Unit) × (Int) × Unit) :=
  (F.ref03_Digits n a0.2.1).bind fun y1 =>
    (F.ref03_Make n a0.1 y1 a0.2.2.1).bind fun y2 =>
      bif !y2.2.1 then
        some (((false, (0 : Int), (0 : Int), ()), (10 : Int), ()))
      else
        some (((y2.1.1, y2.1.2.1, y2.1.2.2.1, ()), (0 : Int), ()))
noncomputable def F.dec_Check (n : Nat) (a0 : (Bool) × (Int) × (Int) × Unit) : Option (Int) :=
  bif !(a0.2.1 == (0 : Int)) then
    bif decide (a0.2.2.1 < (-18 : Int)) then
      some ((10 : Int))
    else
    bif decide (a0.2.2.1 > (18 : Int)) then
      some ((10 : Int))
    else
      (F.dec_Normal n (a0.1, a0.2.1, a0.2.2.1, ())).bind fun y1 =>
        bif !(y1.2.1 == (0 : Int)) then
          some ((21 : Int))
        else
        bif !((y1.1.1 == a0.1) && ((y1.1.2.1 == a0.2.1) && (y1.1.2.2.1 == a0.2.2.1))) then
          some ((21 : Int))
        else
          some ((0 : Int))
  else
    (F.dec_Normal n (a0.1, a0.2.1, a0.2.2.1, ())).bind fun y2 =>
      bif !(y2.2.1 == (0 : Int)) then
        some ((21 : Int))
      else
      bif !((y2.1.1 == a0.1) && ((y2.1.2.1 == a0.2.1) && (y2.1.2.2.1 == a0.2.2.1))) then
        some ((21 : Int))
      else
        some ((0 : Int))
noncomputable def F.ref03_Check (n : Nat) (a0 : (Bool) × (Int) × (Int) × Unit) : Option (Int) :=
  bif !(a0.2.1 == (0 : Int)) then
    bif decide (a0.2.2.1 < (-18 : Int)) then
      some ((10 : Int))
    else
    bif decide (a0.2.2.1 > (18 : Int)) then
      some ((10 : Int))
    else
      (F.ref03_Digits n a0.2.1).bind fun y1 =>
        (F.ref03_Make n a0.1 y1 a0.2.2.1).bind fun y2 =>
          bif !y2.2.1 then
            some ((21 : Int))
          else
          bif !((y2.1.1 == a0.1) && ((y2.1.2.1 == a0.2.1) && (y2.1.2.2.1 == a0.2.2.1))) then
            some ((21 : Int))
          else
            some ((0 : Int))
  else
    (F.ref03_Digits n a0.2.1).bind fun y3 =>
      (F.ref03_Make n a0.1 y3 a0.2.2.1).bind fun y4 =>
        bif !y4.2.1 then
          some ((21 : Int))
        else
        bif !((y4.1.1 == a0.1) && ((y4.1.2.1 == a0.2.1) && (y4.1.2.2.1 == a0.2.2.1))) then
          some ((21 : Int))
        else
          some ((0 : Int))
noncomputable def F.stringslite_HasPrefix (n : Nat) (a0 : List UInt8) (a1 : List UInt8) : Option (Bool) :=
  bif decide ((a0.length : Int) ≥ (a1.length : Int)) then
    (sub a0 (0 : Int) (a1.length : Int)).bind fun x1 =>
      some (x1 == a1)
  else
    some (false)
noncomputable def F.strings_HasPrefix (n : Nat) (a0 : List UInt8) (a1 : List UInt8) : Option (Bool) :=
  (F.stringslite_HasPrefix n a0 a1).bind fun y1 =>
    some (y1)
noncomputable def F.dec_look.L2_dec_look_1.step {X : Type} (n : Nat) (rec : Int → (List UInt8) → Int → Int → Int → Option X) (k0 : Int → (List UInt8) → Int → Int → Int → Option X) (v3 : Int) (vb0_0 : List UInt8) (vb1_0 : Int) (vb1_1 : Int) (vb2_0 : Int) : Option X :=
  bif decide (vb2_0 < (vb0_0.length : Int)) then
    (idx vb0_0 vb2_0).bind fun x2 =>
      bif decide (((x2).toNat) ≥ (48 : Int)) then
        (idx vb0_0 vb2_0).bind fun x3 =>
          bif decide (((x3).toNat) ≤ (57 : Int)) then
            rec v3 vb0_0 vb1_0 vb1_1 (IntKind.wrap .i64 (vb2_0 + (1 : Int)))
          else
            k0 v3 vb0_0 vb1_0 vb1_1 vb2_0
      else
        k0 v3 vb0_0 vb1_0 vb1_1 vb2_0
  else
    k0 v3 vb0_0 vb1_0 vb1_1 vb2_0
noncomputable def F.dec_look.L2_dec_look_1 {X : Type} (n : Nat) (k0 : Int → (List UInt8) → Int → Int → Int → Option X) : Nat → Int → (List UInt8) → Int → Int → Int → Option X
  | 0 => fun _ _ _ _ _ => none
  | m + 1 => fun v3 vb0_0 vb1_0 vb1_1 vb2_0 => F.dec_look.L2_dec_look_1.step n (F.dec_look.L2_dec_look_1 n k0 m) k0 v3 vb0_0 vb1_0 vb1_1 vb2_0
noncomputable def F.dec_look (n : Nat) (a0 : List UInt8) : Option ((Int) × (Int) × Unit) :=
  (F.strings_HasPrefix n a0 ([45])).bind fun y1 =>
    bif y1 then
      F.dec_look.L2_dec_look_1 n
        (fun e4_3 e4_b0_0 e4_b1_0 e4_b1_1 e4_b2_0 =>
          bif decide (e4_b2_0 > e4_3) then
            (sub e4_b0_0 e4_b2_0 (e4_b0_0.length : Int)).bind fun x5 =>
              (F.strings_HasPrefix n x5 ([46])).bind fun y6 =>
                bif y6 then
                  F.dec_look.L2_dec_look_1 n
                    (fun e7_3 e7_b0_0 e7_b1_0 e7_b1_1 e7_b2_0 =>
                      bif decide (e7_b2_0 > e7_3) then
                        bif e7_b2_0 == (e7_b0_0.length : Int) then
                          some (((0 : Int), (0 : Int), ()))
                        else
                        bif e7_b2_0 == (e7_b0_0.length : Int) then
                          some (((11 : Int), e7_b2_0, ()))
                        else
                          some (((14 : Int), e7_b2_0, ()))
                      else
                      bif e7_b2_0 == (e7_b0_0.length : Int) then
                        some (((11 : Int), e7_b2_0, ()))
                      else
                        some (((14 : Int), e7_b2_0, ()))) n (IntKind.wrap .i64 (e4_b2_0 + (1 : Int))) e4_b0_0 e4_b1_0 e4_b1_1 (IntKind.wrap .i64 (e4_b2_0 + (1 : Int)))
                else
                bif decide (e4_b2_0 > e4_3) then
                  bif e4_b2_0 == (e4_b0_0.length : Int) then
                    some (((0 : Int), (0 : Int), ()))
                  else
                  bif e4_b2_0 == (e4_b0_0.length : Int) then
                    some (((11 : Int), e4_b2_0, ()))
                  else
                    some (((14 : Int), e4_b2_0, ()))
                else
                bif e4_b2_0 == (e4_b0_0.length : Int) then
                  some (((11 : Int), e4_b2_0, ()))
                else
                  some (((14 : Int), e4_b2_0, ()))
          else
          bif decide (e4_b2_0 > e4_3) then
            bif e4_b2_0 == (e4_b0_0.length : Int) then
              some (((0 : Int), (0 : Int), ()))
            else
            bif e4_b2_0 == (e4_b0_0.length : Int) then
              some (((11 : Int), e4_b2_0, ()))
            else
              some (((14 : Int), e4_b2_0, ()))
          else
          bif e4_b2_0 == (e4_b0_0.length : Int) then
            some (((11 : Int), e4_b2_0, ()))
          else
            some (((14 : Int), e4_b2_0, ()))) n (1 : Int) a0 (0 : Int) (0 : Int) (1 : Int)
    else
      F.dec_look.L2_dec_look_1 n
        (fun e8_3 e8_b0_0 e8_b1_0 e8_b1_1 e8_b2_0 =>
          bif decide (e8_b2_0 > e8_3) then
            (sub e8_b0_0 e8_b2_0 (e8_b0_0.length : Int)).bind fun x9 =>
              (F.strings_HasPrefix n x9 ([46])).bind fun y10 =>
                bif y10 then
                  F.dec_look.L2_dec_look_1 n
                    (fun e11_3 e11_b0_0 e11_b1_0 e11_b1_1 e11_b2_0 =>
                      bif decide (e11_b2_0 > e11_3) then
                        bif e11_b2_0 == (e11_b0_0.length : Int) then
                          some (((0 : Int), (0 : Int), ()))
                        else
                        bif e11_b2_0 == (e11_b0_0.length : Int) then
                          some (((11 : Int), e11_b2_0, ()))
                        else
                          some (((14 : Int), e11_b2_0, ()))
                      else
                      bif e11_b2_0 == (e11_b0_0.length : Int) then
                        some (((11 : Int), e11_b2_0, ()))
                      else
                        some (((14 : Int), e11_b2_0, ()))) n (IntKind.wrap .i64 (e8_b2_0 + (1 : Int))) e8_b0_0 e8_b1_0 e8_b1_1 (IntKind.wrap .i64 (e8_b2_0 + (1 : Int)))
                else
                bif decide (e8_b2_0 > e8_3) then
                  bif e8_b2_0 == (e8_b0_0.length : Int) then
                    some (((0 : Int), (0 : Int), ()))
                  else
                  bif e8_b2_0 == (e8_b0_0.length : Int) then
                    some (((11 : Int), e8_b2_0, ()))
                  else
                    some (((14 : Int), e8_b2_0, ()))
                else
                bif e8_b2_0 == (e8_b0_0.length : Int) then
                  some (((11 : Int), e8_b2_0, ()))
                else
                  some (((14 : Int), e8_b2_0, ()))
          else
          bif decide (e8_b2_0 > e8_3) then
            bif e8_b2_0 == (e8_b0_0.length : Int) then
              some (((0 : Int), (0 : Int), ()))
            else
            bif e8_b2_0 == (e8_b0_0.length : Int) then
              some (((11 : Int), e8_b2_0, ()))
            else
              some (((14 : Int), e8_b2_0, ()))
          else
          bif e8_b2_0 == (e8_b0_0.length : Int) then
            some (((11 : Int), e8_b2_0, ()))
          else
            some (((14 : Int), e8_b2_0, ()))) n (0 : Int) a0 (0 : Int) (0 : Int) (0 : Int)
noncomputable def F.stringslite_CutPrefix (n : Nat) (a0 : List UInt8) (a1 : List UInt8) : Option ((List UInt8) × (Bool) × Unit) :=
  (F.stringslite_HasPrefix n a0 a1).bind fun y1 =>
    bif !y1 then
      some ((a0, false, ()))
    else
      (sub a0 (a1.length : Int) (a0.length : Int)).bind fun x2 =>
        some ((x2, true, ()))
noncomputable def F.strings_CutPrefix (n : Nat) (a0 : List UInt8) (a1 : List UInt8) : Option ((List UInt8) × (Bool) × Unit) :=
  (F.stringslite_CutPrefix n a0 a1).bind fun y1 =>
    some ((y1.1, y1.2.1, ()))
noncomputable def F.stringslite_Cut (n : Nat) (a0 : List UInt8) (a1 : List UInt8) : Option ((List UInt8) × (List UInt8) × (Bool) × Unit) :=
  (O.index1 n a0 a1).bind fun y1 =>
    bif decide (y1 ≥ (0 : Int)) then
      (sub a0 (0 : Int) y1).bind fun x2 =>
        (sub a0 (IntKind.wrap .i64 (y1 + (a1.length : Int))) (a0.length : Int)).bind fun x3 =>
          some ((x2, x3, true, ()))
    else
      some ((a0, [], false, ()))
noncomputable def F.strings_Cut (n : Nat) (a0 : List UInt8) (a1 : List UInt8) : Option ((List UInt8) × (List UInt8) × (Bool) × Unit) :=
  (F.stringslite_Cut n a0 a1).bind fun y1 =>
    some ((y1.1, y1.2.1, y1.2.2.1, ()))
noncomputable def F.dec_Parse.L14.step {X : Type} (n : Nat) (rec : (List UInt8) → Int → Int → Bool → Int → Int → Int → Int → Int → Int → Bool → Int → Int → Option X) (k0 : Bool → Int → Int → Int → Int → Int → Int → Bool → Int → Int → Option X) (v10 : List UInt8) (v66 : Int) (v67 : Int) (vb0_0 : Bool) (vb0_1 : Int) (vb0_2 : Int) (vb1_0 : Int) (vb1_1 : Int) (vb2_0 : Int) (vb2_1 : Int) (vb3_0 : Bool) (vb3_1 : Int) (vb3_2 : Int) : Option X :=
  bif decide (v67 < v66) then
    (idx v10 v67).bind fun x7 =>
      (F.dec_times n vb3_1 (IntKind.wrap .u64 (IntKind.wrap .u8 (((x7).toNat) - (48 : Int))))).bind fun y8 =>
        bif !y8.2.1 then
          k0 vb0_0 vb0_1 vb0_2 vb1_0 vb1_1 vb2_0 vb2_1 vb3_0 (1 : Int) (-19 : Int)
        else
          rec v10 v66 (IntKind.wrap .i64 (v67 + (1 : Int))) vb0_0 vb0_1 vb0_2 vb1_0 vb1_1 vb2_0 vb2_1 vb3_0 y8.1 vb3_2
  else
    k0 vb0_0 vb0_1 vb0_2 vb1_0 vb1_1 vb2_0 vb2_1 vb3_0 vb3_1 vb3_2
noncomputable def F.dec_Parse.L14 {X : Type} (n : Nat) (k0 : Bool → Int → Int → Int → Int → Int → Int → Bool → Int → Int → Option X) : Nat → (List UInt8) → Int → Int → Bool → Int → Int → Int → Int → Int → Int → Bool → Int → Int → Option X
  | 0 => fun _ _ _ _ _ _ _ _ _ _ _ _ _ => none
  | m + 1 => fun v10 v66 v67 vb0_0 vb0_1 vb0_2 vb1_0 vb1_1 vb2_0 vb2_1 vb3_0 vb3_1 vb3_2 => F.dec_Parse.L14.step n (F.dec_Parse.L14 n k0 m) k0 v10 v66 v67 vb0_0 vb0_1 vb0_2 vb1_0 vb1_1 vb2_0 vb2_1 vb3_0 vb3_1 vb3_2
noncomputable def F.dec_Parse (n : Nat) (a0 : List UInt8) : Option (((Bool) × (Int) × (Int) × Unit) × ((Int) × (Int) × Unit) × Unit) :=
  (F.dec_look n a0).bind fun y1 =>
    bif !((y1.1 == (0 : Int)) && (y1.2.1 == (0 : Int))) then
      some (((false, (0 : Int), (0 : Int), ()), (y1.1, y1.2.1, ()), ()))
    else
      (F.strings_CutPrefix n a0 ([45])).bind fun y2 =>
        (F.strings_Cut n y2.1 ([46])).bind fun y3 =>
          (O.trimR n y3.2.1 ([48])).bind fun y4 =>
            bif decide (y3.1.length + y4.length ≤ strMax) then
              (O.trimL n (y3.1 ++ y4) ([48])).bind fun y5 =>
                (O.trimR n y5 ([48])).bind fun y6 =>
                  bif (IntKind.wrap .i64 (0 - (y4.length : Int))) == (0 : Int) then
                    bif decide ((y6.length : Int) < (y5.length : Int)) then
                      F.dec_Parse.L14 n
                        (fun e9_b0_0 e9_b0_1 e9_b0_2 e9_b1_0 e9_b1_1 e9_b2_0 e9_b2_1 e9_b3_0 e9_b3_1 e9_b3_2 =>
                          (F.dec_Normal n (e9_b3_0, e9_b3_1, e9_b3_2, ())).bind fun y10 =>
                            bif !(y10.2.1 == (0 : Int)) then
                              some (((false, (0 : Int), (0 : Int), ()), (y10.2.1, (0 : Int), ()), ()))
                            else
                              some (((y10.1.1, y10.1.2.1, y10.1.2.2.1, ()), ((0 : Int), (0 : Int), ()), ()))) n y6 (y6.length : Int) (0 : Int) false (0 : Int) (0 : Int) (0 : Int) (0 : Int) y1.1 y1.2.1 y2.2.1 (0 : Int) (IntKind.wrap .i64 ((y5.length : Int) - (y6.length : Int)))
                    else
                      F.dec_Parse.L14 n
                        (fun e11_b0_0 e11_b0_1 e11_b0_2 e11_b1_0 e11_b1_1 e11_b2_0 e11_b2_1 e11_b3_0 e11_b3_1 e11_b3_2 =>
                          (F.dec_Normal n (e11_b3_0, e11_b3_1, e11_b3_2, ())).bind fun y12 =>
                            bif !(y12.2.1 == (0 : Int)) then
                              some (((false, (0 : Int), (0 : Int), ()), (y12.2.1, (0 : Int), ()), ()))
                            else
                              some (((y12.1.1, y12.1.2.1, y12.1.2.2.1, ()), ((0 : Int), (0 : Int), ()), ()))) n y5 (y5.length : Int) (0 : Int) false (0 : Int) (0 : Int) (0 : Int) (0 : Int) y1.1 y1.2.1 y2.2.1 (0 : Int) (IntKind.wrap .i64 (0 - (y4.length : Int)))
                  else
                    F.dec_Parse.L14 n
                      (fun e13_b0_0 e13_b0_1 e13_b0_2 e13_b1_0 e13_b1_1 e13_b2_0 e13_b2_1 e13_b3_0 e13_b3_1 e13_b3_2 =>
                        (F.dec_Normal n (e13_b3_0, e13_b3_1, e13_b3_2, ())).bind fun y14 =>
                          bif !(y14.2.1 == (0 : Int)) then
                            some (((false, (0 : Int), (0 : Int), ()), (y14.2.1, (0 : Int), ()), ()))
                          else
                            some (((y14.1.1, y14.1.2.1, y14.1.2.2.1, ()), ((0 : Int), (0 : Int), ()), ()))) n y5 (y5.length : Int) (0 : Int) false (0 : Int) (0 : Int) (0 : Int) (0 : Int) y1.1 y1.2.1 y2.2.1 (0 : Int) (IntKind.wrap .i64 (0 - (y4.length : Int)))
            else
              none
noncomputable def F.dec_Text (n : Nat) (a0 : (Bool) × (Int) × (Int) × Unit) : Option ((List UInt8) × (Int) × Unit) :=
  (F.dec_Check n (a0.1, a0.2.1, a0.2.2.1, ())).bind fun y1 =>
    bif !(y1 == (0 : Int)) then
      some (([], y1, ()))
    else
      (O.futoa n a0.2.1 (10 : Int)).bind fun y2 =>
        bif decide (a0.2.2.1 ≥ (0 : Int)) then
          (O.repeat' n ([48]) a0.2.2.1).bind fun y3 =>
            bif decide (y2.length + y3.length ≤ strMax) then
              bif a0.1 then
                bif decide (1 + ((y2 ++ y3).length) ≤ strMax) then
                  some ((([45]) ++ (y2 ++ y3), (0 : Int), ()))
                else
                  none
              else
                some ((y2 ++ y3, (0 : Int), ()))
            else
              none
        else
          (O.repeat' n ([48]) (if (IntKind.wrap .i64 ((IntKind.wrap .i64 ((1 : Int) - a0.2.2.1)) - (y2.length : Int))) > (0 : Int) then (IntKind.wrap .i64 ((IntKind.wrap .i64 ((1 : Int) - a0.2.2.1)) - (y2.length : Int))) else (0 : Int))).bind fun y4 =>
            bif decide (y4.length + y2.length ≤ strMax) then
              (sub (y4 ++ y2) (0 : Int) (IntKind.wrap .i64 (((y4 ++ y2).length : Int) + a0.2.2.1))).bind fun x5 =>
                bif decide (x5.length + 1 ≤ strMax) then
                  (sub (y4 ++ y2) (IntKind.wrap .i64 (((y4 ++ y2).length : Int) + a0.2.2.1)) ((y4 ++ y2).length : Int)).bind fun x6 =>
                    bif decide (((x5 ++ ([46])).length) + x6.length ≤ strMax) then
                      bif a0.1 then
                        bif decide (1 + (((x5 ++ ([46])) ++ x6).length) ≤ strMax) then
                          some ((([45]) ++ ((x5 ++ ([46])) ++ x6), (0 : Int), ()))
                        else
                          none
                      else
                        some (((x5 ++ ([46])) ++ x6, (0 : Int), ()))
                    else
                      none
                else
                  none
            else
              none
noncomputable def F.law03_awake (n : Nat) : Option (Bool) :=
  (F.dec_Parse n ([45, 48, 49, 46, 53, 48])).bind fun y1 =>
    (F.dec_Text n (y1.1.1, y1.1.2.1, y1.1.2.2.1, ())).bind fun y2 =>
      (F.dec_Parse n ([49, 46])).bind fun y3 =>
        (F.dec_Parse n ([43, 49])).bind fun y4 =>
          (F.dec_Parse n ([49, 48, 48, 48])).bind fun y5 =>
            (F.dec_Parse n ([57, 57, 57, 57, 57, 57, 57, 57, 57, 57, 57, 57, 57, 57, 57, 57, 57, 57, 57, 57])).bind fun y6 =>
              bif (y1.2.1.1 == (0 : Int)) && (y1.2.1.2.1 == (0 : Int)) then
                bif (y1.1.1 == true) && ((y1.1.2.1 == (15 : Int)) && (y1.1.2.2.1 == (-1 : Int))) then
                  bif y2.1 == ([45, 49, 46, 53]) then
                    bif y2.2.1 == (0 : Int) then
                      bif (y3.2.1.1 == (11 : Int)) && (y3.2.1.2.1 == (2 : Int)) then
                        bif (y4.2.1.1 == (14 : Int)) && (y4.2.1.2.1 == (0 : Int)) then
                          bif (y5.2.1.1 == (0 : Int)) && (y5.2.1.2.1 == (0 : Int)) then
                            bif (y5.1.1 == false) && ((y5.1.2.1 == (1 : Int)) && (y5.1.2.2.1 == (3 : Int))) then
                              some ((y6.2.1.1 == (10 : Int)) && (y6.2.1.2.1 == (0 : Int)))
                            else
                              some (false)
                          else
                            some (false)
                        else
                          some (false)
                      else
                        some (false)
                    else
                      some (false)
                  else
                    some (false)
                else
                  some (false)
              else
                some (false)
noncomputable def F.law03_DecNormals (n : Nat) (a0 : (Bool) × (Int) × (Int) × Unit) : Option (Bool) :=
  (F.dec_Normal n (a0.1, a0.2.1, a0.2.2.1, ())).bind fun y1 =>
    (F.ref03_Normal n (a0.1, a0.2.1, a0.2.2.1, ())).bind fun y2 =>
      bif (y1.1.1 == y2.1.1) && ((y1.1.2.1 == y2.1.2.1) && (y1.1.2.2.1 == y2.1.2.2.1)) then
        bif y1.2.1 == y2.2.1 then
          (F.dec_Check n (a0.1, a0.2.1, a0.2.2.1, ())).bind fun y3 =>
            (F.ref03_Check n (a0.1, a0.2.1, a0.2.2.1, ())).bind fun y4 =>
              bif y3 == y4 then
                (F.law03_awake n ).bind fun y5 =>
                  some (y5)
              else
                some (false)
        else
          some (false)
      else
        some (false)
noncomputable def F.ref03_digit (n : Nat) (a0 : Int) : Option (Bool) :=
  bif decide (a0 ≥ (48 : Int)) then
    some (decide (a0 ≤ (57 : Int)))
  else
    some (false)
noncomputable def F.ref03_Parse.L8.step {X : Type} (n : Nat) (rec : (List UInt8) → Bool → Int → (List UInt8) → Int → Bool → Bool → Int → Int → Int → Int → Option X) (k0 : (List UInt8) → Bool → (List UInt8) → Int → Bool → Bool → Int → Int → Int → Int → Option X) (kr : Bool → Int → Int → Int → Int → Option X) (v0 : List UInt8) (v4 : Bool) (v5 : Int) (v6 : List UInt8) (v7 : Int) (v8 : Bool) (vb0_0 : Bool) (vb0_1 : Int) (vb0_2 : Int) (vb1_0 : Int) (vb1_1 : Int) : Option X :=
  bif decide (v5 < (v0.length : Int)) then
    (idx v0 v5).bind fun x2 =>
      (F.ref03_digit n ((x2).toNat)).bind fun y3 =>
        bif y3 then
          (sub v0 v5 (IntKind.wrap .i64 (v5 + (1 : Int)))).bind fun x4 =>
            bif decide (v6.length + x4.length ≤ strMax) then
              rec v0 v4 (IntKind.wrap .i64 (v5 + (1 : Int))) (v6 ++ x4) v7 false vb0_0 vb0_1 vb0_2 vb1_0 vb1_1
            else
              none
        else
          (idx v0 v5).bind fun x5 =>
            bif ((x5).toNat) == (46 : Int) then
              bif decide (v7 < (0 : Int)) then
                bif !v8 then
                  rec v0 v4 (IntKind.wrap .i64 (v5 + (1 : Int))) v6 (v6.length : Int) true vb0_0 vb0_1 vb0_2 vb1_0 vb1_1
                else
                  kr false (0 : Int) (0 : Int) (14 : Int) v5
              else
                kr false (0 : Int) (0 : Int) (14 : Int) v5
            else
              kr false (0 : Int) (0 : Int) (14 : Int) v5
  else
    k0 v0 v4 v6 v7 v8 vb0_0 vb0_1 vb0_2 vb1_0 vb1_1
noncomputable def F.ref03_Parse.L8 {X : Type} (n : Nat) (k0 : (List UInt8) → Bool → (List UInt8) → Int → Bool → Bool → Int → Int → Int → Int → Option X) (kr : Bool → Int → Int → Int → Int → Option X) : Nat → (List UInt8) → Bool → Int → (List UInt8) → Int → Bool → Bool → Int → Int → Int → Int → Option X
  | 0 => fun _ _ _ _ _ _ _ _ _ _ _ => none
  | m + 1 => fun v0 v4 v5 v6 v7 v8 vb0_0 vb0_1 vb0_2 vb1_0 vb1_1 => F.ref03_Parse.L8.step n (F.ref03_Parse.L8 n k0 kr m) k0 kr v0 v4 v5 v6 v7 v8 vb0_0 vb0_1 vb0_2 vb1_0 vb1_1
noncomputable def F.ref03_Parse (n : Nat) (a0 : List UInt8) : Option (((Bool) × (Int) × (Int) × Unit) × ((Int) × (Int) × Unit) × Unit) :=
  bif decide ((a0.length : Int) > (0 : Int)) then
    (idx a0 (0 : Int)).bind fun x1 =>
      bif ((x1).toNat) == (45 : Int) then
        F.ref03_Parse.L8 n
          (fun e6_0 e6_4 e6_6 e6_7 e6_8 e6_b0_0 e6_b0_1 e6_b0_2 e6_b1_0 e6_b1_1 =>
            bif e6_8 then
              some (((false, (0 : Int), (0 : Int), ()), ((11 : Int), (e6_0.length : Int), ()), ()))
            else
            bif decide (e6_7 ≥ (0 : Int)) then
              (F.ref03_Make n e6_4 e6_6 (IntKind.wrap .i64 (e6_7 - (e6_6.length : Int)))).bind fun y7 =>
                bif !y7.2.1 then
                  some (((false, (0 : Int), (0 : Int), ()), ((10 : Int), (0 : Int), ()), ()))
                else
                  some (((y7.1.1, y7.1.2.1, y7.1.2.2.1, ()), ((0 : Int), (0 : Int), ()), ()))
            else
              (F.ref03_Make n e6_4 e6_6 (0 : Int)).bind fun y8 =>
                bif !y8.2.1 then
                  some (((false, (0 : Int), (0 : Int), ()), ((10 : Int), (0 : Int), ()), ()))
                else
                  some (((y8.1.1, y8.1.2.1, y8.1.2.2.1, ()), ((0 : Int), (0 : Int), ()), ())))
          (fun e9_b0_0 e9_b0_1 e9_b0_2 e9_b1_0 e9_b1_1 =>
            some (((e9_b0_0, e9_b0_1, e9_b0_2, ()), (e9_b1_0, e9_b1_1, ()), ()))) n a0 (((x1).toNat) == (45 : Int)) (1 : Int) [] (-1 : Int) true false (0 : Int) (0 : Int) (0 : Int) (0 : Int)
      else
        F.ref03_Parse.L8 n
          (fun e10_0 e10_4 e10_6 e10_7 e10_8 e10_b0_0 e10_b0_1 e10_b0_2 e10_b1_0 e10_b1_1 =>
            bif e10_8 then
              some (((false, (0 : Int), (0 : Int), ()), ((11 : Int), (e10_0.length : Int), ()), ()))
            else
            bif decide (e10_7 ≥ (0 : Int)) then
              (F.ref03_Make n e10_4 e10_6 (IntKind.wrap .i64 (e10_7 - (e10_6.length : Int)))).bind fun y11 =>
                bif !y11.2.1 then
                  some (((false, (0 : Int), (0 : Int), ()), ((10 : Int), (0 : Int), ()), ()))
                else
                  some (((y11.1.1, y11.1.2.1, y11.1.2.2.1, ()), ((0 : Int), (0 : Int), ()), ()))
            else
              (F.ref03_Make n e10_4 e10_6 (0 : Int)).bind fun y12 =>
                bif !y12.2.1 then
                  some (((false, (0 : Int), (0 : Int), ()), ((10 : Int), (0 : Int), ()), ()))
                else
                  some (((y12.1.1, y12.1.2.1, y12.1.2.2.1, ()), ((0 : Int), (0 : Int), ()), ())))
          (fun e13_b0_0 e13_b0_1 e13_b0_2 e13_b1_0 e13_b1_1 =>
            some (((e13_b0_0, e13_b0_1, e13_b0_2, ()), (e13_b1_0, e13_b1_1, ()), ()))) n a0 (((x1).toNat) == (45 : Int)) (0 : Int) [] (-1 : Int) true false (0 : Int) (0 : Int) (0 : Int) (0 : Int)
  else
    F.ref03_Parse.L8 n
      (fun e14_0 e14_4 e14_6 e14_7 e14_8 e14_b0_0 e14_b0_1 e14_b0_2 e14_b1_0 e14_b1_1 =>
        bif e14_8 then
          some (((false, (0 : Int), (0 : Int), ()), ((11 : Int), (e14_0.length : Int), ()), ()))
        else
        bif decide (e14_7 ≥ (0 : Int)) then
          (F.ref03_Make n e14_4 e14_6 (IntKind.wrap .i64 (e14_7 - (e14_6.length : Int)))).bind fun y15 =>
            bif !y15.2.1 then
              some (((false, (0 : Int), (0 : Int), ()), ((10 : Int), (0 : Int), ()), ()))
            else
              some (((y15.1.1, y15.1.2.1, y15.1.2.2.1, ()), ((0 : Int), (0 : Int), ()), ()))
        else
          (F.ref03_Make n e14_4 e14_6 (0 : Int)).bind fun y16 =>
            bif !y16.2.1 then
              some (((false, (0 : Int), (0 : Int), ()), ((10 : Int), (0 : Int), ()), ()))
            else
              some (((y16.1.1, y16.1.2.1, y16.1.2.2.1, ()), ((0 : Int), (0 : Int), ()), ())))
      (fun e17_b0_0 e17_b0_1 e17_b0_2 e17_b1_0 e17_b1_1 =>
        some (((e17_b0_0, e17_b0_1, e17_b0_2, ()), (e17_b1_0, e17_b1_1, ()), ()))) n a0 false (0 : Int) [] (-1 : Int) true false (0 : Int) (0 : Int) (0 : Int) (0 : Int)
noncomputable def F.law03_DecParses (n : Nat) (a0 : List UInt8) : Option (Bool) :=
  bif decide ((a0.length : Int) > (200 : Int)) then
    (F.law03_awake n ).bind fun y1 =>
      some (y1)
  else
    (F.dec_Parse n a0).bind fun y2 =>
      (F.ref03_Parse n a0).bind fun y3 =>
        bif (y2.1.1 == y3.1.1) && ((y2.1.2.1 == y3.1.2.1) && (y2.1.2.2.1 == y3.1.2.2.1)) then
          bif (y2.2.1.1 == y3.2.1.1) && (y2.2.1.2.1 == y3.2.1.2.1) then
            (F.law03_awake n ).bind fun y4 =>
              some (y4)
          else
            some (false)
        else
          some (false)
noncomputable def F.law03_DecBack (n : Nat) (a0 : (Bool) × (Int) × (Int) × Unit) (a1 : List UInt8) : Option (Bool) :=
  bif decide ((a1.length : Int) > (200 : Int)) then
    (F.law03_awake n ).bind fun y1 =>
      some (y1)
  else
    (F.dec_Text n (a0.1, a0.2.1, a0.2.2.1, ())).bind fun y2 =>
      bif y2.2.1 == (0 : Int) then
        (F.dec_Parse n y2.1).bind fun y3 =>
          bif !((y3.2.1.1 == (0 : Int)) && (y3.2.1.2.1 == (0 : Int))) then
            some (false)
          else
          bif !((y3.1.1 == a0.1) && ((y3.1.2.1 == a0.2.1) && (y3.1.2.2.1 == a0.2.2.1))) then
            some (false)
          else
          bif decide ((y2.1.length : Int) > (39 : Int)) then
            some (false)
          else
            (F.dec_Check n (a0.1, a0.2.1, a0.2.2.1, ())).bind fun y4 =>
              bif !(y4 == (0 : Int)) then
                some (false)
              else
                (F.dec_Parse n a1).bind fun y5 =>
                  bif !((y5.2.1.1 == (0 : Int)) && (y5.2.1.2.1 == (0 : Int))) then
                    bif (y5.1.1 == false) && ((y5.1.2.1 == (0 : Int)) && (y5.1.2.2.1 == (0 : Int))) then
                      bif !(y5.2.1.1 == (0 : Int)) then
                        bif decide (y5.2.1.2.1 ≥ (0 : Int)) then
                          bif decide (y5.2.1.2.1 ≤ (a1.length : Int)) then
                            (F.law03_awake n ).bind fun y6 =>
                              some (y6)
                          else
                            some (false)
                        else
                          some (false)
                      else
                        some (false)
                    else
                      some (false)
                  else
                    (F.dec_Text n (y5.1.1, y5.1.2.1, y5.1.2.2.1, ())).bind fun y7 =>
                      (F.dec_Parse n y7.1).bind fun y8 =>
                        (F.dec_Check n (y5.1.1, y5.1.2.1, y5.1.2.2.1, ())).bind fun y9 =>
                          bif y9 == (0 : Int) then
                            bif y7.2.1 == (0 : Int) then
                              bif (y8.2.1.1 == (0 : Int)) && (y8.2.1.2.1 == (0 : Int)) then
                                bif (y8.1.1 == y5.1.1) && ((y8.1.2.1 == y5.1.2.1) && (y8.1.2.2.1 == y5.1.2.2.1)) then
                                  (F.law03_awake n ).bind fun y10 =>
                                    some (y10)
                                else
                                  some (false)
                              else
                                some (false)
                            else
                              some (false)
                          else
                            some (false)
      else
      bif !(y2.1 == []) then
        some (false)
      else
        (F.dec_Check n (a0.1, a0.2.1, a0.2.2.1, ())).bind fun y11 =>
          bif !(y11 == y2.2.1) then
            some (false)
          else
            (F.dec_Parse n a1).bind fun y12 =>
              bif !((y12.2.1.1 == (0 : Int)) && (y12.2.1.2.1 == (0 : Int))) then
                bif (y12.1.1 == false) && ((y12.1.2.1 == (0 : Int)) && (y12.1.2.2.1 == (0 : Int))) then
                  bif !(y12.2.1.1 == (0 : Int)) then
                    bif decide (y12.2.1.2.1 ≥ (0 : Int)) then
                      bif decide (y12.2.1.2.1 ≤ (a1.length : Int)) then
                        (F.law03_awake n ).bind fun y13 =>
                          some (y13)
                      else
                        some (false)
                    else
                      some (false)
                  else
                    some (false)
                else
                  some (false)
              else
                (F.dec_Text n (y12.1.1, y12.1.2.1, y12.1.2.2.1, ())).bind fun y14 =>
                  (F.dec_Parse n y14.1).bind fun y15 =>
                    (F.dec_Check n (y12.1.1, y12.1.2.1, y12.1.2.2.1, ())).bind fun y16 =>
                      bif y16 == (0 : Int) then
                        bif y14.2.1 == (0 : Int) then
                          bif (y15.2.1.1 == (0 : Int)) && (y15.2.1.2.1 == (0 : Int)) then
                            bif (y15.1.1 == y12.1.1) && ((y15.1.2.1 == y12.1.2.1) && (y15.1.2.2.1 == y12.1.2.2.1)) then
                              (F.law03_awake n ).bind fun y17 =>
                                some (y17)
                            else
                              some (false)
                          else
                            some (false)
                        else
                          some (false)
                      else
                        some (false)
noncomputable def F.law03_DecZeros.L13.step {X : Type} (n : Nat) (rec : Int → Int → (List UInt8) → (List UInt8) → Int → Bool → Int → Int → Option X) (k0 : Int → (List UInt8) → (List UInt8) → Bool → Int → Int → Option X) (v1 : Int) (v2 : Int) (v7 : List UInt8) (v9 : List UInt8) (v10 : Int) (vb0_0 : Bool) (vb0_1 : Int) (vb0_2 : Int) : Option X :=
  bif decide (v10 < v1) then
    bif decide (v9.length + 1 ≤ strMax) then
      rec v1 v2 v7 (v9 ++ ([48])) (IntKind.wrap .i64 (v10 + (1 : Int))) vb0_0 vb0_1 vb0_2
    else
      none
  else
    k0 v2 v7 v9 vb0_0 vb0_1 vb0_2
noncomputable def F.law03_DecZeros.L13 {X : Type} (n : Nat) (k0 : Int → (List UInt8) → (List UInt8) → Bool → Int → Int → Option X) : Nat → Int → Int → (List UInt8) → (List UInt8) → Int → Bool → Int → Int → Option X
  | 0 => fun _ _ _ _ _ _ _ _ => none
  | m + 1 => fun v1 v2 v7 v9 v10 vb0_0 vb0_1 vb0_2 => F.law03_DecZeros.L13.step n (F.law03_DecZeros.L13 n k0 m) k0 v1 v2 v7 v9 v10 vb0_0 vb0_1 vb0_2
noncomputable def F.law03_DecZeros.L21.step {X : Type} (n : Nat) (rec : Int → (List UInt8) → (List UInt8) → (List UInt8) → Int → Bool → Int → Int → Option X) (k2 : Int → (List UInt8) → (List UInt8) → (List UInt8) → Bool → Int → Int → Option X) (v2 : Int) (v7 : List UInt8) (v9 : List UInt8) (v11 : List UInt8) (v12 : Int) (vb0_0 : Bool) (vb0_1 : Int) (vb0_2 : Int) : Option X :=
  bif decide (v12 < v2) then
    bif decide (v11.length + 1 ≤ strMax) then
      rec v2 v7 v9 (v11 ++ ([48])) (IntKind.wrap .i64 (v12 + (1 : Int))) vb0_0 vb0_1 vb0_2
    else
      none
  else
    k2 v2 v7 v9 v11 vb0_0 vb0_1 vb0_2
noncomputable def F.law03_DecZeros.L21 {X : Type} (n : Nat) (k2 : Int → (List UInt8) → (List UInt8) → (List UInt8) → Bool → Int → Int → Option X) : Nat → Int → (List UInt8) → (List UInt8) → (List UInt8) → Int → Bool → Int → Int → Option X
  | 0 => fun _ _ _ _ _ _ _ _ => none
  | m + 1 => fun v2 v7 v9 v11 v12 vb0_0 vb0_1 vb0_2 => F.law03_DecZeros.L21.step n (F.law03_DecZeros.L21 n k2 m) k2 v2 v7 v9 v11 v12 vb0_0 vb0_1 vb0_2
noncomputable def F.law03_DecZeros (n : Nat) (a0 : (Bool) × (Int) × (Int) × Unit) (a1 : Int) (a2 : Int) : Option (Bool) :=
  bif decide (a1 < (0 : Int)) then
    (F.law03_awake n ).bind fun y1 =>
      some (y1)
  else
  bif decide (a1 > (40 : Int)) then
    (F.law03_awake n ).bind fun y2 =>
      some (y2)
  else
  bif decide (a2 < (0 : Int)) then
    (F.law03_awake n ).bind fun y3 =>
      some (y3)
  else
  bif decide (a2 > (40 : Int)) then
    (F.law03_awake n ).bind fun y4 =>
      some (y4)
  else
    (F.dec_Text n (a0.1, a0.2.1, a0.2.2.1, ())).bind fun y5 =>
      bif !(y5.2.1 == (0 : Int)) then
        bif y5.1 == [] then
          (F.law03_awake n ).bind fun y6 =>
            some (y6)
        else
          some (false)
      else
      bif decide ((y5.1.length : Int) < (1 : Int)) then
        some (false)
      else
      bif a0.1 then
        (sub y5.1 (1 : Int) (y5.1.length : Int)).bind fun x7 =>
          F.law03_DecZeros.L13 n
            (fun e8_2 e8_7 e8_9 e8_b0_0 e8_b0_1 e8_b0_2 =>
              bif decide (e8_9.length + e8_7.length ≤ strMax) then
                bif decide (e8_b0_2 ≥ (0 : Int)) then
                  bif decide (e8_2 > (0 : Int)) then
                    bif decide (((e8_9 ++ e8_7).length) + 1 ≤ strMax) then
                      F.law03_DecZeros.L21 n
                        (fun e9_2 e9_7 e9_9 e9_11 e9_b0_0 e9_b0_1 e9_b0_2 =>
                          bif decide (e9_9.length + e9_11.length ≤ strMax) then
                            (F.dec_Parse n (e9_9 ++ e9_11)).bind fun y10 =>
                              bif !((y10.2.1.1 == (0 : Int)) && (y10.2.1.2.1 == (0 : Int))) then
                                some (false)
                              else
                              bif !((y10.1.1 == e9_b0_0) && ((y10.1.2.1 == e9_b0_1) && (y10.1.2.2.1 == e9_b0_2))) then
                                some (false)
                              else
                              bif decide (e9_b0_2 < (0 : Int)) then
                                (F.law03_awake n ).bind fun y11 =>
                                  some (y11)
                              else
                              bif e9_b0_1 == (0 : Int) then
                                (F.law03_awake n ).bind fun y12 =>
                                  some (y12)
                              else
                              bif decide ((IntKind.wrap .i64 (e9_b0_2 + e9_2)) > (18 : Int)) then
                                (F.law03_awake n ).bind fun y13 =>
                                  some (y13)
                              else
                              bif e9_b0_0 then
                                bif decide (1 + e9_7.length ≤ strMax) then
                                  bif decide (((([45]) ++ e9_7).length) + e9_11.length ≤ strMax) then
                                    (F.dec_Parse n ((([45]) ++ e9_7) ++ e9_11)).bind fun y14 =>
                                      bif (y14.2.1.1 == (0 : Int)) && (y14.2.1.2.1 == (0 : Int)) then
                                        bif (y14.1.1 == e9_b0_0) && ((y14.1.2.1 == e9_b0_1) && (y14.1.2.2.1 == (IntKind.wrap .i64 (e9_b0_2 + e9_2)))) then
                                          (F.law03_awake n ).bind fun y15 =>
                                            some (y15)
                                        else
                                          some (false)
                                      else
                                        some (false)
                                  else
                                    none
                                else
                                  none
                              else
                              bif decide (0 + e9_7.length ≤ strMax) then
                                bif decide ((([] ++ e9_7).length) + e9_11.length ≤ strMax) then
                                  (F.dec_Parse n (([] ++ e9_7) ++ e9_11)).bind fun y16 =>
                                    bif (y16.2.1.1 == (0 : Int)) && (y16.2.1.2.1 == (0 : Int)) then
                                      bif (y16.1.1 == e9_b0_0) && ((y16.1.2.1 == e9_b0_1) && (y16.1.2.2.1 == (IntKind.wrap .i64 (e9_b0_2 + e9_2)))) then
                                        (F.law03_awake n ).bind fun y17 =>
                                          some (y17)
                                      else
                                        some (false)
                                    else
                                      some (false)
                                else
                                  none
                              else
                                none
                          else
                            none) n e8_2 e8_7 ((e8_9 ++ e8_7) ++ ([46])) [] (0 : Int) e8_b0_0 e8_b0_1 e8_b0_2
                    else
                      none
                  else
                    F.law03_DecZeros.L21 n
                      (fun e18_2 e18_7 e18_9 e18_11 e18_b0_0 e18_b0_1 e18_b0_2 =>
                        bif decide (e18_9.length + e18_11.length ≤ strMax) then
                          (F.dec_Parse n (e18_9 ++ e18_11)).bind fun y19 =>
                            bif !((y19.2.1.1 == (0 : Int)) && (y19.2.1.2.1 == (0 : Int))) then
                              some (false)
                            else
                            bif !((y19.1.1 == e18_b0_0) && ((y19.1.2.1 == e18_b0_1) && (y19.1.2.2.1 == e18_b0_2))) then
                              some (false)
                            else
                            bif decide (e18_b0_2 < (0 : Int)) then
                              (F.law03_awake n ).bind fun y20 =>
                                some (y20)
                            else
                            bif e18_b0_1 == (0 : Int) then
                              (F.law03_awake n ).bind fun y21 =>
                                some (y21)
                            else
                            bif decide ((IntKind.wrap .i64 (e18_b0_2 + e18_2)) > (18 : Int)) then
                              (F.law03_awake n ).bind fun y22 =>
                                some (y22)
                            else
                            bif e18_b0_0 then
                              bif decide (1 + e18_7.length ≤ strMax) then
                                bif decide (((([45]) ++ e18_7).length) + e18_11.length ≤ strMax) then
                                  (F.dec_Parse n ((([45]) ++ e18_7) ++ e18_11)).bind fun y23 =>
                                    bif (y23.2.1.1 == (0 : Int)) && (y23.2.1.2.1 == (0 : Int)) then
                                      bif (y23.1.1 == e18_b0_0) && ((y23.1.2.1 == e18_b0_1) && (y23.1.2.2.1 == (IntKind.wrap .i64 (e18_b0_2 + e18_2)))) then
                                        (F.law03_awake n ).bind fun y24 =>
                                          some (y24)
                                      else
                                        some (false)
                                    else
                                      some (false)
                                else
                                  none
                              else
                                none
                            else
                            bif decide (0 + e18_7.length ≤ strMax) then
                              bif decide ((([] ++ e18_7).length) + e18_11.length ≤ strMax) then
                                (F.dec_Parse n (([] ++ e18_7) ++ e18_11)).bind fun y25 =>
                                  bif (y25.2.1.1 == (0 : Int)) && (y25.2.1.2.1 == (0 : Int)) then
                                    bif (y25.1.1 == e18_b0_0) && ((y25.1.2.1 == e18_b0_1) && (y25.1.2.2.1 == (IntKind.wrap .i64 (e18_b0_2 + e18_2)))) then
                                      (F.law03_awake n ).bind fun y26 =>
                                        some (y26)
                                    else
                                      some (false)
                                  else
                                    some (false)
                              else
                                none
                            else
                              none
                        else
                          none) n e8_2 e8_7 (e8_9 ++ e8_7) [] (0 : Int) e8_b0_0 e8_b0_1 e8_b0_2
                else
                  F.law03_DecZeros.L21 n
                    (fun e27_2 e27_7 e27_9 e27_11 e27_b0_0 e27_b0_1 e27_b0_2 =>
                      bif decide (e27_9.length + e27_11.length ≤ strMax) then
                        (F.dec_Parse n (e27_9 ++ e27_11)).bind fun y28 =>
                          bif !((y28.2.1.1 == (0 : Int)) && (y28.2.1.2.1 == (0 : Int))) then
                            some (false)
                          else
                          bif !((y28.1.1 == e27_b0_0) && ((y28.1.2.1 == e27_b0_1) && (y28.1.2.2.1 == e27_b0_2))) then
                            some (false)
                          else
                          bif decide (e27_b0_2 < (0 : Int)) then
                            (F.law03_awake n ).bind fun y29 =>
                              some (y29)
                          else
                          bif e27_b0_1 == (0 : Int) then
                            (F.law03_awake n ).bind fun y30 =>
                              some (y30)
                          else
                          bif decide ((IntKind.wrap .i64 (e27_b0_2 + e27_2)) > (18 : Int)) then
                            (F.law03_awake n ).bind fun y31 =>
                              some (y31)
                          else
                          bif e27_b0_0 then
                            bif decide (1 + e27_7.length ≤ strMax) then
                              bif decide (((([45]) ++ e27_7).length) + e27_11.length ≤ strMax) then
                                (F.dec_Parse n ((([45]) ++ e27_7) ++ e27_11)).bind fun y32 =>
                                  bif (y32.2.1.1 == (0 : Int)) && (y32.2.1.2.1 == (0 : Int)) then
                                    bif (y32.1.1 == e27_b0_0) && ((y32.1.2.1 == e27_b0_1) && (y32.1.2.2.1 == (IntKind.wrap .i64 (e27_b0_2 + e27_2)))) then
                                      (F.law03_awake n ).bind fun y33 =>
                                        some (y33)
                                    else
                                      some (false)
                                  else
                                    some (false)
                              else
                                none
                            else
                              none
                          else
                          bif decide (0 + e27_7.length ≤ strMax) then
                            bif decide ((([] ++ e27_7).length) + e27_11.length ≤ strMax) then
                              (F.dec_Parse n (([] ++ e27_7) ++ e27_11)).bind fun y34 =>
                                bif (y34.2.1.1 == (0 : Int)) && (y34.2.1.2.1 == (0 : Int)) then
                                  bif (y34.1.1 == e27_b0_0) && ((y34.1.2.1 == e27_b0_1) && (y34.1.2.2.1 == (IntKind.wrap .i64 (e27_b0_2 + e27_2)))) then
                                    (F.law03_awake n ).bind fun y35 =>
                                      some (y35)
                                  else
                                    some (false)
                                else
                                  some (false)
                            else
                              none
                          else
                            none
                      else
                        none) n e8_2 e8_7 (e8_9 ++ e8_7) [] (0 : Int) e8_b0_0 e8_b0_1 e8_b0_2
              else
                none) n a1 a2 x7 ([45]) (0 : Int) a0.1 a0.2.1 a0.2.2.1
      else
        F.law03_DecZeros.L13 n
          (fun e36_2 e36_7 e36_9 e36_b0_0 e36_b0_1 e36_b0_2 =>
            bif decide (e36_9.length + e36_7.length ≤ strMax) then
              bif decide (e36_b0_2 ≥ (0 : Int)) then
                bif decide (e36_2 > (0 : Int)) then
                  bif decide (((e36_9 ++ e36_7).length) + 1 ≤ strMax) then
                    F.law03_DecZeros.L21 n
                      (fun e37_2 e37_7 e37_9 e37_11 e37_b0_0 e37_b0_1 e37_b0_2 =>
                        bif decide (e37_9.length + e37_11.length ≤ strMax) then
                          (F.dec_Parse n (e37_9 ++ e37_11)).bind fun y38 =>
                            bif !((y38.2.1.1 == (0 : Int)) && (y38.2.1.2.1 == (0 : Int))) then
                              some (false)
                            else
                            bif !((y38.1.1 == e37_b0_0) && ((y38.1.2.1 == e37_b0_1) && (y38.1.2.2.1 == e37_b0_2))) then
                              some (false)
                            else
                            bif decide (e37_b0_2 < (0 : Int)) then
                              (F.law03_awake n ).bind fun y39 =>
                                some (y39)
                            else
                            bif e37_b0_1 == (0 : Int) then
                              (F.law03_awake n ).bind fun y40 =>
                                some (y40)
                            else
                            bif decide ((IntKind.wrap .i64 (e37_b0_2 + e37_2)) > (18 : Int)) then
                              (F.law03_awake n ).bind fun y41 =>
                                some (y41)
                            else
                            bif e37_b0_0 then
                              bif decide (1 + e37_7.length ≤ strMax) then
                                bif decide (((([45]) ++ e37_7).length) + e37_11.length ≤ strMax) then
                                  (F.dec_Parse n ((([45]) ++ e37_7) ++ e37_11)).bind fun y42 =>
                                    bif (y42.2.1.1 == (0 : Int)) && (y42.2.1.2.1 == (0 : Int)) then
                                      bif (y42.1.1 == e37_b0_0) && ((y42.1.2.1 == e37_b0_1) && (y42.1.2.2.1 == (IntKind.wrap .i64 (e37_b0_2 + e37_2)))) then
                                        (F.law03_awake n ).bind fun y43 =>
                                          some (y43)
                                      else
                                        some (false)
                                    else
                                      some (false)
                                else
                                  none
                              else
                                none
                            else
                            bif decide (0 + e37_7.length ≤ strMax) then
                              bif decide ((([] ++ e37_7).length) + e37_11.length ≤ strMax) then
                                (F.dec_Parse n (([] ++ e37_7) ++ e37_11)).bind fun y44 =>
                                  bif (y44.2.1.1 == (0 : Int)) && (y44.2.1.2.1 == (0 : Int)) then
                                    bif (y44.1.1 == e37_b0_0) && ((y44.1.2.1 == e37_b0_1) && (y44.1.2.2.1 == (IntKind.wrap .i64 (e37_b0_2 + e37_2)))) then
                                      (F.law03_awake n ).bind fun y45 =>
                                        some (y45)
                                    else
                                      some (false)
                                  else
                                    some (false)
                              else
                                none
                            else
                              none
                        else
                          none) n e36_2 e36_7 ((e36_9 ++ e36_7) ++ ([46])) [] (0 : Int) e36_b0_0 e36_b0_1 e36_b0_2
                  else
                    none
                else
                  F.law03_DecZeros.L21 n
                    (fun e46_2 e46_7 e46_9 e46_11 e46_b0_0 e46_b0_1 e46_b0_2 =>
                      bif decide (e46_9.length + e46_11.length ≤ strMax) then
                        (F.dec_Parse n (e46_9 ++ e46_11)).bind fun y47 =>
                          bif !((y47.2.1.1 == (0 : Int)) && (y47.2.1.2.1 == (0 : Int))) then
                            some (false)
                          else
                          bif !((y47.1.1 == e46_b0_0) && ((y47.1.2.1 == e46_b0_1) && (y47.1.2.2.1 == e46_b0_2))) then
                            some (false)
                          else
                          bif decide (e46_b0_2 < (0 : Int)) then
                            (F.law03_awake n ).bind fun y48 =>
                              some (y48)
                          else
                          bif e46_b0_1 == (0 : Int) then
                            (F.law03_awake n ).bind fun y49 =>
                              some (y49)
                          else
                          bif decide ((IntKind.wrap .i64 (e46_b0_2 + e46_2)) > (18 : Int)) then
                            (F.law03_awake n ).bind fun y50 =>
                              some (y50)
                          else
                          bif e46_b0_0 then
                            bif decide (1 + e46_7.length ≤ strMax) then
                              bif decide (((([45]) ++ e46_7).length) + e46_11.length ≤ strMax) then
                                (F.dec_Parse n ((([45]) ++ e46_7) ++ e46_11)).bind fun y51 =>
                                  bif (y51.2.1.1 == (0 : Int)) && (y51.2.1.2.1 == (0 : Int)) then
                                    bif (y51.1.1 == e46_b0_0) && ((y51.1.2.1 == e46_b0_1) && (y51.1.2.2.1 == (IntKind.wrap .i64 (e46_b0_2 + e46_2)))) then
                                      (F.law03_awake n ).bind fun y52 =>
                                        some (y52)
                                    else
                                      some (false)
                                  else
                                    some (false)
                              else
                                none
                            else
                              none
                          else
                          bif decide (0 + e46_7.length ≤ strMax) then
                            bif decide ((([] ++ e46_7).length) + e46_11.length ≤ strMax) then
                              (F.dec_Parse n (([] ++ e46_7) ++ e46_11)).bind fun y53 =>
                                bif (y53.2.1.1 == (0 : Int)) && (y53.2.1.2.1 == (0 : Int)) then
                                  bif (y53.1.1 == e46_b0_0) && ((y53.1.2.1 == e46_b0_1) && (y53.1.2.2.1 == (IntKind.wrap .i64 (e46_b0_2 + e46_2)))) then
                                    (F.law03_awake n ).bind fun y54 =>
                                      some (y54)
                                  else
                                    some (false)
                                else
                                  some (false)
                            else
                              none
                          else
                            none
                      else
                        none) n e36_2 e36_7 (e36_9 ++ e36_7) [] (0 : Int) e36_b0_0 e36_b0_1 e36_b0_2
              else
                F.law03_DecZeros.L21 n
                  (fun e55_2 e55_7 e55_9 e55_11 e55_b0_0 e55_b0_1 e55_b0_2 =>
                    bif decide (e55_9.length + e55_11.length ≤ strMax) then
                      (F.dec_Parse n (e55_9 ++ e55_11)).bind fun y56 =>
                        bif !((y56.2.1.1 == (0 : Int)) && (y56.2.1.2.1 == (0 : Int))) then
                          some (false)
                        else
                        bif !((y56.1.1 == e55_b0_0) && ((y56.1.2.1 == e55_b0_1) && (y56.1.2.2.1 == e55_b0_2))) then
                          some (false)
                        else
                        bif decide (e55_b0_2 < (0 : Int)) then
                          (F.law03_awake n ).bind fun y57 =>
                            some (y57)
                        else
                        bif e55_b0_1 == (0 : Int) then
                          (F.law03_awake n ).bind fun y58 =>
                            some (y58)
                        else
                        bif decide ((IntKind.wrap .i64 (e55_b0_2 + e55_2)) > (18 : Int)) then
                          (F.law03_awake n ).bind fun y59 =>
                            some (y59)
                        else
                        bif e55_b0_0 then
                          bif decide (1 + e55_7.length ≤ strMax) then
                            bif decide (((([45]) ++ e55_7).length) + e55_11.length ≤ strMax) then
                              (F.dec_Parse n ((([45]) ++ e55_7) ++ e55_11)).bind fun y60 =>
                                bif (y60.2.1.1 == (0 : Int)) && (y60.2.1.2.1 == (0 : Int)) then
                                  bif (y60.1.1 == e55_b0_0) && ((y60.1.2.1 == e55_b0_1) && (y60.1.2.2.1 == (IntKind.wrap .i64 (e55_b0_2 + e55_2)))) then
                                    (F.law03_awake n ).bind fun y61 =>
                                      some (y61)
                                  else
                                    some (false)
                                else
                                  some (false)
                            else
                              none
                          else
                            none
                        else
                        bif decide (0 + e55_7.length ≤ strMax) then
                          bif decide ((([] ++ e55_7).length) + e55_11.length ≤ strMax) then
                            (F.dec_Parse n (([] ++ e55_7) ++ e55_11)).bind fun y62 =>
                              bif (y62.2.1.1 == (0 : Int)) && (y62.2.1.2.1 == (0 : Int)) then
                                bif (y62.1.1 == e55_b0_0) && ((y62.1.2.1 == e55_b0_1) && (y62.1.2.2.1 == (IntKind.wrap .i64 (e55_b0_2 + e55_2)))) then
                                  (F.law03_awake n ).bind fun y63 =>
                                    some (y63)
                                else
                                  some (false)
                              else
                                some (false)
                          else
                            none
                        else
                          none
                    else
                      none) n e36_2 e36_7 (e36_9 ++ e36_7) [] (0 : Int) e36_b0_0 e36_b0_1 e36_b0_2
            else
              none) n a1 a2 y5.1 [] (0 : Int) a0.1 a0.2.1 a0.2.2.1
noncomputable def F.dec_size (n : Nat) (a0 : (Bool) × (Int) × (Int) × Unit) (a1 : (Bool) × (Int) × (Int) × Unit) : Option (Int) :=
  (O.futoa n a0.2.1 (10 : Int)).bind fun y1 =>
    (O.futoa n a1.2.1 (10 : Int)).bind fun y2 =>
      bif a0.2.1 == (0 : Int) then
        some ((IntKind.wrap .i64 ((if (IntKind.wrap .i64 (if (1 : Int) < a0.2.1 then (1 : Int) else a0.2.1)) < (1 : Int) then (IntKind.wrap .i64 (if (1 : Int) < a0.2.1 then (1 : Int) else a0.2.1)) else (1 : Int)) - (if (IntKind.wrap .i64 (if (1 : Int) < a1.2.1 then (1 : Int) else a1.2.1)) < (1 : Int) then (IntKind.wrap .i64 (if (1 : Int) < a1.2.1 then (1 : Int) else a1.2.1)) else (1 : Int)))))
      else
      bif a1.2.1 == (0 : Int) then
        some ((IntKind.wrap .i64 ((if (IntKind.wrap .i64 (if (1 : Int) < a0.2.1 then (1 : Int) else a0.2.1)) < (1 : Int) then (IntKind.wrap .i64 (if (1 : Int) < a0.2.1 then (1 : Int) else a0.2.1)) else (1 : Int)) - (if (IntKind.wrap .i64 (if (1 : Int) < a1.2.1 then (1 : Int) else a1.2.1)) < (1 : Int) then (IntKind.wrap .i64 (if (1 : Int) < a1.2.1 then (1 : Int) else a1.2.1)) else (1 : Int)))))
      else
      bif !((IntKind.wrap .i64 ((y1.length : Int) + a0.2.2.1)) == (IntKind.wrap .i64 ((y2.length : Int) + a1.2.2.1))) then
        bif decide ((IntKind.wrap .i64 ((y1.length : Int) + a0.2.2.1)) < (IntKind.wrap .i64 ((y2.length : Int) + a1.2.2.1))) then
          some ((-1 : Int))
        else
          some ((1 : Int))
      else
        (O.repeat' n ([48]) (IntKind.wrap .i64 ((if (y2.length : Int) > (y1.length : Int) then (y2.length : Int) else (y1.length : Int)) - (y1.length : Int)))).bind fun y3 =>
          bif decide (y1.length + y3.length ≤ strMax) then
            (O.repeat' n ([48]) (IntKind.wrap .i64 ((if (y2.length : Int) > (y1.length : Int) then (y2.length : Int) else (y1.length : Int)) - (y2.length : Int)))).bind fun y4 =>
              bif decide (y2.length + y4.length ≤ strMax) then
                (O.compare n (y1 ++ y3) (y2 ++ y4)).bind fun y5 =>
                  some (y5)
              else
                none
          else
            none
noncomputable def F.dec_Compare.L2.step {X : Type} (n : Nat) (rec : ((Bool) × (Int) × (Int) × (Bool) × (Int) × (Int) × Unit) → Int → Bool → Int → Int → Bool → Int → Int → Option X) (k0 : Bool → Int → Int → Bool → Int → Int → Option X) (kr : Int → Int → Bool → Int → Int → Bool → Int → Int → Option X) (v11 : (Bool) × (Int) × (Int) × (Bool) × (Int) × (Int) × Unit) (v12 : Int) (vb0_0 : Bool) (vb0_1 : Int) (vb0_2 : Int) (vb1_0 : Bool) (vb1_1 : Int) (vb1_2 : Int) : Option X :=
  bif decide (v12 < (2 : Int)) then
    bif v12 == (0 : Int) then
      (F.dec_Check n (v11.1, v11.2.1, v11.2.2.1, ())).bind fun y1 =>
        bif !(y1 == (0 : Int)) then
          kr (0 : Int) y1 vb0_0 vb0_1 vb0_2 vb1_0 vb1_1 vb1_2
        else
          rec (v11.1, v11.2.1, v11.2.2.1, v11.2.2.2.1, v11.2.2.2.2.1, v11.2.2.2.2.2.1, ()) (IntKind.wrap .i64 (v12 + (1 : Int))) vb0_0 vb0_1 vb0_2 vb1_0 vb1_1 vb1_2
    else
    bif v12 == (1 : Int) then
      (F.dec_Check n (v11.2.2.2.1, v11.2.2.2.2.1, v11.2.2.2.2.2.1, ())).bind fun y2 =>
        bif !(y2 == (0 : Int)) then
          kr (0 : Int) y2 vb0_0 vb0_1 vb0_2 vb1_0 vb1_1 vb1_2
        else
          rec (v11.1, v11.2.1, v11.2.2.1, v11.2.2.2.1, v11.2.2.2.2.1, v11.2.2.2.2.2.1, ()) (IntKind.wrap .i64 (v12 + (1 : Int))) vb0_0 vb0_1 vb0_2 vb1_0 vb1_1 vb1_2
    else
      none
  else
    k0 vb0_0 vb0_1 vb0_2 vb1_0 vb1_1 vb1_2
noncomputable def F.dec_Compare.L2 {X : Type} (n : Nat) (k0 : Bool → Int → Int → Bool → Int → Int → Option X) (kr : Int → Int → Bool → Int → Int → Bool → Int → Int → Option X) : Nat → ((Bool) × (Int) × (Int) × (Bool) × (Int) × (Int) × Unit) → Int → Bool → Int → Int → Bool → Int → Int → Option X
  | 0 => fun _ _ _ _ _ _ _ _ => none
  | m + 1 => fun v11 v12 vb0_0 vb0_1 vb0_2 vb1_0 vb1_1 vb1_2 => F.dec_Compare.L2.step n (F.dec_Compare.L2 n k0 kr m) k0 kr v11 v12 vb0_0 vb0_1 vb0_2 vb1_0 vb1_1 vb1_2
noncomputable def F.dec_Compare (n : Nat) (a0 : (Bool) × (Int) × (Int) × Unit) (a1 : (Bool) × (Int) × (Int) × Unit) : Option ((Int) × (Int) × Unit) :=
  F.dec_Compare.L2 n
    (fun e3_b0_0 e3_b0_1 e3_b0_2 e3_b1_0 e3_b1_1 e3_b1_2 =>
      bif e3_b0_0 then
        bif e3_b1_0 then
          (F.dec_size n (e3_b1_0, e3_b1_1, e3_b1_2, ()) (e3_b0_0, e3_b0_1, e3_b0_2, ())).bind fun y4 =>
            some ((y4, (0 : Int), ()))
        else
        bif e3_b0_0 then
          some (((-1 : Int), (0 : Int), ()))
        else
        bif e3_b1_0 then
          some (((1 : Int), (0 : Int), ()))
        else
          (F.dec_size n (e3_b0_0, e3_b0_1, e3_b0_2, ()) (e3_b1_0, e3_b1_1, e3_b1_2, ())).bind fun y5 =>
            some ((y5, (0 : Int), ()))
      else
      bif e3_b0_0 then
        some (((-1 : Int), (0 : Int), ()))
      else
      bif e3_b1_0 then
        some (((1 : Int), (0 : Int), ()))
      else
        (F.dec_size n (e3_b0_0, e3_b0_1, e3_b0_2, ()) (e3_b1_0, e3_b1_1, e3_b1_2, ())).bind fun y6 =>
          some ((y6, (0 : Int), ())))
    (fun e7_4 e7_5 e7_b0_0 e7_b0_1 e7_b0_2 e7_b1_0 e7_b1_1 e7_b1_2 =>
      some ((e7_4, e7_5, ()))) n (a0.1, a0.2.1, a0.2.2.1, a1.1, a1.2.1, a1.2.2.1, ()) (0 : Int) a0.1 a0.2.1 a0.2.2.1 a1.1 a1.2.1 a1.2.2.1
noncomputable def F.ref03_Text.L3.step {X : Type} (n : Nat) (rec : (List UInt8) → Int → Bool → Int → Int → Option X) (k0 : (List UInt8) → Bool → Int → Int → Option X) (v3 : List UInt8) (v4 : Int) (vb0_0 : Bool) (vb0_1 : Int) (vb0_2 : Int) : Option X :=
  bif decide (v4 < vb0_2) then
    bif decide (v3.length + 1 ≤ strMax) then
      rec (v3 ++ ([48])) (IntKind.wrap .i64 (v4 + (1 : Int))) vb0_0 vb0_1 vb0_2
    else
      none
  else
    k0 v3 vb0_0 vb0_1 vb0_2
noncomputable def F.ref03_Text.L3 {X : Type} (n : Nat) (k0 : (List UInt8) → Bool → Int → Int → Option X) : Nat → (List UInt8) → Int → Bool → Int → Int → Option X
  | 0 => fun _ _ _ _ _ => none
  | m + 1 => fun v3 v4 vb0_0 vb0_1 vb0_2 => F.ref03_Text.L3.step n (F.ref03_Text.L3 n k0 m) k0 v3 v4 vb0_0 vb0_1 vb0_2
noncomputable def F.ref03_Text.L7.step {X : Type} (n : Nat) (rec : (List UInt8) → Bool → Int → Int → Option X) (k2 : (List UInt8) → Bool → Int → Int → Option X) (v3 : List UInt8) (vb0_0 : Bool) (vb0_1 : Int) (vb0_2 : Int) : Option X :=
  bif decide ((v3.length : Int) ≤ (IntKind.wrap .i64 (0 - vb0_2))) then
    bif decide (1 + v3.length ≤ strMax) then
      rec (([48]) ++ v3) vb0_0 vb0_1 vb0_2
    else
      none
  else
    k2 v3 vb0_0 vb0_1 vb0_2
noncomputable def F.ref03_Text.L7 {X : Type} (n : Nat) (k2 : (List UInt8) → Bool → Int → Int → Option X) : Nat → (List UInt8) → Bool → Int → Int → Option X
  | 0 => fun _ _ _ _ => none
  | m + 1 => fun v3 vb0_0 vb0_1 vb0_2 => F.ref03_Text.L7.step n (F.ref03_Text.L7 n k2 m) k2 v3 vb0_0 vb0_1 vb0_2
noncomputable def F.ref03_Text (n : Nat) (a0 : (Bool) × (Int) × (Int) × Unit) : Option (List UInt8) :=
  (F.ref03_Digits n a0.2.1).bind fun y1 =>
    F.ref03_Text.L3 n
      (fun e2_3 e2_b0_0 e2_b0_1 e2_b0_2 =>
        bif decide (e2_b0_2 < (0 : Int)) then
          F.ref03_Text.L7 n
            (fun e3_3 e3_b0_0 e3_b0_1 e3_b0_2 =>
              (sub e3_3 (0 : Int) (IntKind.wrap .i64 ((e3_3.length : Int) + e3_b0_2))).bind fun x4 =>
                bif decide (x4.length + 1 ≤ strMax) then
                  (sub e3_3 (IntKind.wrap .i64 ((e3_3.length : Int) + e3_b0_2)) (e3_3.length : Int)).bind fun x5 =>
                    bif decide (((x4 ++ ([46])).length) + x5.length ≤ strMax) then
                      bif e3_b0_0 then
                        bif decide (1 + (((x4 ++ ([46])) ++ x5).length) ≤ strMax) then
                          some (([45]) ++ ((x4 ++ ([46])) ++ x5))
                        else
                          none
                      else
                        some ((x4 ++ ([46])) ++ x5)
                    else
                      none
                else
                  none) n e2_3 e2_b0_0 e2_b0_1 e2_b0_2
        else
        bif e2_b0_0 then
          bif decide (1 + e2_3.length ≤ strMax) then
            some (([45]) ++ e2_3)
          else
            none
        else
          some (e2_3)) n y1 (0 : Int) a0.1 a0.2.1 a0.2.2.1
noncomputable def F.ref03_wide.L3.step {X : Type} (n : Nat) (rec : (List UInt8) → Int → Bool → Int → Int → Option X) (k0 : (List UInt8) → Bool → Int → Int → Option X) (v3 : List UInt8) (v4 : Int) (vb0_0 : Bool) (vb0_1 : Int) (vb0_2 : Int) : Option X :=
  bif decide (v4 < (IntKind.wrap .i64 ((60 : Int) + vb0_2))) then
    bif decide (v3.length + 1 ≤ strMax) then
      rec (v3 ++ ([48])) (IntKind.wrap .i64 (v4 + (1 : Int))) vb0_0 vb0_1 vb0_2
    else
      none
  else
    k0 v3 vb0_0 vb0_1 vb0_2
noncomputable def F.ref03_wide.L3 {X : Type} (n : Nat) (k0 : (List UInt8) → Bool → Int → Int → Option X) : Nat → (List UInt8) → Int → Bool → Int → Int → Option X
  | 0 => fun _ _ _ _ _ => none
  | m + 1 => fun v3 v4 vb0_0 vb0_1 vb0_2 => F.ref03_wide.L3.step n (F.ref03_wide.L3 n k0 m) k0 v3 v4 vb0_0 vb0_1 vb0_2
noncomputable def F.ref03_wide.L6.step {X : Type} (n : Nat) (rec : (List UInt8) → Bool → Int → Int → Option X) (k2 : (List UInt8) → Bool → Int → Int → Option X) (v3 : List UInt8) (vb0_0 : Bool) (vb0_1 : Int) (vb0_2 : Int) : Option X :=
  bif decide ((v3.length : Int) < (120 : Int)) then
    bif decide (1 + v3.length ≤ strMax) then
      rec (([48]) ++ v3) vb0_0 vb0_1 vb0_2
    else
      none
  else
    k2 v3 vb0_0 vb0_1 vb0_2
noncomputable def F.ref03_wide.L6 {X : Type} (n : Nat) (k2 : (List UInt8) → Bool → Int → Int → Option X) : Nat → (List UInt8) → Bool → Int → Int → Option X
  | 0 => fun _ _ _ _ => none
  | m + 1 => fun v3 vb0_0 vb0_1 vb0_2 => F.ref03_wide.L6.step n (F.ref03_wide.L6 n k2 m) k2 v3 vb0_0 vb0_1 vb0_2
noncomputable def F.ref03_wide (n : Nat) (a0 : (Bool) × (Int) × (Int) × Unit) : Option (List UInt8) :=
  (F.ref03_Digits n a0.2.1).bind fun y1 =>
    F.ref03_wide.L3 n
      (fun e2_3 e2_b0_0 e2_b0_1 e2_b0_2 =>
        F.ref03_wide.L6 n
          (fun e3_3 e3_b0_0 e3_b0_1 e3_b0_2 =>
            some (e3_3)) n e2_3 e2_b0_0 e2_b0_1 e2_b0_2) n y1 (0 : Int) a0.1 a0.2.1 a0.2.2.1
noncomputable def F.ref03_Compare (n : Nat) (a0 : (Bool) × (Int) × (Int) × Unit) (a1 : (Bool) × (Int) × (Int) × Unit) : Option (Int) :=
  bif !(a0.1 == a1.1) then
    bif a0.1 then
      some ((-1 : Int))
    else
      some ((1 : Int))
  else
    (F.ref03_wide n (a0.1, a0.2.1, a0.2.2.1, ())).bind fun y1 =>
      (F.ref03_wide n (a1.1, a1.2.1, a1.2.2.1, ())).bind fun y2 =>
        bif a0.1 then
          bif Op.bytesLess y2 y1 then
            some ((-1 : Int))
          else
          bif !(Op.bytesLess y2 y1 || y2 == y1) then
            some ((1 : Int))
          else
            some ((0 : Int))
        else
        bif Op.bytesLess y1 y2 then
          some ((-1 : Int))
        else
        bif !(Op.bytesLess y1 y2 || y1 == y2) then
          some ((1 : Int))
        else
          some ((0 : Int))
noncomputable def F.law03_DecTexts (n : Nat) (a0 : (Bool) × (Int) × (Int) × Unit) (a1 : (Bool) × (Int) × (Int) × Unit) : Option (Bool) :=
  (F.dec_Text n (a0.1, a0.2.1, a0.2.2.1, ())).bind fun y1 =>
    (F.dec_Compare n (a0.1, a0.2.1, a0.2.2.1, ()) (a1.1, a1.2.1, a1.2.2.1, ())).bind fun y2 =>
      (F.ref03_Check n (a0.1, a0.2.1, a0.2.2.1, ())).bind fun y3 =>
        bif !(y3 == (0 : Int)) then
          bif y1.1 == [] then
            bif y1.2.1 == y3 then
              bif y2.1 == (0 : Int) then
                bif y2.2.1 == y3 then
                  (F.law03_awake n ).bind fun y4 =>
                    some (y4)
                else
                  some (false)
              else
                some (false)
            else
              some (false)
          else
            some (false)
        else
          (F.ref03_Text n (a0.1, a0.2.1, a0.2.2.1, ())).bind fun y5 =>
            bif !(y1.1 == y5) then
              some (false)
            else
            bif !(y1.2.1 == (0 : Int)) then
              some (false)
            else
              (F.ref03_Check n (a1.1, a1.2.1, a1.2.2.1, ())).bind fun y6 =>
                bif !(y6 == (0 : Int)) then
                  bif y2.1 == (0 : Int) then
                    (F.ref03_Check n (a1.1, a1.2.1, a1.2.2.1, ())).bind fun y7 =>
                      bif y2.2.1 == y7 then
                        (F.law03_awake n ).bind fun y8 =>
                          some (y8)
                      else
                        some (false)
                  else
                    some (false)
                else
                  (F.ref03_Compare n (a0.1, a0.2.1, a0.2.2.1, ()) (a1.1, a1.2.1, a1.2.2.1, ())).bind fun y9 =>
                    bif y2.1 == y9 then
                      bif y2.2.1 == (0 : Int) then
                        (F.law03_awake n ).bind fun y10 =>
                          some (y10)
                      else
                        some (false)
                    else
                      some (false)
noncomputable def F.dec_Of (n : Nat) (a0 : Int) : Option ((Bool) × (Int) × (Int) × Unit) :=
  bif decide (a0 < (0 : Int)) then
    (F.dec_Normal n (true, (IntKind.wrap .u64 (0 - (IntKind.wrap .u64 (a0)))), (0 : Int), ())).bind fun y1 =>
      some ((y1.1.1, y1.1.2.1, y1.1.2.2.1, ()))
  else
    (F.dec_Normal n (false, (IntKind.wrap .u64 (a0)), (0 : Int), ())).bind fun y2 =>
      some ((y2.1.1, y2.1.2.1, y2.1.2.2.1, ()))
noncomputable def F.law03_DecWhole (n : Nat) (a0 : Int) (a1 : Int) : Option (Bool) :=
  (F.dec_Of n a0).bind fun y1 =>
    (F.dec_Of n a1).bind fun y2 =>
      (F.dec_Text n (y1.1, y1.2.1, y1.2.2.1, ())).bind fun y3 =>
        (F.dec_Compare n (y1.1, y1.2.1, y1.2.2.1, ()) (y2.1, y2.2.1, y2.2.2.1, ())).bind fun y4 =>
          bif !(y3.2.1 == (0 : Int)) then
            some (false)
          else
          bif !(y4.2.1 == (0 : Int)) then
            some (false)
          else
            (F.dec_Check n (y1.1, y1.2.1, y1.2.2.1, ())).bind fun y5 =>
              bif !(y5 == (0 : Int)) then
                some (false)
              else
                (F.dec_Check n (y2.1, y2.2.1, y2.2.2.1, ())).bind fun y6 =>
                  bif !(y6 == (0 : Int)) then
                    some (false)
                  else
                  bif decide (a0 < a1) then
                    bif decide (a0 > a1) then
                      bif decide (a0 < (0 : Int)) then
                        (F.ref03_Digits n (IntKind.wrap .u64 (0 - (IntKind.wrap .u64 (a0))))).bind fun y7 =>
                          bif decide (1 + y7.length ≤ strMax) then
                            bif y3.1 == (([45]) ++ y7) then
                              bif y4.1 == (1 : Int) then
                                (F.law03_awake n ).bind fun y8 =>
                                  some (y8)
                              else
                                some (false)
                            else
                              some (false)
                          else
                            none
                      else
                        (F.ref03_Digits n (IntKind.wrap .u64 (a0))).bind fun y9 =>
                          bif y3.1 == y9 then
                            bif y4.1 == (1 : Int) then
                              (F.law03_awake n ).bind fun y10 =>
                                some (y10)
                            else
                              some (false)
                          else
                            some (false)
                    else
                    bif decide (a0 < (0 : Int)) then
                      (F.ref03_Digits n (IntKind.wrap .u64 (0 - (IntKind.wrap .u64 (a0))))).bind fun y11 =>
                        bif decide (1 + y11.length ≤ strMax) then
                          bif y3.1 == (([45]) ++ y11) then
                            bif y4.1 == (-1 : Int) then
                              (F.law03_awake n ).bind fun y12 =>
                                some (y12)
                            else
                              some (false)
                          else
                            some (false)
                        else
                          none
                    else
                      (F.ref03_Digits n (IntKind.wrap .u64 (a0))).bind fun y13 =>
                        bif y3.1 == y13 then
                          bif y4.1 == (-1 : Int) then
                            (F.law03_awake n ).bind fun y14 =>
                              some (y14)
                          else
                            some (false)
                        else
                          some (false)
                  else
                  bif decide (a0 > a1) then
                    bif decide (a0 < (0 : Int)) then
                      (F.ref03_Digits n (IntKind.wrap .u64 (0 - (IntKind.wrap .u64 (a0))))).bind fun y15 =>
                        bif decide (1 + y15.length ≤ strMax) then
                          bif y3.1 == (([45]) ++ y15) then
                            bif y4.1 == (1 : Int) then
                              (F.law03_awake n ).bind fun y16 =>
                                some (y16)
                            else
                              some (false)
                          else
                            some (false)
                        else
                          none
                    else
                      (F.ref03_Digits n (IntKind.wrap .u64 (a0))).bind fun y17 =>
                        bif y3.1 == y17 then
                          bif y4.1 == (1 : Int) then
                            (F.law03_awake n ).bind fun y18 =>
                              some (y18)
                          else
                            some (false)
                        else
                          some (false)
                  else
                  bif decide (a0 < (0 : Int)) then
                    (F.ref03_Digits n (IntKind.wrap .u64 (0 - (IntKind.wrap .u64 (a0))))).bind fun y19 =>
                      bif decide (1 + y19.length ≤ strMax) then
                        bif y3.1 == (([45]) ++ y19) then
                          bif y4.1 == (0 : Int) then
                            (F.law03_awake n ).bind fun y20 =>
                              some (y20)
                          else
                            some (false)
                        else
                          some (false)
                      else
                        none
                  else
                    (F.ref03_Digits n (IntKind.wrap .u64 (a0))).bind fun y21 =>
                      bif y3.1 == y21 then
                        bif y4.1 == (0 : Int) then
                          (F.law03_awake n ).bind fun y22 =>
                            some (y22)
                        else
                          some (false)
                      else
                        some (false)
end Go.AM
namespace Go.Proofs
open Go.Shelf
def Tryd.lays161_ren : Go.Shelf.Ren := ⟨fun | 161 => 30 | 231 => 48 | 227 => 45 | 233 => 49 | 235 => 50 | 228 => 60 | 197 => 63 | 151 => 62 | 260 => 78 | 152 => 77 | 137 => 89 | 119 => 90 | 224 => 74 | 225 => 73 | 217 => 72 | 266 => 87 | n => n, fun | 9 => 9 | 4 => 4 | 3 => 3 | 5 => 5 | 117 => 75 | 116 => 74 | 0 => 0 | 124 => 78 | 105 => 94 | 21 => 21 | 119 => 120 | 46 => 79 | 139 => 123 | 138 => 122 | n => n, fun | 3 => 2 | 4 => 3 | n => n⟩
theorem Tryd.lays161 : Go.Proofs.Lays.n161 Tryd.prog Tryd.lays161_ren := {
  mixed := by kernel_rfl
  f119 := Tryd.func90.trans (congrArg some (by kernel_rfl))
  f137 := Tryd.func89.trans (congrArg some (by kernel_rfl))
  f151 := Tryd.func62.trans (congrArg some (by kernel_rfl))
  f152 := Tryd.func77.trans (congrArg some (by kernel_rfl))
  f161 := Tryd.func30.trans (congrArg some (by kernel_rfl))
  f197 := Tryd.func63.trans (congrArg some (by kernel_rfl))
  f217 := Tryd.func72.trans (congrArg some (by kernel_rfl))
  f224 := Tryd.func74.trans (congrArg some (by kernel_rfl))
  f225 := Tryd.func73.trans (congrArg some (by kernel_rfl))
  f227 := Tryd.func45.trans (congrArg some (by kernel_rfl))
  f228 := Tryd.func60.trans (congrArg some (by kernel_rfl))
  f231 := Tryd.func48.trans (congrArg some (by kernel_rfl))
  f233 := Tryd.func49.trans (congrArg some (by kernel_rfl))
  f235 := Tryd.func50.trans (congrArg some (by kernel_rfl))
  f260 := Tryd.func78.trans (congrArg some (by kernel_rfl))
  f266 := Tryd.func87.trans (congrArg some (by kernel_rfl))
  t0 := Tryd.underlying0
  a0 := Tryd.isAgg0
  z0 := Tryd.sizeOf0
  v0 := Tryd.zeroValue0
  t3 := Tryd.underlying3
  a3 := Tryd.isAgg3
  z3 := Tryd.sizeOf3
  v3 := Tryd.zeroValue3
  t4 := Tryd.underlying4
  a4 := Tryd.isAgg4
  z4 := Tryd.sizeOf4
  v4 := Tryd.zeroValue4
  t5 := Tryd.underlying5
  a5 := Tryd.isAgg5
  z5 := Tryd.sizeOf5
  v5 := Tryd.zeroValue5
  t9 := Tryd.underlying9
  a9 := Tryd.isAgg9
  z9 := Tryd.sizeOf9
  v9 := Tryd.zeroValue9
  t21 := Tryd.underlying21
  a21 := Tryd.isAgg21
  z21 := Tryd.sizeOf21
  v21 := Tryd.zeroValue21
  t46 := Tryd.underlying79
  a46 := Tryd.isAgg79
  z46 := Tryd.sizeOf79
  v46 := Tryd.zeroValue79
  t105 := Tryd.underlying94
  a105 := Tryd.isAgg94
  z105 := Tryd.sizeOf94
  v105 := Tryd.zeroValue94
  t116 := Tryd.underlying74
  a116 := Tryd.isAgg74
  z116 := Tryd.sizeOf74
  t117 := Tryd.underlying75
  a117 := Tryd.isAgg75
  z117 := Tryd.sizeOf75
  v117 := Tryd.zeroValue75
  t119 := Tryd.underlying120
  a119 := Tryd.isAgg120
  z119 := Tryd.sizeOf120
  t124 := Tryd.underlying78
  a124 := Tryd.isAgg78
  z124 := Tryd.sizeOf78
  v124 := Tryd.zeroValue78
  t138 := Tryd.underlying122
  a138 := Tryd.isAgg122
  z138 := Tryd.sizeOf122
  v138 := Tryd.zeroValue122
  t139 := Tryd.underlying123
  a139 := Tryd.isAgg123
  z139 := Tryd.sizeOf123
  v139 := Tryd.zeroValue123
  g3 := by kernel_rfl
  g4 := by kernel_rfl }
open Go.RowKit in
theorem Tryd.strings_TrimLeft_one (s : ByteArray) (c : UInt8) (hc : c.toNat < 128) (w : World) :
    Calls Tryd.prog 30 #[.string s, .string ⟨#[c]⟩] w fun e w' => e = .returned (.string ⟨(Lib.trimLeftB s.data.toList c).toArray⟩) ∧ w' = w := Any.strings_TrimLeft_one Tryd.lays161 s c hc w
def Tryd.lays162_ren : Go.Shelf.Ren := ⟨fun | 162 => 29 | 232 => 44 | 227 => 45 | 234 => 46 | 236 => 47 | 228 => 60 | 271 => 61 | 151 => 62 | 120 => 76 | 197 => 63 | 152 => 77 | 260 => 78 | 137 => 89 | 119 => 90 | 224 => 74 | 225 => 73 | 217 => 72 | 266 => 87 | n => n, fun | 9 => 9 | 4 => 4 | 3 => 3 | 5 => 5 | 117 => 75 | 116 => 74 | 0 => 0 | 124 => 78 | 21 => 21 | 105 => 94 | 46 => 79 | 119 => 120 | 139 => 123 | 138 => 122 | n => n, fun | 3 => 2 | 4 => 3 | n => n⟩
theorem Tryd.lays162 : Go.Proofs.Lays.n162 Tryd.prog Tryd.lays162_ren := {
  mixed := by kernel_rfl
  f119 := Tryd.func90.trans (congrArg some (by kernel_rfl))
  f120 := Tryd.func76.trans (congrArg some (by kernel_rfl))
  f137 := Tryd.func89.trans (congrArg some (by kernel_rfl))
  f151 := Tryd.func62.trans (congrArg some (by kernel_rfl))
  f152 := Tryd.func77.trans (congrArg some (by kernel_rfl))
  f162 := Tryd.func29.trans (congrArg some (by kernel_rfl))
  f197 := Tryd.func63.trans (congrArg some (by kernel_rfl))
  f217 := Tryd.func72.trans (congrArg some (by kernel_rfl))
  f224 := Tryd.func74.trans (congrArg some (by kernel_rfl))
  f225 := Tryd.func73.trans (congrArg some (by kernel_rfl))
  f227 := Tryd.func45.trans (congrArg some (by kernel_rfl))
  f228 := Tryd.func60.trans (congrArg some (by kernel_rfl))
  f232 := Tryd.func44.trans (congrArg some (by kernel_rfl))
  f234 := Tryd.func46.trans (congrArg some (by kernel_rfl))
  f236 := Tryd.func47.trans (congrArg some (by kernel_rfl))
  f260 := Tryd.func78.trans (congrArg some (by kernel_rfl))
  f266 := Tryd.func87.trans (congrArg some (by kernel_rfl))
  f271 := Tryd.func61.trans (congrArg some (by kernel_rfl))
  t0 := Tryd.underlying0
  a0 := Tryd.isAgg0
  z0 := Tryd.sizeOf0
  v0 := Tryd.zeroValue0
  t3 := Tryd.underlying3
  a3 := Tryd.isAgg3
  z3 := Tryd.sizeOf3
  v3 := Tryd.zeroValue3
  t4 := Tryd.underlying4
  a4 := Tryd.isAgg4
  z4 := Tryd.sizeOf4
  v4 := Tryd.zeroValue4
  t5 := Tryd.underlying5
  a5 := Tryd.isAgg5
  z5 := Tryd.sizeOf5
  v5 := Tryd.zeroValue5
  t9 := Tryd.underlying9
  a9 := Tryd.isAgg9
  z9 := Tryd.sizeOf9
  v9 := Tryd.zeroValue9
  t21 := Tryd.underlying21
  a21 := Tryd.isAgg21
  z21 := Tryd.sizeOf21
  v21 := Tryd.zeroValue21
  t46 := Tryd.underlying79
  a46 := Tryd.isAgg79
  z46 := Tryd.sizeOf79
  v46 := Tryd.zeroValue79
  t105 := Tryd.underlying94
  a105 := Tryd.isAgg94
  z105 := Tryd.sizeOf94
  v105 := Tryd.zeroValue94
  t116 := Tryd.underlying74
  a116 := Tryd.isAgg74
  z116 := Tryd.sizeOf74
  t117 := Tryd.underlying75
  a117 := Tryd.isAgg75
  z117 := Tryd.sizeOf75
  v117 := Tryd.zeroValue75
  t119 := Tryd.underlying120
  a119 := Tryd.isAgg120
  z119 := Tryd.sizeOf120
  t124 := Tryd.underlying78
  a124 := Tryd.isAgg78
  z124 := Tryd.sizeOf78
  v124 := Tryd.zeroValue78
  t138 := Tryd.underlying122
  a138 := Tryd.isAgg122
  z138 := Tryd.sizeOf122
  v138 := Tryd.zeroValue122
  t139 := Tryd.underlying123
  a139 := Tryd.isAgg123
  z139 := Tryd.sizeOf123
  v139 := Tryd.zeroValue123
  g3 := by kernel_rfl
  g4 := by kernel_rfl }
open Go.RowKit in
theorem Tryd.strings_TrimRight_one (s : ByteArray) (c : UInt8) (hc : c.toNat < 128) (w : World) (hs : s.size ≤ 9223372036854775807) :
    Calls Tryd.prog 29 #[.string s, .string ⟨#[c]⟩] w fun e w' => e = .returned (.string ⟨(Lib.trimRightB s.data.toList c).toArray⟩) ∧ w' = w := Any.strings_TrimRight_one Tryd.lays162 s c hc w hs
def Tryd.lays106_ren : Go.Shelf.Ren := ⟨fun | 106 => 57 | 213 => 71 | 265 => 86 | n => n, fun | 9 => 9 | 3 => 3 | n => n, fun | n => n⟩
theorem Tryd.lays106 : Go.Proofs.Lays.n106 Tryd.prog Tryd.lays106_ren := {
  mixed := by kernel_rfl
  f106 := Tryd.func57.trans (congrArg some (by kernel_rfl))
  f213 := Tryd.func71.trans (congrArg some (by kernel_rfl))
  f265 := Tryd.func86.trans (congrArg some (by kernel_rfl))
  t3 := Tryd.underlying3
  a3 := Tryd.isAgg3
  z3 := Tryd.sizeOf3
  v3 := Tryd.zeroValue3
  t9 := Tryd.underlying9
  a9 := Tryd.isAgg9
  z9 := Tryd.sizeOf9
  v9 := Tryd.zeroValue9 }
open Go.RowKit in
theorem Tryd.strings_Compare (a b : ByteArray) (w : World) :
    Calls Tryd.prog 57 #[.string a, .string b] w fun e w' => e = .returned (.int .i64 (Lib.compareBytes a.data.toList b.data.toList)) ∧ w' = w := Any.strings_Compare Tryd.lays106 a b w
def Tryd.lays283_ren : Go.Shelf.Ren := ⟨fun | 283 => 64 | n => n, fun | 3 => 3 | 9 => 9 | 4 => 4 | n => n, fun | n => n⟩
theorem Tryd.lays283 : Go.Proofs.Lays.n283 Tryd.prog Tryd.lays283_ren := {
  mixed := by kernel_rfl
  f283 := Tryd.func64.trans (congrArg some (by kernel_rfl))
  t3 := Tryd.underlying3
  a3 := Tryd.isAgg3
  z3 := Tryd.sizeOf3
  v3 := Tryd.zeroValue3
  t4 := Tryd.underlying4
  a4 := Tryd.isAgg4
  z4 := Tryd.sizeOf4
  v4 := Tryd.zeroValue4
  t9 := Tryd.underlying9
  a9 := Tryd.isAgg9
  z9 := Tryd.sizeOf9
  v9 := Tryd.zeroValue9 }
open Go.Lib in
theorem Tryd.internal_strconv_small (i : Nat) (h : i < 100) (w : World) :
    Calls Tryd.prog 64 #[.int .i64 i] w fun e w' => e = .returned (.string ⟨(Lib.decDigits i).toArray⟩) ∧ w' = w := Any.internal_strconv_small Tryd.lays283 i h w
def Tryd.laysM284_ren : Go.Shelf.Ren := ⟨fun | 284 => 65 | 129 => 80 | 317 => 79 | 318 => 81 | n => n, fun | 53 => 22 | 3 => 3 | 212 => 111 | 0 => 0 | 4 => 4 | 46 => 79 | 5 => 5 | 9 => 9 | n => n, fun | 17 => 1 | n => n⟩
theorem Tryd.laysM284 : Go.Proofs.LaysM.n284 Tryd.prog Tryd.laysM284_ren := {
  mixed := by kernel_rfl
  f129 := Tryd.func80.trans (congrArg some (by kernel_rfl))
  f284 := Tryd.func65.trans (congrArg some (by kernel_rfl))
  f317 := Tryd.func79.trans (congrArg some (by kernel_rfl))
  f318 := Tryd.func81.trans (congrArg some (by kernel_rfl))
  t0 := Tryd.underlying0
  a0 := Tryd.isAgg0
  z0 := Tryd.sizeOf0
  v0 := Tryd.zeroValue0
  t3 := Tryd.underlying3
  a3 := Tryd.isAgg3
  z3 := Tryd.sizeOf3
  v3 := Tryd.zeroValue3
  t4 := Tryd.underlying4
  a4 := Tryd.isAgg4
  z4 := Tryd.sizeOf4
  v4 := Tryd.zeroValue4
  t5 := Tryd.underlying5
  a5 := Tryd.isAgg5
  z5 := Tryd.sizeOf5
  v5 := Tryd.zeroValue5
  t9 := Tryd.underlying9
  a9 := Tryd.isAgg9
  z9 := Tryd.sizeOf9
  v9 := Tryd.zeroValue9
  t46 := Tryd.underlying79
  a46 := Tryd.isAgg79
  z46 := Tryd.sizeOf79
  v46 := Tryd.zeroValue79
  t53 := Tryd.underlying22
  a53 := Tryd.isAgg22
  z53 := Tryd.sizeOf22
  v53 := Tryd.zeroValue22
  t212 := Tryd.underlying111
  a212 := Tryd.isAgg111
  z212 := Tryd.sizeOf111
  v212 := Tryd.zeroValue111
  g17 := by kernel_rfl
  i0 := by kernel_rfl
  i3 := by kernel_rfl
  i4 := by kernel_rfl
  i5 := by kernel_rfl
  i9 := by kernel_rfl
  i46 := by kernel_rfl
  i53 := by kernel_rfl
  i212 := by kernel_rfl
  m17 := by kernel_rfl }
open Go.Lib in
theorem Tryd.internal_strconv_numDigits (u : Nat) (h1 : 1 ≤ u) (h2 : u < 18446744073709551616) (w : World) (htab : Lib.TabIs Tryd.prog w "internal/strconv.uint64pow10" .u64 Lib.pow10Tab) :
    Calls Tryd.prog 65 #[.int .u64 u] w fun e w' => e = .returned (.int .i64 (Lib.nDigits u)) ∧ w' = w := Any.internal_strconv_numDigits Tryd.laysM284 u h1 h2 w htab
def Tryd.lays285_ren : Go.Shelf.Ren := ⟨fun | 285 => 66 | n => n, fun | 37 => 83 | 53 => 22 | 3 => 3 | 4 => 4 | 51 => 103 | 9 => 9 | 5 => 5 | 0 => 0 | n => n, fun | n => n⟩
theorem Tryd.lays285 : Go.Proofs.Lays.n285 Tryd.prog Tryd.lays285_ren := {
  mixed := by kernel_rfl
  f285 := Tryd.func66.trans (congrArg some (by kernel_rfl))
  t0 := Tryd.underlying0
  a0 := Tryd.isAgg0
  z0 := Tryd.sizeOf0
  v0 := Tryd.zeroValue0
  t3 := Tryd.underlying3
  a3 := Tryd.isAgg3
  z3 := Tryd.sizeOf3
  v3 := Tryd.zeroValue3
  t4 := Tryd.underlying4
  a4 := Tryd.isAgg4
  z4 := Tryd.sizeOf4
  v4 := Tryd.zeroValue4
  t5 := Tryd.underlying5
  a5 := Tryd.isAgg5
  z5 := Tryd.sizeOf5
  v5 := Tryd.zeroValue5
  t9 := Tryd.underlying9
  a9 := Tryd.isAgg9
  z9 := Tryd.sizeOf9
  v9 := Tryd.zeroValue9
  t37 := Tryd.underlying83
  a37 := Tryd.isAgg83
  z37 := Tryd.sizeOf83
  v37 := Tryd.zeroValue83
  t51 := Tryd.underlying103
  a51 := Tryd.isAgg103
  z51 := Tryd.sizeOf103
  v51 := Tryd.zeroValue103
  t53 := Tryd.underlying22
  a53 := Tryd.isAgg22
  z53 := Tryd.sizeOf22
  v53 := Tryd.zeroValue22 }
open Go.RowKit Go.Sort Go.Lib in
theorem Tryd.internal_strconv_formatBase10 (blk off cap : Nat) (u : Nat) (d : Array UInt8) (w : World) (hH : Holds (fun (b : UInt8) => Value.int .u8 (b.toNat : Int)) w blk off d) (hu : u < 10 ^ d.size) (hu64 : u < 18446744073709551616) (hsz : d.size < 4611686018427387904) :
    Calls Tryd.prog 66 #[.slice (some ⟨blk, off, none⟩) d.size cap, .int .u64 u] w fun e w' =>
      e = .returned (.tuple #[]) ∧ ∃ (n v' : Nat) (dk : Array UInt8), w' = (putRow (fun (b : UInt8) => Value.int .u8 (b.toNat : Int)) w blk off dk).drewN n ∧ FmtInv d.size u 0 v' dk := Any.internal_strconv_formatBase10 Tryd.lays285 blk off cap u d w hH hu hu64 hsz
def Tryd.lays219_ren : Go.Shelf.Ren := ⟨fun | 219 => 59 | 217 => 72 | 225 => 73 | 224 => 74 | 267 => 75 | 266 => 87 | 314 => 88 | n => n, fun | 9 => 9 | 3 => 3 | 4 => 4 | 5 => 5 | 46 => 79 | 146 => 104 | 51 => 103 | n => n, fun | 1 => 0 | n => n⟩
theorem Tryd.lays219 : Go.Proofs.Lays.n219 Tryd.prog Tryd.lays219_ren := {
  mixed := by kernel_rfl
  f217 := Tryd.func72.trans (congrArg some (by kernel_rfl))
  f219 := Tryd.func59.trans (congrArg some (by kernel_rfl))
  f224 := Tryd.func74.trans (congrArg some (by kernel_rfl))
  f225 := Tryd.func73.trans (congrArg some (by kernel_rfl))
  f266 := Tryd.func87.trans (congrArg some (by kernel_rfl))
  f267 := Tryd.func75.trans (congrArg some (by kernel_rfl))
  f314 := Tryd.func88.trans (congrArg some (by kernel_rfl))
  t3 := Tryd.underlying3
  a3 := Tryd.isAgg3
  z3 := Tryd.sizeOf3
  v3 := Tryd.zeroValue3
  t4 := Tryd.underlying4
  a4 := Tryd.isAgg4
  z4 := Tryd.sizeOf4
  v4 := Tryd.zeroValue4
  t5 := Tryd.underlying5
  a5 := Tryd.isAgg5
  z5 := Tryd.sizeOf5
  v5 := Tryd.zeroValue5
  t9 := Tryd.underlying9
  a9 := Tryd.isAgg9
  z9 := Tryd.sizeOf9
  v9 := Tryd.zeroValue9
  t46 := Tryd.underlying79
  a46 := Tryd.isAgg79
  z46 := Tryd.sizeOf79
  v46 := Tryd.zeroValue79
  t51 := Tryd.underlying103
  a51 := Tryd.isAgg103
  z51 := Tryd.sizeOf103
  v51 := Tryd.zeroValue103
  t146 := Tryd.underlying104
  a146 := Tryd.isAgg104
  z146 := Tryd.sizeOf104
  v146 := Tryd.zeroValue104
  g1 := by kernel_rfl }
open Go.RowKit Go.Lib in
theorem Tryd.stringslite_Index_one (s : ByteArray) (c : UInt8) (w : World) :
    Calls Tryd.prog 59 #[.string s, .string ⟨#[c]⟩] w fun e w' => e = .returned (.int .i64 (Lib.indexByte s.data.toList c)) ∧ w' = w := Any.stringslite_Index_one Tryd.lays219 s c w
def Tryd.lays264_ren : Go.Shelf.Ren := ⟨fun | 264 => 36 | n => n, fun | 53 => 22 | 46 => 79 | n => n, fun | n => n⟩
theorem Tryd.lays264 : Go.Proofs.Lays.n264 Tryd.prog Tryd.lays264_ren := {
  mixed := by kernel_rfl
  f264 := Tryd.func36.trans (congrArg some (by kernel_rfl))
  t46 := Tryd.underlying79
  a46 := Tryd.isAgg79
  z46 := Tryd.sizeOf79
  v46 := Tryd.zeroValue79
  t53 := Tryd.underlying22
  a53 := Tryd.isAgg22
  z53 := Tryd.sizeOf22
  v53 := Tryd.zeroValue22 }
open Go.RowKit Go.Lib in
theorem Tryd.bits_Mul64 (x y : Nat) (hx : x < 18446744073709551616) (hy : y < 18446744073709551616) (w : World) :
    Calls Tryd.prog 36 #[.int .u64 x, .int .u64 y] w fun e w' => e = .returned (.tuple #[.int .u64 ((x * y / 18446744073709551616 : Nat) : Int), .int .u64 ((x * y % 18446744073709551616 : Nat) : Int)]) ∧ w' = w := Any.bits_Mul64 Tryd.lays264 x y hx hy w
def Tryd.lays105_ren : Go.Shelf.Ren := ⟨fun | 105 => 33 | 212 => 52 | 99 => 41 | 165 => 53 | 166 => 54 | 170 => 55 | 169 => 56 | 263 => 68 | 264 => 36 | 206 => 58 | 240 => 69 | 241 => 70 | 276 => 84 | 277 => 85 | n => n, fun | 9 => 9 | 3 => 3 | 4 => 4 | 20 => 20 | 0 => 0 | 46 => 79 | 109 => 80 | 5 => 5 | 72 => 85 | 76 => 89 | 51 => 103 | 146 => 104 | 53 => 22 | 148 => 67 | 70 => 82 | 37 => 83 | 75 => 88 | 127 => 106 | 164 => 115 | 80 => 92 | n => n, fun | n => n⟩
theorem Tryd.lays105 : Go.Proofs.Lays.n105 Tryd.prog Tryd.lays105_ren := {
  mixed := by kernel_rfl
  f99 := Tryd.func41.trans (congrArg some (by kernel_rfl))
  f105 := Tryd.func33.trans (congrArg some (by kernel_rfl))
  f165 := Tryd.func53.trans (congrArg some (by kernel_rfl))
  f166 := Tryd.func54.trans (congrArg some (by kernel_rfl))
  f169 := Tryd.func56.trans (congrArg some (by kernel_rfl))
  f170 := Tryd.func55.trans (congrArg some (by kernel_rfl))
  f206 := Tryd.func58.trans (congrArg some (by kernel_rfl))
  f212 := Tryd.func52.trans (congrArg some (by kernel_rfl))
  f240 := Tryd.func69.trans (congrArg some (by kernel_rfl))
  f241 := Tryd.func70.trans (congrArg some (by kernel_rfl))
  f263 := Tryd.func68.trans (congrArg some (by kernel_rfl))
  f264 := Tryd.func36.trans (congrArg some (by kernel_rfl))
  f276 := Tryd.func84.trans (congrArg some (by kernel_rfl))
  f277 := Tryd.func85.trans (congrArg some (by kernel_rfl))
  t0 := Tryd.underlying0
  a0 := Tryd.isAgg0
  z0 := Tryd.sizeOf0
  v0 := Tryd.zeroValue0
  t3 := Tryd.underlying3
  a3 := Tryd.isAgg3
  z3 := Tryd.sizeOf3
  v3 := Tryd.zeroValue3
  t4 := Tryd.underlying4
  a4 := Tryd.isAgg4
  z4 := Tryd.sizeOf4
  v4 := Tryd.zeroValue4
  t5 := Tryd.underlying5
  a5 := Tryd.isAgg5
  z5 := Tryd.sizeOf5
  v5 := Tryd.zeroValue5
  t9 := Tryd.underlying9
  a9 := Tryd.isAgg9
  z9 := Tryd.sizeOf9
  v9 := Tryd.zeroValue9
  t20 := Tryd.underlying20
  a20 := Tryd.isAgg20
  z20 := Tryd.sizeOf20
  v20 := Tryd.zeroValue20
  t37 := Tryd.underlying83
  a37 := Tryd.isAgg83
  z37 := Tryd.sizeOf83
  v37 := Tryd.zeroValue83
  t46 := Tryd.underlying79
  a46 := Tryd.isAgg79
  z46 := Tryd.sizeOf79
  v46 := Tryd.zeroValue79
  t51 := Tryd.underlying103
  a51 := Tryd.isAgg103
  z51 := Tryd.sizeOf103
  v51 := Tryd.zeroValue103
  t53 := Tryd.underlying22
  a53 := Tryd.isAgg22
  z53 := Tryd.sizeOf22
  v53 := Tryd.zeroValue22
  t70 := Tryd.underlying82
  a70 := Tryd.isAgg82
  z70 := Tryd.sizeOf82
  v70 := Tryd.zeroValue82
  t72 := Tryd.underlying85
  a72 := Tryd.isAgg85
  z72 := Tryd.sizeOf85
  v72 := Tryd.zeroValue85
  t75 := Tryd.underlying88
  a75 := Tryd.isAgg88
  z75 := Tryd.sizeOf88
  v75 := Tryd.zeroValue88
  t76 := Tryd.underlying89
  a76 := Tryd.isAgg89
  z76 := Tryd.sizeOf89
  v76 := Tryd.zeroValue89
  t109 := Tryd.underlying80
  a109 := Tryd.isAgg80
  z109 := Tryd.sizeOf80
  v109 := Tryd.zeroValue80
  t127 := Tryd.underlying106
  a127 := Tryd.isAgg106
  z127 := Tryd.sizeOf106
  v127 := Tryd.zeroValue106
  t146 := Tryd.underlying104
  a146 := Tryd.isAgg104
  z146 := Tryd.sizeOf104
  v146 := Tryd.zeroValue104
  t148 := Tryd.underlying67
  a148 := Tryd.isAgg67
  z148 := Tryd.sizeOf67
  v148 := Tryd.zeroValue67
  t164 := Tryd.underlying115
  a164 := Tryd.isAgg115
  z164 := Tryd.sizeOf115
  v164 := Tryd.zeroValue115 }
theorem Tryd.Builder_Extra_105 : Builder.Extra Tryd.prog Tryd.lays105_ren := {
  sizeBuilder := by kernel_rfl
  liesBuilder := by kernel_rfl
  t5 := Tryd.underlying5
  a5 := Tryd.isAgg5
  z5 := Tryd.sizeOf5
  v5 := Tryd.zeroValue5
  infoByte := by kernel_rfl
  cellsByte := by kernel_rfl
  sizeByte := by kernel_rfl
  neB5 := by decide }
open Go.RowKit Go.Lib in
theorem Tryd.strings_Repeat (s : ByteArray) (c : Nat) (w : World) (hc : c ≤ 9223372036854775807) (hlen : s.size * c ≤ 140737488355328) :
    Calls Tryd.prog 33 #[.string s, .int .i64 c] w fun e w' => e = .returned (.string ⟨(Lib.repeatL s.data.toList c).toArray⟩) ∧ Below w.heap.size w w' := Any.strings_Repeat Tryd.lays105 Tryd.Builder_Extra_105 s c w hc hlen
end Go.Proofs
set_option linter.unusedVariables false
set_option linter.unusedSimpArgs false
namespace Go.Proofs
open Go.RowKit Go.Sort Go.Lib
set_option maxHeartbeats 6400000 in
set_option maxRecDepth 100000 in
theorem Tryd.internal_strconv_FormatUint_10 (u : Nat) (hu64 : u < 18446744073709551616) (w : World) (htab : Lib.TabIs Tryd.prog w "internal/strconv.uint64pow10" .u64 Lib.pow10Tab) :
    Calls Tryd.prog 51 #[.int .u64 u, .int .i64 10] w fun e w' => e = .returned (.string ⟨(Lib.decDigits u).toArray⟩) ∧ ∃ k os, w' = grow (w.drewN k) os := by
  have mixed : Tryd.prog.follows .mixedOrders := by kernel_rfl
  have e283 : ∀ args w, (callFunc 64 args).run Tryd.prog w = .ok (.enter 64 args) w := enters_of Tryd.func64 (by kernel_rfl) rfl
  have e284 : ∀ args w, (callFunc 65 args).run Tryd.prog w = .ok (.enter 65 args) w := enters_of Tryd.func65 (by kernel_rfl) rfl
  have e285 : ∀ args w, (callFunc 66 args).run Tryd.prog w = .ok (.enter 66 args) w := enters_of Tryd.func66 (by kernel_rfl) rfl
  by_cases hs : u < 100
  · have hcv : IntKind.wrap .i64 (u : Int) = u := by rw [IntKind.wrap_i64]; omega
    go_enter Tryd.func51, Tryd.ntmps51
    go_wp2_with (go_at_fn 64; refine (Tryd.internal_strconv_small u hs _).mono ?_; rintro e w' ⟨rfl, rfl⟩)
    go_ret
    exact ⟨rfl, 0, #[], by simp [World.drewN_zero]⟩
  · have hu1 : 1 ≤ u := by omega
    have hnd20 : Lib.nDigits u ≤ 20 := by have := Lib.numDigits_eq u hu1 hu64; split at this <;> omega
    have hb3 : Lib.nDigits u ≤ 24 := by omega
    have hal : Tryd.prog.arrayLen 98 = 24 := by simp [Program.arrayLen, Tryd.underlying98]
    have hsl1 : ∀ W, (Instr.sliceAt 98 (.pointer (some ⟨w.heap.size, 0, none⟩)) none (some (.int .i64 (Lib.nDigits u : Int))) none).run Tryd.prog W = .ok (.slice (some ⟨w.heap.size, 0, none⟩) (Lib.nDigits u) 24) W := fun W => by
      rw [run_sliceAt_array_h W 98 ⟨w.heap.size, 0, none⟩ (by simp [Program.arrayLen, Program.elem, Tryd.underlying98]) .i64 (Lib.nDigits u : Int) (by omega) (by rw [hal]; omega)]
      go_simp
      all_goals omega
    have hH0 := Lib.holds_zero0 w 98 (Lib.nDigits u) (by omega)
    have hfmt := Tryd.internal_strconv_formatBase10 w.heap.size 0 24 u (Array.replicate (Lib.nDigits u) 0) (w.alloc (.cells Lib.zeros24 98)) hH0 (by rw [Array.size_replicate]; exact Lib.lt_pow_nDigits u) hu64 (by rw [Array.size_replicate]; omega)
    rw [Array.size_replicate] at hfmt
    have HH0 := Lib.hid hH0
    clear hH0 hal
    go_enter Tryd.func51, Tryd.ntmps51
    go_wp2_with (first
      | (go_at_fn 65; refine (Tryd.internal_strconv_numDigits u hu1 hu64 _ (Lib.tabIs_alloc htab _)).mono ?_; rintro e w' ⟨rfl, rfl⟩))
    go_at_fn 66
    refine hfmt.mono ?_
    rintro e w' ⟨rfl, k, v', dk, rfl, hF⟩
    have hcv : (convert 83 9 (.slice (some ⟨w.heap.size, 0, none⟩) (Lib.nDigits u) 24)).run Tryd.prog ((putRow (fun (b : UInt8) => Value.int .u8 (b.toNat : Int)) (w.alloc (.cells Lib.zeros24 98)) w.heap.size 0 dk).drewN k) = .ok (.string ⟨(Lib.decDigits u).toArray⟩) ((putRow (fun (b : UInt8) => Value.int .u8 (b.toNat : Int)) (w.alloc (.cells Lib.zeros24 98)) w.heap.size 0 dk).drewN k) := by
      have h := run_convert_bytes_back (P := Tryd.prog) ((putRow (fun (b : UInt8) => Value.int .u8 (b.toNat : Int)) (w.alloc (.cells Lib.zeros24 98)) w.heap.size 0 dk).drewN k) 83 9 5 ⟨w.heap.size, 0, none⟩ 24 (Lib.decDigits u) Tryd.underlying83 Tryd.underlying5 Tryd.underlying9 (fun j hj => by
        rw [Lib.row_is_numeral hF j hj, Lib.add_plain, World.cell?_drewN]
        exact cell?_putRow (fun (b : UInt8) => Value.int .u8 (b.toNat : Int)) _ w.heap.size 0 _ dk HH0.out (by rw [hF.size, Array.size_replicate]) j (by rw [hF.size]; rw [Lib.decDigits_length] at hj; exact hj))
      rw [Lib.decDigits_length] at h
      exact h
    go_wp2
    go_ret
    obtain ⟨os, eo⟩ := Lib.fin_at w (.cells Lib.zeros24 98) dk k 0
    exact ⟨rfl, k, os, eo⟩
set_option maxRecDepth 100000 in
theorem Tryd.strconv_FormatUint_10 (u : Nat) (hu64 : u < 18446744073709551616) (w : World) (htab : Lib.TabIs Tryd.prog w "internal/strconv.uint64pow10" .u64 Lib.pow10Tab) :
    Calls Tryd.prog 32 #[.int .u64 u, .int .i64 10] w fun e w' => e = .returned (.string ⟨(Lib.decDigits u).toArray⟩) ∧ ∃ k os, w' = grow (w.drewN k) os := by
  have e51 : ∀ args w, (callFunc 51 args).run Tryd.prog w = .ok (.enter 51 args) w := enters_of Tryd.func51 (by kernel_rfl) rfl
  go_enter Tryd.func32, Tryd.ntmps32
  go_wp2_with (go_at_fn 51; refine (Tryd.internal_strconv_FormatUint_10 u hu64 _ htab).mono ?_; rintro e w' ⟨rfl, k, os, rfl⟩)
  go_ret
  exact ⟨rfl, k, os, rfl⟩
end Go.Proofs
set_option linter.unusedVariables false
set_option maxRecDepth 100000
namespace Go.AM
open Go.Proofs Go.RowKit
open Go.Proofs.YtckofkijjcbcoaaDoor
def SI : World → Prop := LaidI Tryd.prog Rows.decNormalsRow.laid
def SW : World → Prop := WOf SI
theorem swTab {w : World} (h : SW w) : Lib.TabIs Tryd.prog w (Rows.decNormalsRow.laid.getD 2 ("", .nil)).1 .u64 Lib.pow10Tab := by
  obtain ⟨w0, h1, h2, h3⟩ := h
  exact tab_on (laid_tab h1 (by kernel_rfl) 2 (by kernel_rfl) (g := 1) (by kernel_rfl) (by kernel_rfl) Tryd.underlying111 Tryd.underlying22 (by kernel_rfl) (by kernel_rfl)) h2 h3
theorem mixed : Tryd.prog.follows .mixedOrders = true := by kernel_rfl
def tab : Tree TI := .node 32 (.node 22 (.node 5 (.node 4 (.one 3 ⟨.int .i64, 1, 8, false, [(.int .i64 (0 : Int))], some (.int .i64), false⟩) (.one 4 ⟨.bool, 1, 1, false, [(.bool false)], some .bool, false⟩)) (.node 9 (.one 5 ⟨.int .u8, 1, 1, false, [(.int .u8 (0 : Int))], some .u8, false⟩) (.one 9 ⟨.str, 1, 16, false, [(.str [])], some .str, false⟩))) (.node 25 (.node 24 (.one 22 ⟨.int .u64, 1, 8, false, [(.int .u64 (0 : Int))], some (.int .u64), false⟩) (.one 24 ⟨.struct [(0, 4), (1, 22), (2, 3)], 3, 24, true, [(.bool false), (.int .u64 (0 : Int)), (.int .i64 (0 : Int))], some (.agg [.bool, (.int .u64), (.int .i64)]), true⟩)) (.node 26 (.one 25 ⟨.int .i64, 1, 8, false, [(.int .i64 (0 : Int))], some (.int .i64), false⟩) (.node 29 (.one 26 ⟨.other, 1, 0, false, [.any], none, false⟩) (.one 29 ⟨.func, 1, 8, false, [.nilfn], none, false⟩))))) (.node 55 (.node 36 (.node 33 (.one 32 ⟨.struct [(0, 25), (1, 3)], 2, 16, true, [(.int .i64 (0 : Int)), (.int .i64 (0 : Int))], some (.agg [(.int .i64), (.int .i64)]), true⟩) (.one 33 ⟨.other, 1, 0, false, [.any], none, false⟩)) (.node 40 (.one 36 ⟨.other, 1, 0, false, [.any], none, false⟩) (.node 53 (.one 40 ⟨.other, 1, 0, false, [.any], none, false⟩) (.one 53 ⟨.other, 1, 0, false, [.any], none, false⟩)))) (.node 60 (.node 58 (.one 55 ⟨.other, 1, 0, false, [.any], none, false⟩) (.one 58 ⟨.other, 1, 0, false, [.any], none, false⟩)) (.node 66 (.one 60 ⟨.other, 1, 0, false, [.any], none, false⟩) (.node 67 (.one 66 ⟨.arr 2 24, 6, 48, true, [(.bool false), (.int .u64 (0 : Int)), (.int .i64 (0 : Int)), (.bool false), (.int .u64 (0 : Int)), (.int .i64 (0 : Int))], some (.agg [(.agg [.bool, (.int .u64), (.int .i64)]), (.agg [.bool, (.int .u64), (.int .i64)])]), false⟩) (.one 67 ⟨.other, 1, 0, false, [.any], none, false⟩)))))
theorem tab_ok : tab.all (tiOK Tryd.prog) = true := by kernel_rfl
theorem ok36 (n : Nat) : FnOK Tryd.prog SW 36 [(.int .u64), (.int .u64)] (.many [(.int .u64), (.int .u64)]) (fun x => O.mul64 n x.1 x.2.1) := mul64_ok (enters Tryd.func36 (by kernel_rfl) (by decide)) Tryd.bits_Mul64 n
theorem ok37 (n : Nat) : FnOK Tryd.prog SW 37 [(.int .u64), (.int .u64), (.int .u64)] (.many [(.int .u64), (.int .u64)]) (fun x => O.add64 n x.1 x.2.1 x.2.2.1) := add64_ok (fun x y c hx hy hc w => by rw [run_callFunc_extern Tryd.func37 (by kernel_rfl) (by kernel_rfl) (by kernel_rfl) (e := Go.add64Entry) (by kernel_rfl), Go.run_add64 x y c (by omega) (by omega) (by omega) (by omega)]; simp only [Result.andThen]; congr 5 <;> omega) n
noncomputable def cx24 (X : Type) (n : Nat) : Cx X := mkCx tab.get [(24, Tryd.f24)] [(36, orcOf [(.int .u64), (.int .u64)] (.many [(.int .u64), (.int .u64)]) (fun x => O.mul64 n x.1 x.2.1)), (37, orcOf [(.int .u64), (.int .u64), (.int .u64)] (.many [(.int .u64), (.int .u64)]) (fun x => O.add64 n x.1 x.2.1 x.2.2.1))] [] [] [] []
theorem cx24_ok (X : Type) (n : Nat) : CxOK Tryd.prog SW (cx24 X n) := mkCx_ok mixed (tabOK tab_ok) ⟨⟨Tryd.func24, by decide⟩, trivial⟩ ⟨orcOf_ok (ok36 n),
  orcOf_ok (ok37 n), trivial⟩ ⟨okC_mk rfl (by kernel_rfl) (castP (by kernel_rfl) (show True from trivial)) (castP (by kernel_rfl) (show True from trivial)), trivial⟩ trivial
theorem ok24 (n : Nat) : FnOK Tryd.prog SW 24 [(.int .u64), (.int .u64)] (.many [(.int .u64), .bool]) (fun x => F.dec_times n x.1 x.2.1) := fnOK_of WOf.st (cx24_ok _ n) (d := 8) (fun x => by kernel_rfl)
def F.dec_Normal.L3.head : Shape := ⟨[(1, (.const (.ref 0 0))), (2, (.const (.ref 1 0)))], [[.bool, (.int .u64), (.int .i64)], [.bool, (.int .u64), (.int .i64)]], [], [], [], 2, 0, 0⟩
def F.dec_Normal.L3.e0 : Shape := ⟨[(1, (.const (.ref 0 0))), (2, (.const (.ref 1 0)))], [[.bool, (.int .u64), (.int .i64)], [.bool, (.int .u64), (.int .i64)]], [], [], [], 2, 0, 0⟩
noncomputable def F.dec_Normal.L3.f {X : Type} (n m : Nat) (ks : Ks X) (s : F.dec_Normal.L3.head.den) : Option X := F.dec_Normal.L3 n (fun qb0_0 qb0_1 qb0_2 qb1_0 qb1_1 qb1_2 => ks.ex 0 (F.dec_Normal.L3.e0.e (((), (), ()), ((qb0_0, qb0_1, qb0_2, ()), (qb1_0, qb1_1, qb1_2, ()), ()), (), ())) (F.dec_Normal.L3.e0.h (((), (), ()), ((qb0_0, qb0_1, qb0_2, ()), (qb1_0, qb1_1, qb1_2, ()), ()), (), ()))) m s.2.1.1.1 s.2.1.1.2.1 s.2.1.1.2.2.1 s.2.1.2.1.1 s.2.1.2.1.2.1 s.2.1.2.1.2.2.1
noncomputable def F.dec_Normal.L3.li (X : Type) (n : Nat) : LoopI X := ⟨8, ⟨0, 0, 0⟩, F.dec_Normal.L3.head, [(0, F.dec_Normal.L3.e0)], none, F.dec_Normal.L3.f n n⟩
def F.dec_Normal.L5.head : Shape := ⟨[(1, (.const (.ref 0 0))), (2, (.const (.ref 1 0)))], [[.bool, (.int .u64), (.int .i64)], [.bool, (.int .u64), (.int .i64)]], [], [], [], 2, 0, 0⟩
def F.dec_Normal.L5.e2 : Shape := ⟨[(1, (.const (.ref 0 0))), (2, (.const (.ref 1 0)))], [[.bool, (.int .u64), (.int .i64)], [.bool, (.int .u64), (.int .i64)]], [], [], [], 2, 0, 0⟩
def F.dec_Normal.L5.er : Shape := ⟨[(2, (.const (.ref 1 0))), (3, (.int .i64))], [[.bool, (.int .u64), (.int .i64)], [.bool, (.int .u64), (.int .i64)]], [], [], [], 2, 0, 0⟩
noncomputable def F.dec_Normal.L5.f {X : Type} (n m : Nat) (ks : Ks X) (s : F.dec_Normal.L5.head.den) : Option X := F.dec_Normal.L5 n (fun qb0_0 qb0_1 qb0_2 qb1_0 qb1_1 qb1_2 => ks.ex 2 (F.dec_Normal.L5.e2.e (((), (), ()), ((qb0_0, qb0_1, qb0_2, ()), (qb1_0, qb1_1, qb1_2, ()), ()), (), ())) (F.dec_Normal.L5.e2.h (((), (), ()), ((qb0_0, qb0_1, qb0_2, ()), (qb1_0, qb1_1, qb1_2, ()), ()), (), ()))) (fun q3 qb0_0 qb0_1 qb0_2 qb1_0 qb1_1 qb1_2 => ks.ret (F.dec_Normal.L5.er.e (((), q3, ()), ((qb0_0, qb0_1, qb0_2, ()), (qb1_0, qb1_1, qb1_2, ()), ()), (), ())) (F.dec_Normal.L5.er.h (((), q3, ()), ((qb0_0, qb0_1, qb0_2, ()), (qb1_0, qb1_1, qb1_2, ()), ()), (), ()))) m s.2.1.1.1 s.2.1.1.2.1 s.2.1.1.2.2.1 s.2.1.2.1.1 s.2.1.2.1.2.1 s.2.1.2.1.2.2.1
noncomputable def F.dec_Normal.L5.li (X : Type) (n : Nat) : LoopI X := ⟨8, ⟨0, 0, 0⟩, F.dec_Normal.L5.head, [(2, F.dec_Normal.L5.e2)], some F.dec_Normal.L5.er, F.dec_Normal.L5.f n n⟩
noncomputable def cx10 (X : Type) (n : Nat) : Cx X := mkCx tab.get [(10, Tryd.f10)] [(24, orcOf [(.int .u64), (.int .u64)] (.many [(.int .u64), .bool]) (fun x => F.dec_times n x.1 x.2.1))] [(10, 3, [F.dec_Normal.L3.li X n]), (10, 5, [F.dec_Normal.L5.li X n])] [] [] []
theorem F.dec_Normal.L3.ok (X : Type) (n : Nat) : LoopOK (cx10 X n) 10 Tryd.f10.ntmps (loopNo Tryd.f10 0) (F.dec_Normal.L3.li X n) :=
  ⟨F.dec_Normal.L3.f n, n, fun _ _ => rfl, fun _ _ => rfl, fun m ks s => by kernel_rfl⟩
theorem F.dec_Normal.L5.ok (X : Type) (n : Nat) : LoopOK (cx10 X n) 10 Tryd.f10.ntmps (loopNo Tryd.f10 1) (F.dec_Normal.L5.li X n) :=
  ⟨F.dec_Normal.L5.f n, n, fun _ _ => rfl, fun _ _ => rfl, fun m ks s => by kernel_rfl⟩
theorem cx10_ok (X : Type) (n : Nat) : CxOK Tryd.prog SW (cx10 X n) := mkCx_ok mixed (tabOK tab_ok) ⟨⟨Tryd.func10, by decide⟩, trivial⟩ ⟨orcOf_ok (ok24 n), trivial⟩ ⟨okC_mk rfl (by kernel_rfl) (castP (by kernel_rfl) (show (LoopOK (cx10 X n) 10 Tryd.f10.ntmps (loopNo Tryd.f10 0) (F.dec_Normal.L3.li X n) ∧ True) ∧ (LoopOK (cx10 X n) 10 Tryd.f10.ntmps (loopNo Tryd.f10 1) (F.dec_Normal.L5.li X n) ∧ True) ∧ True from ⟨⟨F.dec_Normal.L3.ok X n, trivial⟩, ⟨F.dec_Normal.L5.ok X n, trivial⟩, trivial⟩)) (castP (by kernel_rfl) (show True from trivial)), trivial⟩ trivial
theorem ok10 (n : Nat) : FnOK Tryd.prog SW 10 [(.agg [.bool, (.int .u64), (.int .i64)])] (.many [(.agg [.bool, (.int .u64), (.int .i64)]), (.int .i64)]) (fun x => F.dec_Normal n x.1) := fnOK_of WOf.st (cx10_ok _ n) (d := 8) (fun x => by kernel_rfl)
noncomputable def cx23 (X : Type) (n : Nat) (m : Nat) : Cx X := mkCx tab.get [(23, Tryd.f23)] [(23, orcOf [(.int .u64)] (.one .str) (fun x => F.ref03_Digits.go n m x.1))] [] [] [] []
theorem cx23_ok (X : Type) (n : Nat) (m : Nat) (ih : FnOK Tryd.prog SW 23 [(.int .u64)] (.one .str) (fun x => F.ref03_Digits.go n m x.1)) : CxOK Tryd.prog SW (cx23 X n m) := mkCx_ok mixed (tabOK tab_ok) ⟨⟨Tryd.func23, by decide⟩, trivial⟩ ⟨orcOf_ok (ih), trivial⟩ ⟨okC_mk rfl (by kernel_rfl) (castP (by kernel_rfl) (show True from trivial)) (castP (by kernel_rfl) (show True from trivial)), trivial⟩ trivial
theorem ok23_go (n : Nat) : ∀ m : Nat, FnOK Tryd.prog SW 23 [(.int .u64)] (.one .str) (fun x => F.ref03_Digits.go n m x.1)
  | 0 => fun x y hy => by cases hy
  | m + 1 => fnOK_of WOf.st (cx23_ok _ n m (ok23_go n m)) (d := 8) (fun x => by kernel_rfl)
theorem ok23 (n : Nat) : FnOK Tryd.prog SW 23 [(.int .u64)] (.one .str) (fun x => F.ref03_Digits n x.1) := ok23_go n n
noncomputable def cx38 (X : Type) (n : Nat) : Cx X := mkCx tab.get [(38, Tryd.f38)] [] [] [] [] []
theorem cx38_ok (X : Type) (n : Nat) : CxOK Tryd.prog SW (cx38 X n) := mkCx_ok mixed (tabOK tab_ok) ⟨⟨Tryd.func38, by decide⟩, trivial⟩ trivial ⟨okC_mk rfl (by kernel_rfl) (castP (by kernel_rfl) (show True from trivial)) (castP (by kernel_rfl) (show True from trivial)), trivial⟩ trivial
theorem ok38 (n : Nat) : FnOK Tryd.prog SW 38 [.str] (.one .bool) (fun x => F.ref03_Fits n x.1) := fnOK_of WOf.st (cx38_ok _ n) (d := 8) (fun x => by kernel_rfl)
def F.ref03_Value.L3.head : Shape := ⟨[(0, .str), (3, (.int .u64)), (4, (.int .i64))], [], [], [], [], 0, 0, 0⟩
def F.ref03_Value.L3.e0 : Shape := ⟨[(3, (.int .u64))], [], [], [], [], 0, 0, 0⟩
noncomputable def F.ref03_Value.L3.f {X : Type} (n m : Nat) (ks : Ks X) (s : F.ref03_Value.L3.head.den) : Option X := F.ref03_Value.L3 n (fun q3 => ks.ex 0 (F.ref03_Value.L3.e0.e ((q3, ()), (), (), ())) (F.ref03_Value.L3.e0.h ((q3, ()), (), (), ()))) m s.1.1 s.1.2.1 s.1.2.2.1
noncomputable def F.ref03_Value.L3.li (X : Type) (n : Nat) : LoopI X := ⟨8, ⟨0, 0, 0⟩, F.ref03_Value.L3.head, [(0, F.ref03_Value.L3.e0)], none, F.ref03_Value.L3.f n n⟩
noncomputable def cx39 (X : Type) (n : Nat) : Cx X := mkCx tab.get [(39, Tryd.f39)] [] [(39, 3, [F.ref03_Value.L3.li X n])] [] [] []
theorem F.ref03_Value.L3.ok (X : Type) (n : Nat) : LoopOK (cx39 X n) 39 Tryd.f39.ntmps (loopNo Tryd.f39 0) (F.ref03_Value.L3.li X n) :=
  ⟨F.ref03_Value.L3.f n, n, fun _ _ => rfl, fun _ _ => rfl, fun m ks s => by kernel_rfl⟩
theorem cx39_ok (X : Type) (n : Nat) : CxOK Tryd.prog SW (cx39 X n) := mkCx_ok mixed (tabOK tab_ok) ⟨⟨Tryd.func39, by decide⟩, trivial⟩ trivial ⟨okC_mk rfl (by kernel_rfl) (castP (by kernel_rfl) (show (LoopOK (cx39 X n) 39 Tryd.f39.ntmps (loopNo Tryd.f39 0) (F.ref03_Value.L3.li X n) ∧ True) ∧ True from ⟨⟨F.ref03_Value.L3.ok X n, trivial⟩, trivial⟩)) (castP (by kernel_rfl) (show True from trivial)), trivial⟩ trivial
theorem ok39 (n : Nat) : FnOK Tryd.prog SW 39 [.str] (.one (.int .u64)) (fun x => F.ref03_Value n x.1) := fnOK_of WOf.st (cx39_ok _ n) (d := 8) (fun x => by kernel_rfl)
def F.ref03_Make.L1.head : Shape := ⟨[(0, .bool), (1, .str), (2, (.int .i64)), (6, (.const (.ref 0 0)))], [[.bool, (.int .u64), (.int .i64)]], [], [], [], 1, 0, 0⟩
def F.ref03_Make.L1.e0 : Shape := ⟨[(0, .bool), (1, .str), (2, (.int .i64)), (6, (.const (.ref 0 0)))], [[.bool, (.int .u64), (.int .i64)]], [], [], [], 1, 0, 0⟩
noncomputable def F.ref03_Make.L1.f {X : Type} (n m : Nat) (ks : Ks X) (s : F.ref03_Make.L1.head.den) : Option X := F.ref03_Make.L1 n (fun q0 q1 q2 qb0_0 qb0_1 qb0_2 => ks.ex 0 (F.ref03_Make.L1.e0.e ((q0, q1, q2, (), ()), ((qb0_0, qb0_1, qb0_2, ()), ()), (), ())) (F.ref03_Make.L1.e0.h ((q0, q1, q2, (), ()), ((qb0_0, qb0_1, qb0_2, ()), ()), (), ()))) m s.1.1 s.1.2.1 s.1.2.2.1 s.2.1.1.1 s.2.1.1.2.1 s.2.1.1.2.2.1
noncomputable def F.ref03_Make.L1.li (X : Type) (n : Nat) : LoopI X := ⟨8, ⟨0, 0, 0⟩, F.ref03_Make.L1.head, [(0, F.ref03_Make.L1.e0)], none, F.ref03_Make.L1.f n n⟩
def F.ref03_Make.L7.head : Shape := ⟨[(0, .bool), (1, .str), (2, (.int .i64)), (6, (.const (.ref 0 0)))], [[.bool, (.int .u64), (.int .i64)]], [], [], [], 1, 0, 0⟩
def F.ref03_Make.L7.e2 : Shape := ⟨[(0, .bool), (1, .str), (2, (.int .i64)), (6, (.const (.ref 0 0)))], [[.bool, (.int .u64), (.int .i64)]], [], [], [], 1, 0, 0⟩
noncomputable def F.ref03_Make.L7.f {X : Type} (n m : Nat) (ks : Ks X) (s : F.ref03_Make.L7.head.den) : Option X := F.ref03_Make.L7 n (fun q0 q1 q2 qb0_0 qb0_1 qb0_2 => ks.ex 2 (F.ref03_Make.L7.e2.e ((q0, q1, q2, (), ()), ((qb0_0, qb0_1, qb0_2, ()), ()), (), ())) (F.ref03_Make.L7.e2.h ((q0, q1, q2, (), ()), ((qb0_0, qb0_1, qb0_2, ()), ()), (), ()))) m s.1.1 s.1.2.1 s.1.2.2.1 s.2.1.1.1 s.2.1.1.2.1 s.2.1.1.2.2.1
noncomputable def F.ref03_Make.L7.li (X : Type) (n : Nat) : LoopI X := ⟨8, ⟨0, 0, 0⟩, F.ref03_Make.L7.head, [(2, F.ref03_Make.L7.e2)], none, F.ref03_Make.L7.f n n⟩
def F.ref03_Make.L10.head : Shape := ⟨[(0, .bool), (1, .str), (2, (.int .i64)), (6, (.const (.ref 0 0)))], [[.bool, (.int .u64), (.int .i64)]], [], [], [], 1, 0, 0⟩
def F.ref03_Make.L10.e4 : Shape := ⟨[(0, .bool), (1, .str), (2, (.int .i64)), (6, (.const (.ref 0 0)))], [[.bool, (.int .u64), (.int .i64)]], [], [], [], 1, 0, 0⟩
noncomputable def F.ref03_Make.L10.f {X : Type} (n m : Nat) (ks : Ks X) (s : F.ref03_Make.L10.head.den) : Option X := F.ref03_Make.L10 n (fun q0 q1 q2 qb0_0 qb0_1 qb0_2 => ks.ex 4 (F.ref03_Make.L10.e4.e ((q0, q1, q2, (), ()), ((qb0_0, qb0_1, qb0_2, ()), ()), (), ())) (F.ref03_Make.L10.e4.h ((q0, q1, q2, (), ()), ((qb0_0, qb0_1, qb0_2, ()), ()), (), ()))) m s.1.1 s.1.2.1 s.1.2.2.1 s.2.1.1.1 s.2.1.1.2.1 s.2.1.1.2.2.1
noncomputable def F.ref03_Make.L10.li (X : Type) (n : Nat) : LoopI X := ⟨8, ⟨0, 0, 0⟩, F.ref03_Make.L10.head, [(4, F.ref03_Make.L10.e4)], none, F.ref03_Make.L10.f n n⟩
noncomputable def cx25 (X : Type) (n : Nat) : Cx X := mkCx tab.get [(25, Tryd.f25)] [(38, orcOf [.str] (.one .bool) (fun x => F.ref03_Fits n x.1)), (39, orcOf [.str] (.one (.int .u64)) (fun x => F.ref03_Value n x.1))] [(25, 1, [F.ref03_Make.L1.li X n]), (25, 7, [F.ref03_Make.L7.li X n]), (25, 10, [F.ref03_Make.L10.li X n])] [] [] []
theorem F.ref03_Make.L1.ok (X : Type) (n : Nat) : LoopOK (cx25 X n) 25 Tryd.f25.ntmps (loopNo Tryd.f25 0) (F.ref03_Make.L1.li X n) :=
  ⟨F.ref03_Make.L1.f n, n, fun _ _ => rfl, fun _ _ => rfl, fun m ks s => by kernel_rfl⟩
theorem F.ref03_Make.L7.ok (X : Type) (n : Nat) : LoopOK (cx25 X n) 25 Tryd.f25.ntmps (loopNo Tryd.f25 1) (F.ref03_Make.L7.li X n) :=
  ⟨F.ref03_Make.L7.f n, n, fun _ _ => rfl, fun _ _ => rfl, fun m ks s => by kernel_rfl⟩
theorem F.ref03_Make.L10.ok (X : Type) (n : Nat) : LoopOK (cx25 X n) 25 Tryd.f25.ntmps (loopNo Tryd.f25 2) (F.ref03_Make.L10.li X n) :=
  ⟨F.ref03_Make.L10.f n, n, fun _ _ => rfl, fun _ _ => rfl, fun m ks s => by kernel_rfl⟩
theorem cx25_ok (X : Type) (n : Nat) : CxOK Tryd.prog SW (cx25 X n) := mkCx_ok mixed (tabOK tab_ok) ⟨⟨Tryd.func25, by decide⟩, trivial⟩ ⟨orcOf_ok (ok38 n),
  orcOf_ok (ok39 n), trivial⟩ ⟨okC_mk rfl (by kernel_rfl) (castP (by kernel_rfl) (show (LoopOK (cx25 X n) 25 Tryd.f25.ntmps (loopNo Tryd.f25 0) (F.ref03_Make.L1.li X n) ∧ True) ∧ (LoopOK (cx25 X n) 25 Tryd.f25.ntmps (loopNo Tryd.f25 1) (F.ref03_Make.L7.li X n) ∧ True) ∧ (LoopOK (cx25 X n) 25 Tryd.f25.ntmps (loopNo Tryd.f25 2) (F.ref03_Make.L10.li X n) ∧ True) ∧ True from ⟨⟨F.ref03_Make.L1.ok X n, trivial⟩, ⟨F.ref03_Make.L7.ok X n, trivial⟩, ⟨F.ref03_Make.L10.ok X n, trivial⟩, trivial⟩)) (castP (by kernel_rfl) (show True from trivial)), trivial⟩ trivial
theorem ok25 (n : Nat) : FnOK Tryd.prog SW 25 [.bool, .str, (.int .i64)] (.many [(.agg [.bool, (.int .u64), (.int .i64)]), .bool]) (fun x => F.ref03_Make n x.1 x.2.1 x.2.2.1) := fnOK_of WOf.st (cx25_ok _ n) (d := 8) (fun x => by kernel_rfl)
noncomputable def cx11 (X : Type) (n : Nat) : Cx X := mkCx tab.get [(11, Tryd.f11)] [(23, orcOf [(.int .u64)] (.one .str) (fun x => F.ref03_Digits n x.1)), (25, orcOf [.bool, .str, (.int .i64)] (.many [(.agg [.bool, (.int .u64), (.int .i64)]), .bool]) (fun x => F.ref03_Make n x.1 x.2.1 x.2.2.1))] [] [] [] []
theorem cx11_ok (X : Type) (n : Nat) : CxOK Tryd.prog SW (cx11 X n) := mkCx_ok mixed (tabOK tab_ok) ⟨⟨Tryd.func11, by decide⟩, trivial⟩ ⟨orcOf_ok (ok23 n),
  orcOf_ok (ok25 n), trivial⟩ ⟨okC_mk rfl (by kernel_rfl) (castP (by kernel_rfl) (show True from trivial)) (castP (by kernel_rfl) (show True from trivial)), trivial⟩ trivial
theorem ok11 (n : Nat) : FnOK Tryd.prog SW 11 [(.agg [.bool, (.int .u64), (.int .i64)])] (.many [(.agg [.bool, (.int .u64), (.int .i64)]), (.int .i64)]) (fun x => F.ref03_Normal n x.1) := fnOK_of WOf.st (cx11_ok _ n) (d := 8) (fun x => by kernel_rfl)
noncomputable def cx12 (X : Type) (n : Nat) : Cx X := mkCx tab.get [(12, Tryd.f12)] [(10, orcOf [(.agg [.bool, (.int .u64), (.int .i64)])] (.many [(.agg [.bool, (.int .u64), (.int .i64)]), (.int .i64)]) (fun x => F.dec_Normal n x.1))] [] [] [] []
theorem cx12_ok (X : Type) (n : Nat) : CxOK Tryd.prog SW (cx12 X n) := mkCx_ok mixed (tabOK tab_ok) ⟨⟨Tryd.func12, by decide⟩, trivial⟩ ⟨orcOf_ok (ok10 n), trivial⟩ ⟨okC_mk rfl (by kernel_rfl) (castP (by kernel_rfl) (show True from trivial)) (castP (by kernel_rfl) (show True from trivial)), trivial⟩ trivial
theorem ok12 (n : Nat) : FnOK Tryd.prog SW 12 [(.agg [.bool, (.int .u64), (.int .i64)])] (.one (.int .i64)) (fun x => F.dec_Check n x.1) := fnOK_of WOf.st (cx12_ok _ n) (d := 8) (fun x => by kernel_rfl)
noncomputable def cx13 (X : Type) (n : Nat) : Cx X := mkCx tab.get [(13, Tryd.f13)] [(23, orcOf [(.int .u64)] (.one .str) (fun x => F.ref03_Digits n x.1)), (25, orcOf [.bool, .str, (.int .i64)] (.many [(.agg [.bool, (.int .u64), (.int .i64)]), .bool]) (fun x => F.ref03_Make n x.1 x.2.1 x.2.2.1))] [] [] [] []
theorem cx13_ok (X : Type) (n : Nat) : CxOK Tryd.prog SW (cx13 X n) := mkCx_ok mixed (tabOK tab_ok) ⟨⟨Tryd.func13, by decide⟩, trivial⟩ ⟨orcOf_ok (ok23 n),
  orcOf_ok (ok25 n), trivial⟩ ⟨okC_mk rfl (by kernel_rfl) (castP (by kernel_rfl) (show True from trivial)) (castP (by kernel_rfl) (show True from trivial)), trivial⟩ trivial
theorem ok13 (n : Nat) : FnOK Tryd.prog SW 13 [(.agg [.bool, (.int .u64), (.int .i64)])] (.one (.int .i64)) (fun x => F.ref03_Check n x.1) := fnOK_of WOf.st (cx13_ok _ n) (d := 8) (fun x => by kernel_rfl)
noncomputable def cx58 (X : Type) (n : Nat) : Cx X := mkCx tab.get [(58, Tryd.f58)] [] [] [] [] []
theorem cx58_ok (X : Type) (n : Nat) : CxOK Tryd.prog SW (cx58 X n) := mkCx_ok mixed (tabOK tab_ok) ⟨⟨Tryd.func58, by decide⟩, trivial⟩ trivial ⟨okC_mk rfl (by kernel_rfl) (castP (by kernel_rfl) (show True from trivial)) (castP (by kernel_rfl) (show True from trivial)), trivial⟩ trivial
theorem ok58 (n : Nat) : FnOK Tryd.prog SW 58 [.str, .str] (.one .bool) (fun x => F.stringslite_HasPrefix n x.1 x.2.1) := fnOK_of WOf.st (cx58_ok _ n) (d := 8) (fun x => by kernel_rfl)
noncomputable def cx41 (X : Type) (n : Nat) : Cx X := mkCx tab.get [(41, Tryd.f41)] [(58, orcOf [.str, .str] (.one .bool) (fun x => F.stringslite_HasPrefix n x.1 x.2.1))] [] [] [] []
theorem cx41_ok (X : Type) (n : Nat) : CxOK Tryd.prog SW (cx41 X n) := mkCx_ok mixed (tabOK tab_ok) ⟨⟨Tryd.func41, by decide⟩, trivial⟩ ⟨orcOf_ok (ok58 n), trivial⟩ ⟨okC_mk rfl (by kernel_rfl) (castP (by kernel_rfl) (show True from trivial)) (castP (by kernel_rfl) (show True from trivial)), trivial⟩ trivial
theorem ok41 (n : Nat) : FnOK Tryd.prog SW 41 [.str, .str] (.one .bool) (fun x => F.strings_HasPrefix n x.1 x.2.1) := fnOK_of WOf.st (cx41_ok _ n) (d := 8) (fun x => by kernel_rfl)
def F.dec_look.L2_dec_look_1.head : Shape := ⟨[(0, (.const (.ref 2 0))), (1, (.const (.ref 0 0))), (3, (.int .i64))], [[.str], [(.int .i64), (.int .i64)], [(.int .i64)]], [], [], [], 3, 0, 0⟩
def F.dec_look.L2_dec_look_1.e0 : Shape := ⟨[(0, (.const (.ref 2 0))), (3, (.int .i64))], [[.str], [(.int .i64), (.int .i64)], [(.int .i64)]], [], [], [], 3, 0, 0⟩
noncomputable def F.dec_look.L2_dec_look_1.f {X : Type} (n m : Nat) (ks : Ks X) (s : F.dec_look.L2_dec_look_1.head.den) : Option X := F.dec_look.L2_dec_look_1 n (fun q3 qb0_0 qb1_0 qb1_1 qb2_0 => ks.ex 0 (F.dec_look.L2_dec_look_1.e0.e (((), q3, ()), ((qb0_0, ()), (qb1_0, qb1_1, ()), (qb2_0, ()), ()), (), ())) (F.dec_look.L2_dec_look_1.e0.h (((), q3, ()), ((qb0_0, ()), (qb1_0, qb1_1, ()), (qb2_0, ()), ()), (), ()))) m s.1.2.2.1 s.2.1.1.1 s.2.1.2.1.1 s.2.1.2.1.2.1 s.2.1.2.2.1.1
noncomputable def F.dec_look.L2_dec_look_1.li (X : Type) (n : Nat) : LoopI X := ⟨7, ⟨3, 0, 0⟩, F.dec_look.L2_dec_look_1.head, [(0, F.dec_look.L2_dec_look_1.e0)], none, F.dec_look.L2_dec_look_1.f n n⟩
noncomputable def cx26 (X : Type) (n : Nat) : Cx X := mkCx tab.get [(26, Tryd.f26), (40, Tryd.f40)] [(41, orcOf [.str, .str] (.one .bool) (fun x => F.strings_HasPrefix n x.1 x.2.1))] [(40, 2, [F.dec_look.L2_dec_look_1.li X n])] [] [] []
theorem F.dec_look.L2_dec_look_1.ok (X : Type) (n : Nat) : LoopOK (cx26 X n) 40 Tryd.f40.ntmps (loopNo Tryd.f40 0) (F.dec_look.L2_dec_look_1.li X n) :=
  ⟨F.dec_look.L2_dec_look_1.f n, n, fun _ _ => rfl, fun _ _ => rfl, fun m ks s => by kernel_rfl⟩
theorem cx26_ok (X : Type) (n : Nat) : CxOK Tryd.prog SW (cx26 X n) := mkCx_ok mixed (tabOK tab_ok) ⟨⟨Tryd.func26, by decide⟩,
  ⟨Tryd.func40, by decide⟩, trivial⟩ ⟨orcOf_ok (ok41 n), trivial⟩ ⟨okC_mk rfl (by kernel_rfl) (castP (by kernel_rfl) (show True from trivial)) (castP (by kernel_rfl) (show True from trivial)),
  okC_mk rfl (by kernel_rfl) (castP (by kernel_rfl) (show (LoopOK (cx26 X n) 40 Tryd.f40.ntmps (loopNo Tryd.f40 0) (F.dec_look.L2_dec_look_1.li X n) ∧ True) ∧ True from ⟨⟨F.dec_look.L2_dec_look_1.ok X n, trivial⟩, trivial⟩)) (castP (by kernel_rfl) (show True from trivial)), trivial⟩ trivial
theorem ok26 (n : Nat) : FnOK Tryd.prog SW 26 [.str] (.one (.agg [(.int .i64), (.int .i64)])) (fun x => F.dec_look n x.1) := fnOK_of WOf.st (cx26_ok _ n) (d := 8) (fun x => by kernel_rfl)
noncomputable def cx42 (X : Type) (n : Nat) : Cx X := mkCx tab.get [(42, Tryd.f42)] [(58, orcOf [.str, .str] (.one .bool) (fun x => F.stringslite_HasPrefix n x.1 x.2.1))] [] [] [] []
theorem cx42_ok (X : Type) (n : Nat) : CxOK Tryd.prog SW (cx42 X n) := mkCx_ok mixed (tabOK tab_ok) ⟨⟨Tryd.func42, by decide⟩, trivial⟩ ⟨orcOf_ok (ok58 n), trivial⟩ ⟨okC_mk rfl (by kernel_rfl) (castP (by kernel_rfl) (show True from trivial)) (castP (by kernel_rfl) (show True from trivial)), trivial⟩ trivial
theorem ok42 (n : Nat) : FnOK Tryd.prog SW 42 [.str, .str] (.many [.str, .bool]) (fun x => F.stringslite_CutPrefix n x.1 x.2.1) := fnOK_of WOf.st (cx42_ok _ n) (d := 8) (fun x => by kernel_rfl)
noncomputable def cx27 (X : Type) (n : Nat) : Cx X := mkCx tab.get [(27, Tryd.f27)] [(42, orcOf [.str, .str] (.many [.str, .bool]) (fun x => F.stringslite_CutPrefix n x.1 x.2.1))] [] [] [] []
theorem cx27_ok (X : Type) (n : Nat) : CxOK Tryd.prog SW (cx27 X n) := mkCx_ok mixed (tabOK tab_ok) ⟨⟨Tryd.func27, by decide⟩, trivial⟩ ⟨orcOf_ok (ok42 n), trivial⟩ ⟨okC_mk rfl (by kernel_rfl) (castP (by kernel_rfl) (show True from trivial)) (castP (by kernel_rfl) (show True from trivial)), trivial⟩ trivial
theorem ok27 (n : Nat) : FnOK Tryd.prog SW 27 [.str, .str] (.many [.str, .bool]) (fun x => F.strings_CutPrefix n x.1 x.2.1) := fnOK_of WOf.st (cx27_ok _ n) (d := 8) (fun x => by kernel_rfl)
theorem ok59 (n : Nat) : FnOK Tryd.prog SW 59 [.str, .str] (.one (.int .i64)) (fun x => O.index1 n x.1 x.2.1) := index1_ok (enters Tryd.func59 (by kernel_rfl) (by decide)) Tryd.stringslite_Index_one n
noncomputable def cx43 (X : Type) (n : Nat) : Cx X := mkCx tab.get [(43, Tryd.f43)] [(59, orcOf [.str, .str] (.one (.int .i64)) (fun x => O.index1 n x.1 x.2.1))] [] [] [] []
theorem cx43_ok (X : Type) (n : Nat) : CxOK Tryd.prog SW (cx43 X n) := mkCx_ok mixed (tabOK tab_ok) ⟨⟨Tryd.func43, by decide⟩, trivial⟩ ⟨orcOf_ok (ok59 n), trivial⟩ ⟨okC_mk rfl (by kernel_rfl) (castP (by kernel_rfl) (show True from trivial)) (castP (by kernel_rfl) (show True from trivial)), trivial⟩ trivial
theorem ok43 (n : Nat) : FnOK Tryd.prog SW 43 [.str, .str] (.many [.str, .str, .bool]) (fun x => F.stringslite_Cut n x.1 x.2.1) := fnOK_of WOf.st (cx43_ok _ n) (d := 8) (fun x => by kernel_rfl)
noncomputable def cx28 (X : Type) (n : Nat) : Cx X := mkCx tab.get [(28, Tryd.f28)] [(43, orcOf [.str, .str] (.many [.str, .str, .bool]) (fun x => F.stringslite_Cut n x.1 x.2.1))] [] [] [] []
theorem cx28_ok (X : Type) (n : Nat) : CxOK Tryd.prog SW (cx28 X n) := mkCx_ok mixed (tabOK tab_ok) ⟨⟨Tryd.func28, by decide⟩, trivial⟩ ⟨orcOf_ok (ok43 n), trivial⟩ ⟨okC_mk rfl (by kernel_rfl) (castP (by kernel_rfl) (show True from trivial)) (castP (by kernel_rfl) (show True from trivial)), trivial⟩ trivial
theorem ok28 (n : Nat) : FnOK Tryd.prog SW 28 [.str, .str] (.many [.str, .str, .bool]) (fun x => F.strings_Cut n x.1 x.2.1) := fnOK_of WOf.st (cx28_ok _ n) (d := 8) (fun x => by kernel_rfl)
theorem ok29 (n : Nat) : FnOK Tryd.prog SW 29 [.str, .str] (.one .str) (fun x => O.trimR n x.1 x.2.1) := trimR_ok (enters Tryd.func29 (by kernel_rfl) (by decide)) Tryd.strings_TrimRight_one n
theorem ok30 (n : Nat) : FnOK Tryd.prog SW 30 [.str, .str] (.one .str) (fun x => O.trimL n x.1 x.2.1) := trimL_ok (enters Tryd.func30 (by kernel_rfl) (by decide)) Tryd.strings_TrimLeft_one n
def F.dec_Parse.L14.head : Shape := ⟨[(2, (.const (.ref 0 0))), (3, (.const (.ref 1 0))), (10, .str), (11, (.const (.ref 3 0))), (66, (.int .i64)), (67, (.int .i64))], [[.bool, (.int .u64), (.int .i64)], [(.int .i64), (.int .i64)], [(.int .i64), (.int .i64)], [.bool, (.int .u64), (.int .i64)]], [], [], [], 4, 0, 0⟩
def F.dec_Parse.L14.e0 : Shape := ⟨[(2, (.const (.ref 0 0))), (3, (.const (.ref 1 0))), (11, (.const (.ref 3 0)))], [[.bool, (.int .u64), (.int .i64)], [(.int .i64), (.int .i64)], [(.int .i64), (.int .i64)], [.bool, (.int .u64), (.int .i64)]], [], [], [], 4, 0, 0⟩
noncomputable def F.dec_Parse.L14.f {X : Type} (n m : Nat) (ks : Ks X) (s : F.dec_Parse.L14.head.den) : Option X := F.dec_Parse.L14 n (fun qb0_0 qb0_1 qb0_2 qb1_0 qb1_1 qb2_0 qb2_1 qb3_0 qb3_1 qb3_2 => ks.ex 0 (F.dec_Parse.L14.e0.e (((), (), (), ()), ((qb0_0, qb0_1, qb0_2, ()), (qb1_0, qb1_1, ()), (qb2_0, qb2_1, ()), (qb3_0, qb3_1, qb3_2, ()), ()), (), ())) (F.dec_Parse.L14.e0.h (((), (), (), ()), ((qb0_0, qb0_1, qb0_2, ()), (qb1_0, qb1_1, ()), (qb2_0, qb2_1, ()), (qb3_0, qb3_1, qb3_2, ()), ()), (), ()))) m s.1.2.2.1 s.1.2.2.2.2.1 s.1.2.2.2.2.2.1 s.2.1.1.1 s.2.1.1.2.1 s.2.1.1.2.2.1 s.2.1.2.1.1 s.2.1.2.1.2.1 s.2.1.2.2.1.1 s.2.1.2.2.1.2.1 s.2.1.2.2.2.1.1 s.2.1.2.2.2.1.2.1 s.2.1.2.2.2.1.2.2.1
noncomputable def F.dec_Parse.L14.li (X : Type) (n : Nat) : LoopI X := ⟨8, ⟨0, 0, 0⟩, F.dec_Parse.L14.head, [(0, F.dec_Parse.L14.e0)], none, F.dec_Parse.L14.f n n⟩
noncomputable def cx15 (X : Type) (n : Nat) : Cx X := mkCx tab.get [(15, Tryd.f15)] [(10, orcOf [(.agg [.bool, (.int .u64), (.int .i64)])] (.many [(.agg [.bool, (.int .u64), (.int .i64)]), (.int .i64)]) (fun x => F.dec_Normal n x.1)), (24, orcOf [(.int .u64), (.int .u64)] (.many [(.int .u64), .bool]) (fun x => F.dec_times n x.1 x.2.1)), (26, orcOf [.str] (.one (.agg [(.int .i64), (.int .i64)])) (fun x => F.dec_look n x.1)), (27, orcOf [.str, .str] (.many [.str, .bool]) (fun x => F.strings_CutPrefix n x.1 x.2.1)), (28, orcOf [.str, .str] (.many [.str, .str, .bool]) (fun x => F.strings_Cut n x.1 x.2.1)), (29, orcOf [.str, .str] (.one .str) (fun x => O.trimR n x.1 x.2.1)), (30, orcOf [.str, .str] (.one .str) (fun x => O.trimL n x.1 x.2.1))] [(15, 14, [F.dec_Parse.L14.li X n])] [] [(15, 3, [(1, 2)])] []
theorem F.dec_Parse.L14.ok (X : Type) (n : Nat) : LoopOK (cx15 X n) 15 Tryd.f15.ntmps (loopNo Tryd.f15 0) (F.dec_Parse.L14.li X n) :=
  ⟨F.dec_Parse.L14.f n, n, fun _ _ => rfl, fun _ _ => rfl, fun m ks s => by kernel_rfl⟩
theorem cx15_ok (X : Type) (n : Nat) : CxOK Tryd.prog SW (cx15 X n) := mkCx_ok mixed (tabOK tab_ok) ⟨⟨Tryd.func15, by decide⟩, trivial⟩ ⟨orcOf_ok (ok10 n),
  orcOf_ok (ok24 n),
  orcOf_ok (ok26 n),
  orcOf_ok (ok27 n),
  orcOf_ok (ok28 n),
  orcOf_ok (ok29 n),
  orcOf_ok (ok30 n), trivial⟩ ⟨okC_mk rfl (by kernel_rfl) (castP (by kernel_rfl) (show (LoopOK (cx15 X n) 15 Tryd.f15.ntmps (loopNo Tryd.f15 0) (F.dec_Parse.L14.li X n) ∧ True) ∧ True from ⟨⟨F.dec_Parse.L14.ok X n, trivial⟩, trivial⟩)) (castP (by kernel_rfl) (show True from trivial)), trivial⟩ trivial
theorem ok15 (n : Nat) : FnOK Tryd.prog SW 15 [.str] (.many [(.agg [.bool, (.int .u64), (.int .i64)]), (.agg [(.int .i64), (.int .i64)])]) (fun x => F.dec_Parse n x.1) := fnOK_of WOf.st (cx15_ok _ n) (d := 8) (fun x => by kernel_rfl)
theorem ok32 (n : Nat) : FnOK Tryd.prog SW 32 [(.int .u64), (.int .i64)] (.one .str) (fun x => O.futoa n x.1 x.2.1) := futoa_ok (enters Tryd.func32 (by kernel_rfl) (by decide)) (fun k hk w hw => (Tryd.strconv_FormatUint_10 k hk w (swTab hw)).mono fun e w' ⟨a, q, os, b⟩ => ⟨a, b ▸ below_grow q os⟩) n
theorem ok33 (n : Nat) : FnOK Tryd.prog SW 33 [.str, (.int .i64)] (.one .str) (fun x => O.repeat' n x.1 x.2.1) := repeat_ok (enters Tryd.func33 (by kernel_rfl) (by decide)) Tryd.strings_Repeat n
noncomputable def cx17 (X : Type) (n : Nat) : Cx X := mkCx tab.get [(17, Tryd.f17)] [(12, orcOf [(.agg [.bool, (.int .u64), (.int .i64)])] (.one (.int .i64)) (fun x => F.dec_Check n x.1)), (32, orcOf [(.int .u64), (.int .i64)] (.one .str) (fun x => O.futoa n x.1 x.2.1)), (33, orcOf [.str, (.int .i64)] (.one .str) (fun x => O.repeat' n x.1 x.2.1))] [] [] [] []
theorem cx17_ok (X : Type) (n : Nat) : CxOK Tryd.prog SW (cx17 X n) := mkCx_ok mixed (tabOK tab_ok) ⟨⟨Tryd.func17, by decide⟩, trivial⟩ ⟨orcOf_ok (ok12 n),
  orcOf_ok (ok32 n),
  orcOf_ok (ok33 n), trivial⟩ ⟨okC_mk rfl (by kernel_rfl) (castP (by kernel_rfl) (show True from trivial)) (castP (by kernel_rfl) (show True from trivial)), trivial⟩ trivial
theorem ok17 (n : Nat) : FnOK Tryd.prog SW 17 [(.agg [.bool, (.int .u64), (.int .i64)])] (.many [.str, (.int .i64)]) (fun x => F.dec_Text n x.1) := fnOK_of WOf.st (cx17_ok _ n) (d := 8) (fun x => by kernel_rfl)
noncomputable def cx14 (X : Type) (n : Nat) : Cx X := mkCx tab.get [(14, Tryd.f14)] [(15, orcOf [.str] (.many [(.agg [.bool, (.int .u64), (.int .i64)]), (.agg [(.int .i64), (.int .i64)])]) (fun x => F.dec_Parse n x.1)), (17, orcOf [(.agg [.bool, (.int .u64), (.int .i64)])] (.many [.str, (.int .i64)]) (fun x => F.dec_Text n x.1))] [] [] [] []
theorem cx14_ok (X : Type) (n : Nat) : CxOK Tryd.prog SW (cx14 X n) := mkCx_ok mixed (tabOK tab_ok) ⟨⟨Tryd.func14, by decide⟩, trivial⟩ ⟨orcOf_ok (ok15 n),
  orcOf_ok (ok17 n), trivial⟩ ⟨okC_mk rfl (by kernel_rfl) (castP (by kernel_rfl) (show True from trivial)) (castP (by kernel_rfl) (show True from trivial)), trivial⟩ trivial
theorem ok14 (n : Nat) : FnOK Tryd.prog SW 14 [] (.one .bool) (fun x => F.law03_awake n ) := fnOK_of WOf.st (cx14_ok _ n) (d := 8) (fun x => by kernel_rfl)
noncomputable def cx3 (X : Type) (n : Nat) : Cx X := mkCx tab.get [(3, Tryd.f3)] [(10, orcOf [(.agg [.bool, (.int .u64), (.int .i64)])] (.many [(.agg [.bool, (.int .u64), (.int .i64)]), (.int .i64)]) (fun x => F.dec_Normal n x.1)), (11, orcOf [(.agg [.bool, (.int .u64), (.int .i64)])] (.many [(.agg [.bool, (.int .u64), (.int .i64)]), (.int .i64)]) (fun x => F.ref03_Normal n x.1)), (12, orcOf [(.agg [.bool, (.int .u64), (.int .i64)])] (.one (.int .i64)) (fun x => F.dec_Check n x.1)), (13, orcOf [(.agg [.bool, (.int .u64), (.int .i64)])] (.one (.int .i64)) (fun x => F.ref03_Check n x.1)), (14, orcOf [] (.one .bool) (fun x => F.law03_awake n ))] [] [] [] []
theorem cx3_ok (X : Type) (n : Nat) : CxOK Tryd.prog SW (cx3 X n) := mkCx_ok mixed (tabOK tab_ok) ⟨⟨Tryd.func3, by decide⟩, trivial⟩ ⟨orcOf_ok (ok10 n),
  orcOf_ok (ok11 n),
  orcOf_ok (ok12 n),
  orcOf_ok (ok13 n),
  orcOf_ok (ok14 n), trivial⟩ ⟨okC_mk rfl (by kernel_rfl) (castP (by kernel_rfl) (show True from trivial)) (castP (by kernel_rfl) (show True from trivial)), trivial⟩ trivial
theorem ok3 (n : Nat) : FnOK Tryd.prog SW 3 [(.agg [.bool, (.int .u64), (.int .i64)])] (.one .bool) (fun x => F.law03_DecNormals n x.1) := fnOK_of WOf.st (cx3_ok _ n) (d := 8) (fun x => by kernel_rfl)
noncomputable def cx31 (X : Type) (n : Nat) : Cx X := mkCx tab.get [(31, Tryd.f31)] [] [] [] [] []
theorem cx31_ok (X : Type) (n : Nat) : CxOK Tryd.prog SW (cx31 X n) := mkCx_ok mixed (tabOK tab_ok) ⟨⟨Tryd.func31, by decide⟩, trivial⟩ trivial ⟨okC_mk rfl (by kernel_rfl) (castP (by kernel_rfl) (show True from trivial)) (castP (by kernel_rfl) (show True from trivial)), trivial⟩ trivial
theorem ok31 (n : Nat) : FnOK Tryd.prog SW 31 [(.int .u8)] (.one .bool) (fun x => F.ref03_digit n x.1) := fnOK_of WOf.st (cx31_ok _ n) (d := 8) (fun x => by kernel_rfl)
def F.ref03_Parse.L8.head : Shape := ⟨[(0, .str), (2, (.const (.ref 0 0))), (3, (.const (.ref 1 0))), (4, .bool), (5, (.int .i64)), (6, .str), (7, (.int .i64)), (8, .bool)], [[.bool, (.int .u64), (.int .i64)], [(.int .i64), (.int .i64)]], [], [], [], 2, 0, 0⟩
def F.ref03_Parse.L8.e0 : Shape := ⟨[(0, .str), (2, (.const (.ref 0 0))), (3, (.const (.ref 1 0))), (4, .bool), (6, .str), (7, (.int .i64)), (8, .bool)], [[.bool, (.int .u64), (.int .i64)], [(.int .i64), (.int .i64)]], [], [], [], 2, 0, 0⟩
def F.ref03_Parse.L8.er : Shape := ⟨[(2, (.const (.ref 0 0))), (3, (.const (.ref 1 0)))], [[.bool, (.int .u64), (.int .i64)], [(.int .i64), (.int .i64)]], [], [], [], 2, 0, 0⟩
noncomputable def F.ref03_Parse.L8.f {X : Type} (n m : Nat) (ks : Ks X) (s : F.ref03_Parse.L8.head.den) : Option X := F.ref03_Parse.L8 n (fun q0 q4 q6 q7 q8 qb0_0 qb0_1 qb0_2 qb1_0 qb1_1 => ks.ex 0 (F.ref03_Parse.L8.e0.e ((q0, (), (), q4, q6, q7, q8, ()), ((qb0_0, qb0_1, qb0_2, ()), (qb1_0, qb1_1, ()), ()), (), ())) (F.ref03_Parse.L8.e0.h ((q0, (), (), q4, q6, q7, q8, ()), ((qb0_0, qb0_1, qb0_2, ()), (qb1_0, qb1_1, ()), ()), (), ()))) (fun qb0_0 qb0_1 qb0_2 qb1_0 qb1_1 => ks.ret (F.ref03_Parse.L8.er.e (((), (), ()), ((qb0_0, qb0_1, qb0_2, ()), (qb1_0, qb1_1, ()), ()), (), ())) (F.ref03_Parse.L8.er.h (((), (), ()), ((qb0_0, qb0_1, qb0_2, ()), (qb1_0, qb1_1, ()), ()), (), ()))) m s.1.1 s.1.2.2.2.1 s.1.2.2.2.2.1 s.1.2.2.2.2.2.1 s.1.2.2.2.2.2.2.1 s.1.2.2.2.2.2.2.2.1 s.2.1.1.1 s.2.1.1.2.1 s.2.1.1.2.2.1 s.2.1.2.1.1 s.2.1.2.1.2.1
noncomputable def F.ref03_Parse.L8.li (X : Type) (n : Nat) : LoopI X := ⟨8, ⟨0, 0, 0⟩, F.ref03_Parse.L8.head, [(0, F.ref03_Parse.L8.e0)], some F.ref03_Parse.L8.er, F.ref03_Parse.L8.f n n⟩
noncomputable def cx16 (X : Type) (n : Nat) : Cx X := mkCx tab.get [(16, Tryd.f16)] [(25, orcOf [.bool, .str, (.int .i64)] (.many [(.agg [.bool, (.int .u64), (.int .i64)]), .bool]) (fun x => F.ref03_Make n x.1 x.2.1 x.2.2.1)), (31, orcOf [(.int .u8)] (.one .bool) (fun x => F.ref03_digit n x.1))] [(16, 8, [F.ref03_Parse.L8.li X n])] [] [] []
theorem F.ref03_Parse.L8.ok (X : Type) (n : Nat) : LoopOK (cx16 X n) 16 Tryd.f16.ntmps (loopNo Tryd.f16 0) (F.ref03_Parse.L8.li X n) :=
  ⟨F.ref03_Parse.L8.f n, n, fun _ _ => rfl, fun _ _ => rfl, fun m ks s => by kernel_rfl⟩
theorem cx16_ok (X : Type) (n : Nat) : CxOK Tryd.prog SW (cx16 X n) := mkCx_ok mixed (tabOK tab_ok) ⟨⟨Tryd.func16, by decide⟩, trivial⟩ ⟨orcOf_ok (ok25 n),
  orcOf_ok (ok31 n), trivial⟩ ⟨okC_mk rfl (by kernel_rfl) (castP (by kernel_rfl) (show (LoopOK (cx16 X n) 16 Tryd.f16.ntmps (loopNo Tryd.f16 0) (F.ref03_Parse.L8.li X n) ∧ True) ∧ True from ⟨⟨F.ref03_Parse.L8.ok X n, trivial⟩, trivial⟩)) (castP (by kernel_rfl) (show True from trivial)), trivial⟩ trivial
theorem ok16 (n : Nat) : FnOK Tryd.prog SW 16 [.str] (.many [(.agg [.bool, (.int .u64), (.int .i64)]), (.agg [(.int .i64), (.int .i64)])]) (fun x => F.ref03_Parse n x.1) := fnOK_of WOf.st (cx16_ok _ n) (d := 8) (fun x => by kernel_rfl)
noncomputable def cx4 (X : Type) (n : Nat) : Cx X := mkCx tab.get [(4, Tryd.f4)] [(14, orcOf [] (.one .bool) (fun x => F.law03_awake n )), (15, orcOf [.str] (.many [(.agg [.bool, (.int .u64), (.int .i64)]), (.agg [(.int .i64), (.int .i64)])]) (fun x => F.dec_Parse n x.1)), (16, orcOf [.str] (.many [(.agg [.bool, (.int .u64), (.int .i64)]), (.agg [(.int .i64), (.int .i64)])]) (fun x => F.ref03_Parse n x.1))] [] [] [] []
theorem cx4_ok (X : Type) (n : Nat) : CxOK Tryd.prog SW (cx4 X n) := mkCx_ok mixed (tabOK tab_ok) ⟨⟨Tryd.func4, by decide⟩, trivial⟩ ⟨orcOf_ok (ok14 n),
  orcOf_ok (ok15 n),
  orcOf_ok (ok16 n), trivial⟩ ⟨okC_mk rfl (by kernel_rfl) (castP (by kernel_rfl) (show True from trivial)) (castP (by kernel_rfl) (show True from trivial)), trivial⟩ trivial
theorem ok4 (n : Nat) : FnOK Tryd.prog SW 4 [.str] (.one .bool) (fun x => F.law03_DecParses n x.1) := fnOK_of WOf.st (cx4_ok _ n) (d := 8) (fun x => by kernel_rfl)
noncomputable def cx5 (X : Type) (n : Nat) : Cx X := mkCx tab.get [(5, Tryd.f5)] [(12, orcOf [(.agg [.bool, (.int .u64), (.int .i64)])] (.one (.int .i64)) (fun x => F.dec_Check n x.1)), (14, orcOf [] (.one .bool) (fun x => F.law03_awake n )), (15, orcOf [.str] (.many [(.agg [.bool, (.int .u64), (.int .i64)]), (.agg [(.int .i64), (.int .i64)])]) (fun x => F.dec_Parse n x.1)), (17, orcOf [(.agg [.bool, (.int .u64), (.int .i64)])] (.many [.str, (.int .i64)]) (fun x => F.dec_Text n x.1))] [] [] [] []
theorem cx5_ok (X : Type) (n : Nat) : CxOK Tryd.prog SW (cx5 X n) := mkCx_ok mixed (tabOK tab_ok) ⟨⟨Tryd.func5, by decide⟩, trivial⟩ ⟨orcOf_ok (ok12 n),
  orcOf_ok (ok14 n),
  orcOf_ok (ok15 n),
  orcOf_ok (ok17 n), trivial⟩ ⟨okC_mk rfl (by kernel_rfl) (castP (by kernel_rfl) (show True from trivial)) (castP (by kernel_rfl) (show True from trivial)), trivial⟩ trivial
theorem ok5 (n : Nat) : FnOK Tryd.prog SW 5 [(.agg [.bool, (.int .u64), (.int .i64)]), .str] (.one .bool) (fun x => F.law03_DecBack n x.1 x.2.1) := fnOK_of WOf.st (cx5_ok _ n) (d := 8) (fun x => by kernel_rfl)
def F.law03_DecZeros.L13.head : Shape := ⟨[(1, (.int .i64)), (2, (.int .i64)), (3, (.const (.ref 0 0))), (7, .str), (9, .str), (10, (.int .i64))], [[.bool, (.int .u64), (.int .i64)]], [], [], [], 1, 0, 0⟩
def F.law03_DecZeros.L13.e0 : Shape := ⟨[(2, (.int .i64)), (3, (.const (.ref 0 0))), (7, .str), (9, .str)], [[.bool, (.int .u64), (.int .i64)]], [], [], [], 1, 0, 0⟩
noncomputable def F.law03_DecZeros.L13.f {X : Type} (n m : Nat) (ks : Ks X) (s : F.law03_DecZeros.L13.head.den) : Option X := F.law03_DecZeros.L13 n (fun q2 q7 q9 qb0_0 qb0_1 qb0_2 => ks.ex 0 (F.law03_DecZeros.L13.e0.e ((q2, (), q7, q9, ()), ((qb0_0, qb0_1, qb0_2, ()), ()), (), ())) (F.law03_DecZeros.L13.e0.h ((q2, (), q7, q9, ()), ((qb0_0, qb0_1, qb0_2, ()), ()), (), ()))) m s.1.1 s.1.2.1 s.1.2.2.2.1 s.1.2.2.2.2.1 s.1.2.2.2.2.2.1 s.2.1.1.1 s.2.1.1.2.1 s.2.1.1.2.2.1
noncomputable def F.law03_DecZeros.L13.li (X : Type) (n : Nat) : LoopI X := ⟨8, ⟨0, 0, 0⟩, F.law03_DecZeros.L13.head, [(0, F.law03_DecZeros.L13.e0)], none, F.law03_DecZeros.L13.f n n⟩
def F.law03_DecZeros.L21.head : Shape := ⟨[(2, (.int .i64)), (3, (.const (.ref 0 0))), (7, .str), (9, .str), (11, .str), (12, (.int .i64))], [[.bool, (.int .u64), (.int .i64)]], [], [], [], 1, 0, 0⟩
def F.law03_DecZeros.L21.e2 : Shape := ⟨[(2, (.int .i64)), (3, (.const (.ref 0 0))), (7, .str), (9, .str), (11, .str)], [[.bool, (.int .u64), (.int .i64)]], [], [], [], 1, 0, 0⟩
noncomputable def F.law03_DecZeros.L21.f {X : Type} (n m : Nat) (ks : Ks X) (s : F.law03_DecZeros.L21.head.den) : Option X := F.law03_DecZeros.L21 n (fun q2 q7 q9 q11 qb0_0 qb0_1 qb0_2 => ks.ex 2 (F.law03_DecZeros.L21.e2.e ((q2, (), q7, q9, q11, ()), ((qb0_0, qb0_1, qb0_2, ()), ()), (), ())) (F.law03_DecZeros.L21.e2.h ((q2, (), q7, q9, q11, ()), ((qb0_0, qb0_1, qb0_2, ()), ()), (), ()))) m s.1.1 s.1.2.2.1 s.1.2.2.2.1 s.1.2.2.2.2.1 s.1.2.2.2.2.2.1 s.2.1.1.1 s.2.1.1.2.1 s.2.1.1.2.2.1
noncomputable def F.law03_DecZeros.L21.li (X : Type) (n : Nat) : LoopI X := ⟨8, ⟨0, 0, 0⟩, F.law03_DecZeros.L21.head, [(2, F.law03_DecZeros.L21.e2)], none, F.law03_DecZeros.L21.f n n⟩
noncomputable def cx6 (X : Type) (n : Nat) : Cx X := mkCx tab.get [(6, Tryd.f6)] [(14, orcOf [] (.one .bool) (fun x => F.law03_awake n )), (15, orcOf [.str] (.many [(.agg [.bool, (.int .u64), (.int .i64)]), (.agg [(.int .i64), (.int .i64)])]) (fun x => F.dec_Parse n x.1)), (17, orcOf [(.agg [.bool, (.int .u64), (.int .i64)])] (.many [.str, (.int .i64)]) (fun x => F.dec_Text n x.1))] [(6, 13, [F.law03_DecZeros.L13.li X n]), (6, 21, [F.law03_DecZeros.L21.li X n])] [] [] []
theorem F.law03_DecZeros.L13.ok (X : Type) (n : Nat) : LoopOK (cx6 X n) 6 Tryd.f6.ntmps (loopNo Tryd.f6 0) (F.law03_DecZeros.L13.li X n) :=
  ⟨F.law03_DecZeros.L13.f n, n, fun _ _ => rfl, fun _ _ => rfl, fun m ks s => by kernel_rfl⟩
theorem F.law03_DecZeros.L21.ok (X : Type) (n : Nat) : LoopOK (cx6 X n) 6 Tryd.f6.ntmps (loopNo Tryd.f6 1) (F.law03_DecZeros.L21.li X n) :=
  ⟨F.law03_DecZeros.L21.f n, n, fun _ _ => rfl, fun _ _ => rfl, fun m ks s => by kernel_rfl⟩
theorem cx6_ok (X : Type) (n : Nat) : CxOK Tryd.prog SW (cx6 X n) := mkCx_ok mixed (tabOK tab_ok) ⟨⟨Tryd.func6, by decide⟩, trivial⟩ ⟨orcOf_ok (ok14 n),
  orcOf_ok (ok15 n),
  orcOf_ok (ok17 n), trivial⟩ ⟨okC_mk rfl (by kernel_rfl) (castP (by kernel_rfl) (show (LoopOK (cx6 X n) 6 Tryd.f6.ntmps (loopNo Tryd.f6 0) (F.law03_DecZeros.L13.li X n) ∧ True) ∧ (LoopOK (cx6 X n) 6 Tryd.f6.ntmps (loopNo Tryd.f6 1) (F.law03_DecZeros.L21.li X n) ∧ True) ∧ True from ⟨⟨F.law03_DecZeros.L13.ok X n, trivial⟩, ⟨F.law03_DecZeros.L21.ok X n, trivial⟩, trivial⟩)) (castP (by kernel_rfl) (show True from trivial)), trivial⟩ trivial
theorem ok6 (n : Nat) : FnOK Tryd.prog SW 6 [(.agg [.bool, (.int .u64), (.int .i64)]), (.int .i64), (.int .i64)] (.one .bool) (fun x => F.law03_DecZeros n x.1 x.2.1 x.2.2.1) := fnOK_of WOf.st (cx6_ok _ n) (d := 8) (fun x => by kernel_rfl)
theorem ok57 (n : Nat) : FnOK Tryd.prog SW 57 [.str, .str] (.one (.int .i64)) (fun x => O.compare n x.1 x.2.1) := compare_ok (enters Tryd.func57 (by kernel_rfl) (by decide)) Tryd.strings_Compare n
noncomputable def cx34 (X : Type) (n : Nat) : Cx X := mkCx tab.get [(34, Tryd.f34)] [(32, orcOf [(.int .u64), (.int .i64)] (.one .str) (fun x => O.futoa n x.1 x.2.1)), (33, orcOf [.str, (.int .i64)] (.one .str) (fun x => O.repeat' n x.1 x.2.1)), (57, orcOf [.str, .str] (.one (.int .i64)) (fun x => O.compare n x.1 x.2.1))] [] [] [] []
theorem cx34_ok (X : Type) (n : Nat) : CxOK Tryd.prog SW (cx34 X n) := mkCx_ok mixed (tabOK tab_ok) ⟨⟨Tryd.func34, by decide⟩, trivial⟩ ⟨orcOf_ok (ok32 n),
  orcOf_ok (ok33 n),
  orcOf_ok (ok57 n), trivial⟩ ⟨okC_mk rfl (by kernel_rfl) (castP (by kernel_rfl) (show True from trivial)) (castP (by kernel_rfl) (show True from trivial)), trivial⟩ trivial
theorem ok34 (n : Nat) : FnOK Tryd.prog SW 34 [(.agg [.bool, (.int .u64), (.int .i64)]), (.agg [.bool, (.int .u64), (.int .i64)])] (.one (.int .i64)) (fun x => F.dec_size n x.1 x.2.1) := fnOK_of WOf.st (cx34_ok _ n) (d := 8) (fun x => by kernel_rfl)
def F.dec_Compare.L2.head : Shape := ⟨[(2, (.const (.ref 0 0))), (3, (.const (.ref 1 0))), (11, (.agg [.bool, (.int .u64), (.int .i64), .bool, (.int .u64), (.int .i64)])), (12, (.int .i64))], [[.bool, (.int .u64), (.int .i64)], [.bool, (.int .u64), (.int .i64)]], [], [], [], 2, 0, 0⟩
def F.dec_Compare.L2.e0 : Shape := ⟨[(2, (.const (.ref 0 0))), (3, (.const (.ref 1 0)))], [[.bool, (.int .u64), (.int .i64)], [.bool, (.int .u64), (.int .i64)]], [], [], [], 2, 0, 0⟩
def F.dec_Compare.L2.er : Shape := ⟨[(4, (.int .i64)), (5, (.int .i64))], [[.bool, (.int .u64), (.int .i64)], [.bool, (.int .u64), (.int .i64)]], [], [], [], 2, 0, 0⟩
noncomputable def F.dec_Compare.L2.f {X : Type} (n m : Nat) (ks : Ks X) (s : F.dec_Compare.L2.head.den) : Option X := F.dec_Compare.L2 n (fun qb0_0 qb0_1 qb0_2 qb1_0 qb1_1 qb1_2 => ks.ex 0 (F.dec_Compare.L2.e0.e (((), (), ()), ((qb0_0, qb0_1, qb0_2, ()), (qb1_0, qb1_1, qb1_2, ()), ()), (), ())) (F.dec_Compare.L2.e0.h (((), (), ()), ((qb0_0, qb0_1, qb0_2, ()), (qb1_0, qb1_1, qb1_2, ()), ()), (), ()))) (fun q4 q5 qb0_0 qb0_1 qb0_2 qb1_0 qb1_1 qb1_2 => ks.ret (F.dec_Compare.L2.er.e ((q4, q5, ()), ((qb0_0, qb0_1, qb0_2, ()), (qb1_0, qb1_1, qb1_2, ()), ()), (), ())) (F.dec_Compare.L2.er.h ((q4, q5, ()), ((qb0_0, qb0_1, qb0_2, ()), (qb1_0, qb1_1, qb1_2, ()), ()), (), ()))) m s.1.2.2.1 s.1.2.2.2.1 s.2.1.1.1 s.2.1.1.2.1 s.2.1.1.2.2.1 s.2.1.2.1.1 s.2.1.2.1.2.1 s.2.1.2.1.2.2.1
noncomputable def F.dec_Compare.L2.li (X : Type) (n : Nat) : LoopI X := ⟨8, ⟨0, 0, 0⟩, F.dec_Compare.L2.head, [(0, F.dec_Compare.L2.e0)], some F.dec_Compare.L2.er, F.dec_Compare.L2.f n n⟩
noncomputable def cx18 (X : Type) (n : Nat) : Cx X := mkCx tab.get [(18, Tryd.f18)] [(12, orcOf [(.agg [.bool, (.int .u64), (.int .i64)])] (.one (.int .i64)) (fun x => F.dec_Check n x.1)), (34, orcOf [(.agg [.bool, (.int .u64), (.int .i64)]), (.agg [.bool, (.int .u64), (.int .i64)])] (.one (.int .i64)) (fun x => F.dec_size n x.1 x.2.1))] [(18, 2, [F.dec_Compare.L2.li X n])] [] [] []
theorem F.dec_Compare.L2.ok (X : Type) (n : Nat) : LoopOK (cx18 X n) 18 Tryd.f18.ntmps (loopNo Tryd.f18 0) (F.dec_Compare.L2.li X n) :=
  ⟨F.dec_Compare.L2.f n, n, fun _ _ => rfl, fun _ _ => rfl, fun m ks s => by kernel_rfl⟩
theorem cx18_ok (X : Type) (n : Nat) : CxOK Tryd.prog SW (cx18 X n) := mkCx_ok mixed (tabOK tab_ok) ⟨⟨Tryd.func18, by decide⟩, trivial⟩ ⟨orcOf_ok (ok12 n),
  orcOf_ok (ok34 n), trivial⟩ ⟨okC_mk rfl (by kernel_rfl) (castP (by kernel_rfl) (show (LoopOK (cx18 X n) 18 Tryd.f18.ntmps (loopNo Tryd.f18 0) (F.dec_Compare.L2.li X n) ∧ True) ∧ True from ⟨⟨F.dec_Compare.L2.ok X n, trivial⟩, trivial⟩)) (castP (by kernel_rfl) (show True from trivial)), trivial⟩ trivial
theorem ok18 (n : Nat) : FnOK Tryd.prog SW 18 [(.agg [.bool, (.int .u64), (.int .i64)]), (.agg [.bool, (.int .u64), (.int .i64)])] (.many [(.int .i64), (.int .i64)]) (fun x => F.dec_Compare n x.1 x.2.1) := fnOK_of WOf.st (cx18_ok _ n) (d := 8) (fun x => by kernel_rfl)
def F.ref03_Text.L3.head : Shape := ⟨[(1, (.const (.ref 0 0))), (3, .str), (4, (.int .i64))], [[.bool, (.int .u64), (.int .i64)]], [], [], [], 1, 0, 0⟩
def F.ref03_Text.L3.e0 : Shape := ⟨[(1, (.const (.ref 0 0))), (3, .str)], [[.bool, (.int .u64), (.int .i64)]], [], [], [], 1, 0, 0⟩
noncomputable def F.ref03_Text.L3.f {X : Type} (n m : Nat) (ks : Ks X) (s : F.ref03_Text.L3.head.den) : Option X := F.ref03_Text.L3 n (fun q3 qb0_0 qb0_1 qb0_2 => ks.ex 0 (F.ref03_Text.L3.e0.e (((), q3, ()), ((qb0_0, qb0_1, qb0_2, ()), ()), (), ())) (F.ref03_Text.L3.e0.h (((), q3, ()), ((qb0_0, qb0_1, qb0_2, ()), ()), (), ()))) m s.1.2.1 s.1.2.2.1 s.2.1.1.1 s.2.1.1.2.1 s.2.1.1.2.2.1
noncomputable def F.ref03_Text.L3.li (X : Type) (n : Nat) : LoopI X := ⟨8, ⟨0, 0, 0⟩, F.ref03_Text.L3.head, [(0, F.ref03_Text.L3.e0)], none, F.ref03_Text.L3.f n n⟩
def F.ref03_Text.L7.head : Shape := ⟨[(1, (.const (.ref 0 0))), (3, .str)], [[.bool, (.int .u64), (.int .i64)]], [], [], [], 1, 0, 0⟩
def F.ref03_Text.L7.e2 : Shape := ⟨[(1, (.const (.ref 0 0))), (3, .str)], [[.bool, (.int .u64), (.int .i64)]], [], [], [], 1, 0, 0⟩
noncomputable def F.ref03_Text.L7.f {X : Type} (n m : Nat) (ks : Ks X) (s : F.ref03_Text.L7.head.den) : Option X := F.ref03_Text.L7 n (fun q3 qb0_0 qb0_1 qb0_2 => ks.ex 2 (F.ref03_Text.L7.e2.e (((), q3, ()), ((qb0_0, qb0_1, qb0_2, ()), ()), (), ())) (F.ref03_Text.L7.e2.h (((), q3, ()), ((qb0_0, qb0_1, qb0_2, ()), ()), (), ()))) m s.1.2.1 s.2.1.1.1 s.2.1.1.2.1 s.2.1.1.2.2.1
noncomputable def F.ref03_Text.L7.li (X : Type) (n : Nat) : LoopI X := ⟨8, ⟨0, 0, 0⟩, F.ref03_Text.L7.head, [(2, F.ref03_Text.L7.e2)], none, F.ref03_Text.L7.f n n⟩
noncomputable def cx19 (X : Type) (n : Nat) : Cx X := mkCx tab.get [(19, Tryd.f19)] [(23, orcOf [(.int .u64)] (.one .str) (fun x => F.ref03_Digits n x.1))] [(19, 3, [F.ref03_Text.L3.li X n]), (19, 7, [F.ref03_Text.L7.li X n])] [] [] []
theorem F.ref03_Text.L3.ok (X : Type) (n : Nat) : LoopOK (cx19 X n) 19 Tryd.f19.ntmps (loopNo Tryd.f19 0) (F.ref03_Text.L3.li X n) :=
  ⟨F.ref03_Text.L3.f n, n, fun _ _ => rfl, fun _ _ => rfl, fun m ks s => by kernel_rfl⟩
theorem F.ref03_Text.L7.ok (X : Type) (n : Nat) : LoopOK (cx19 X n) 19 Tryd.f19.ntmps (loopNo Tryd.f19 1) (F.ref03_Text.L7.li X n) :=
  ⟨F.ref03_Text.L7.f n, n, fun _ _ => rfl, fun _ _ => rfl, fun m ks s => by kernel_rfl⟩
theorem cx19_ok (X : Type) (n : Nat) : CxOK Tryd.prog SW (cx19 X n) := mkCx_ok mixed (tabOK tab_ok) ⟨⟨Tryd.func19, by decide⟩, trivial⟩ ⟨orcOf_ok (ok23 n), trivial⟩ ⟨okC_mk rfl (by kernel_rfl) (castP (by kernel_rfl) (show (LoopOK (cx19 X n) 19 Tryd.f19.ntmps (loopNo Tryd.f19 0) (F.ref03_Text.L3.li X n) ∧ True) ∧ (LoopOK (cx19 X n) 19 Tryd.f19.ntmps (loopNo Tryd.f19 1) (F.ref03_Text.L7.li X n) ∧ True) ∧ True from ⟨⟨F.ref03_Text.L3.ok X n, trivial⟩, ⟨F.ref03_Text.L7.ok X n, trivial⟩, trivial⟩)) (castP (by kernel_rfl) (show True from trivial)), trivial⟩ trivial
theorem ok19 (n : Nat) : FnOK Tryd.prog SW 19 [(.agg [.bool, (.int .u64), (.int .i64)])] (.one .str) (fun x => F.ref03_Text n x.1) := fnOK_of WOf.st (cx19_ok _ n) (d := 8) (fun x => by kernel_rfl)
def F.ref03_wide.L3.head : Shape := ⟨[(1, (.const (.ref 0 0))), (3, .str), (4, (.int .i64))], [[.bool, (.int .u64), (.int .i64)]], [], [], [], 1, 0, 0⟩
def F.ref03_wide.L3.e0 : Shape := ⟨[(3, .str)], [[.bool, (.int .u64), (.int .i64)]], [], [], [], 1, 0, 0⟩
noncomputable def F.ref03_wide.L3.f {X : Type} (n m : Nat) (ks : Ks X) (s : F.ref03_wide.L3.head.den) : Option X := F.ref03_wide.L3 n (fun q3 qb0_0 qb0_1 qb0_2 => ks.ex 0 (F.ref03_wide.L3.e0.e ((q3, ()), ((qb0_0, qb0_1, qb0_2, ()), ()), (), ())) (F.ref03_wide.L3.e0.h ((q3, ()), ((qb0_0, qb0_1, qb0_2, ()), ()), (), ()))) m s.1.2.1 s.1.2.2.1 s.2.1.1.1 s.2.1.1.2.1 s.2.1.1.2.2.1
noncomputable def F.ref03_wide.L3.li (X : Type) (n : Nat) : LoopI X := ⟨8, ⟨0, 0, 0⟩, F.ref03_wide.L3.head, [(0, F.ref03_wide.L3.e0)], none, F.ref03_wide.L3.f n n⟩
def F.ref03_wide.L6.head : Shape := ⟨[(3, .str)], [[.bool, (.int .u64), (.int .i64)]], [], [], [], 1, 0, 0⟩
def F.ref03_wide.L6.e2 : Shape := ⟨[(3, .str)], [[.bool, (.int .u64), (.int .i64)]], [], [], [], 1, 0, 0⟩
noncomputable def F.ref03_wide.L6.f {X : Type} (n m : Nat) (ks : Ks X) (s : F.ref03_wide.L6.head.den) : Option X := F.ref03_wide.L6 n (fun q3 qb0_0 qb0_1 qb0_2 => ks.ex 2 (F.ref03_wide.L6.e2.e ((q3, ()), ((qb0_0, qb0_1, qb0_2, ()), ()), (), ())) (F.ref03_wide.L6.e2.h ((q3, ()), ((qb0_0, qb0_1, qb0_2, ()), ()), (), ()))) m s.1.1 s.2.1.1.1 s.2.1.1.2.1 s.2.1.1.2.2.1
noncomputable def F.ref03_wide.L6.li (X : Type) (n : Nat) : LoopI X := ⟨8, ⟨0, 0, 0⟩, F.ref03_wide.L6.head, [(2, F.ref03_wide.L6.e2)], none, F.ref03_wide.L6.f n n⟩
noncomputable def cx35 (X : Type) (n : Nat) : Cx X := mkCx tab.get [(35, Tryd.f35)] [(23, orcOf [(.int .u64)] (.one .str) (fun x => F.ref03_Digits n x.1))] [(35, 3, [F.ref03_wide.L3.li X n]), (35, 6, [F.ref03_wide.L6.li X n])] [] [] []
theorem F.ref03_wide.L3.ok (X : Type) (n : Nat) : LoopOK (cx35 X n) 35 Tryd.f35.ntmps (loopNo Tryd.f35 0) (F.ref03_wide.L3.li X n) :=
  ⟨F.ref03_wide.L3.f n, n, fun _ _ => rfl, fun _ _ => rfl, fun m ks s => by kernel_rfl⟩
theorem F.ref03_wide.L6.ok (X : Type) (n : Nat) : LoopOK (cx35 X n) 35 Tryd.f35.ntmps (loopNo Tryd.f35 1) (F.ref03_wide.L6.li X n) :=
  ⟨F.ref03_wide.L6.f n, n, fun _ _ => rfl, fun _ _ => rfl, fun m ks s => by kernel_rfl⟩
theorem cx35_ok (X : Type) (n : Nat) : CxOK Tryd.prog SW (cx35 X n) := mkCx_ok mixed (tabOK tab_ok) ⟨⟨Tryd.func35, by decide⟩, trivial⟩ ⟨orcOf_ok (ok23 n), trivial⟩ ⟨okC_mk rfl (by kernel_rfl) (castP (by kernel_rfl) (show (LoopOK (cx35 X n) 35 Tryd.f35.ntmps (loopNo Tryd.f35 0) (F.ref03_wide.L3.li X n) ∧ True) ∧ (LoopOK (cx35 X n) 35 Tryd.f35.ntmps (loopNo Tryd.f35 1) (F.ref03_wide.L6.li X n) ∧ True) ∧ True from ⟨⟨F.ref03_wide.L3.ok X n, trivial⟩, ⟨F.ref03_wide.L6.ok X n, trivial⟩, trivial⟩)) (castP (by kernel_rfl) (show True from trivial)), trivial⟩ trivial
theorem ok35 (n : Nat) : FnOK Tryd.prog SW 35 [(.agg [.bool, (.int .u64), (.int .i64)])] (.one .str) (fun x => F.ref03_wide n x.1) := fnOK_of WOf.st (cx35_ok _ n) (d := 8) (fun x => by kernel_rfl)
noncomputable def cx20 (X : Type) (n : Nat) : Cx X := mkCx tab.get [(20, Tryd.f20)] [(35, orcOf [(.agg [.bool, (.int .u64), (.int .i64)])] (.one .str) (fun x => F.ref03_wide n x.1))] [] [] [] []
theorem cx20_ok (X : Type) (n : Nat) : CxOK Tryd.prog SW (cx20 X n) := mkCx_ok mixed (tabOK tab_ok) ⟨⟨Tryd.func20, by decide⟩, trivial⟩ ⟨orcOf_ok (ok35 n), trivial⟩ ⟨okC_mk rfl (by kernel_rfl) (castP (by kernel_rfl) (show True from trivial)) (castP (by kernel_rfl) (show True from trivial)), trivial⟩ trivial
theorem ok20 (n : Nat) : FnOK Tryd.prog SW 20 [(.agg [.bool, (.int .u64), (.int .i64)]), (.agg [.bool, (.int .u64), (.int .i64)])] (.one (.int .i64)) (fun x => F.ref03_Compare n x.1 x.2.1) := fnOK_of WOf.st (cx20_ok _ n) (d := 8) (fun x => by kernel_rfl)
noncomputable def cx7 (X : Type) (n : Nat) : Cx X := mkCx tab.get [(7, Tryd.f7)] [(13, orcOf [(.agg [.bool, (.int .u64), (.int .i64)])] (.one (.int .i64)) (fun x => F.ref03_Check n x.1)), (14, orcOf [] (.one .bool) (fun x => F.law03_awake n )), (17, orcOf [(.agg [.bool, (.int .u64), (.int .i64)])] (.many [.str, (.int .i64)]) (fun x => F.dec_Text n x.1)), (18, orcOf [(.agg [.bool, (.int .u64), (.int .i64)]), (.agg [.bool, (.int .u64), (.int .i64)])] (.many [(.int .i64), (.int .i64)]) (fun x => F.dec_Compare n x.1 x.2.1)), (19, orcOf [(.agg [.bool, (.int .u64), (.int .i64)])] (.one .str) (fun x => F.ref03_Text n x.1)), (20, orcOf [(.agg [.bool, (.int .u64), (.int .i64)]), (.agg [.bool, (.int .u64), (.int .i64)])] (.one (.int .i64)) (fun x => F.ref03_Compare n x.1 x.2.1))] [] [] [] []
theorem cx7_ok (X : Type) (n : Nat) : CxOK Tryd.prog SW (cx7 X n) := mkCx_ok mixed (tabOK tab_ok) ⟨⟨Tryd.func7, by decide⟩, trivial⟩ ⟨orcOf_ok (ok13 n),
  orcOf_ok (ok14 n),
  orcOf_ok (ok17 n),
  orcOf_ok (ok18 n),
  orcOf_ok (ok19 n),
  orcOf_ok (ok20 n), trivial⟩ ⟨okC_mk rfl (by kernel_rfl) (castP (by kernel_rfl) (show True from trivial)) (castP (by kernel_rfl) (show True from trivial)), trivial⟩ trivial
theorem ok7 (n : Nat) : FnOK Tryd.prog SW 7 [(.agg [.bool, (.int .u64), (.int .i64)]), (.agg [.bool, (.int .u64), (.int .i64)])] (.one .bool) (fun x => F.law03_DecTexts n x.1 x.2.1) := fnOK_of WOf.st (cx7_ok _ n) (d := 8) (fun x => by kernel_rfl)
noncomputable def cx22 (X : Type) (n : Nat) : Cx X := mkCx tab.get [(22, Tryd.f22)] [(10, orcOf [(.agg [.bool, (.int .u64), (.int .i64)])] (.many [(.agg [.bool, (.int .u64), (.int .i64)]), (.int .i64)]) (fun x => F.dec_Normal n x.1))] [] [] [] []
theorem cx22_ok (X : Type) (n : Nat) : CxOK Tryd.prog SW (cx22 X n) := mkCx_ok mixed (tabOK tab_ok) ⟨⟨Tryd.func22, by decide⟩, trivial⟩ ⟨orcOf_ok (ok10 n), trivial⟩ ⟨okC_mk rfl (by kernel_rfl) (castP (by kernel_rfl) (show True from trivial)) (castP (by kernel_rfl) (show True from trivial)), trivial⟩ trivial
theorem ok22 (n : Nat) : FnOK Tryd.prog SW 22 [(.int .i64)] (.one (.agg [.bool, (.int .u64), (.int .i64)])) (fun x => F.dec_Of n x.1) := fnOK_of WOf.st (cx22_ok _ n) (d := 8) (fun x => by kernel_rfl)
noncomputable def cx9 (X : Type) (n : Nat) : Cx X := mkCx tab.get [(9, Tryd.f9)] [(12, orcOf [(.agg [.bool, (.int .u64), (.int .i64)])] (.one (.int .i64)) (fun x => F.dec_Check n x.1)), (14, orcOf [] (.one .bool) (fun x => F.law03_awake n )), (17, orcOf [(.agg [.bool, (.int .u64), (.int .i64)])] (.many [.str, (.int .i64)]) (fun x => F.dec_Text n x.1)), (18, orcOf [(.agg [.bool, (.int .u64), (.int .i64)]), (.agg [.bool, (.int .u64), (.int .i64)])] (.many [(.int .i64), (.int .i64)]) (fun x => F.dec_Compare n x.1 x.2.1)), (22, orcOf [(.int .i64)] (.one (.agg [.bool, (.int .u64), (.int .i64)])) (fun x => F.dec_Of n x.1)), (23, orcOf [(.int .u64)] (.one .str) (fun x => F.ref03_Digits n x.1))] [] [] [] []
theorem cx9_ok (X : Type) (n : Nat) : CxOK Tryd.prog SW (cx9 X n) := mkCx_ok mixed (tabOK tab_ok) ⟨⟨Tryd.func9, by decide⟩, trivial⟩ ⟨orcOf_ok (ok12 n),
  orcOf_ok (ok14 n),
  orcOf_ok (ok17 n),
  orcOf_ok (ok18 n),
  orcOf_ok (ok22 n),
  orcOf_ok (ok23 n), trivial⟩ ⟨okC_mk rfl (by kernel_rfl) (castP (by kernel_rfl) (show True from trivial)) (castP (by kernel_rfl) (show True from trivial)), trivial⟩ trivial
theorem ok9 (n : Nat) : FnOK Tryd.prog SW 9 [(.int .i64), (.int .i64)] (.one .bool) (fun x => F.law03_DecWhole n x.1 x.2.1) := fnOK_of WOf.st (cx9_ok _ n) (d := 8) (fun x => by kernel_rfl)
end Go.AM
set_option linter.unusedVariables false
set_option linter.unusedSimpArgs false
namespace Go.AM
def isDig (b : UInt8) : Bool := decide (48 ≤ b.toNat) && decide (b.toNat ≤ 57)
def dv (b : UInt8) : Nat := b.toNat - 48
def valF (a : Nat) (l : List UInt8) : Nat := l.foldl (fun a b => a * 10 + dv b) a
theorem valF_nil (a : Nat) : valF a [] = a := rfl
theorem valF_cons (a : Nat) (b : UInt8) (l : List UInt8) : valF a (b :: l) = valF (a * 10 + dv b) l := by unfold valF; rw [List.foldl_cons]
def val (l : List UInt8) : Nat := valF 0 l
def Digs (l : List UInt8) : Prop := l.all isDig = true
theorem isDig_iff {b : UInt8} : isDig b = true ↔ 48 ≤ b.toNat ∧ b.toNat ≤ 57 := by simp [isDig]
theorem digs_cons {b : UInt8} {l : List UInt8} : Digs (b :: l) ↔ isDig b = true ∧ Digs l := by simp [Digs]
theorem digs_nil : Digs [] := rfl
theorem digs_append {l m : List UInt8} : Digs (l ++ m) ↔ Digs l ∧ Digs m := by simp [Digs]
theorem digs_rep (k : Nat) : Digs (List.replicate k 48) := by
  unfold Digs
  rw [List.all_eq_true]
  intro x hx
  rw [List.eq_of_mem_replicate hx]
  rfl
theorem digs_drop {l : List UInt8} (k : Nat) (h : Digs l) : Digs (l.drop k) := by
  unfold Digs at h ⊢
  rw [List.all_eq_true] at h ⊢
  exact fun x hx => h x (List.mem_of_mem_drop hx)
theorem digs_take {l : List UInt8} (k : Nat) (h : Digs l) : Digs (l.take k) := by
  unfold Digs at h ⊢
  rw [List.all_eq_true] at h ⊢
  exact fun x hx => h x (List.mem_of_mem_take hx)
theorem dv_lt {b : UInt8} (h : isDig b = true) : dv b < 10 := by
  have := isDig_iff.1 h
  unfold dv
  omega
theorem u8_ext {a b : UInt8} (h : a.toNat = b.toNat) : a = b := UInt8.toNat_inj.1 h
theorem dv_inj {a b : UInt8} (ha : isDig a = true) (hb : isDig b = true) (h : dv a = dv b) : a = b := by
  have h1 := isDig_iff.1 ha
  have h2 := isDig_iff.1 hb
  unfold dv at h
  exact u8_ext (by omega)
theorem valF_eq (a : Nat) (l : List UInt8) : valF a l = a * 10 ^ l.length + val l := by
  unfold val
  induction l generalizing a with
  | nil => rw [valF_nil, valF_nil]; simp
  | cons b l ih =>
    simp only [valF_cons, List.length_cons]
    rw [ih (a * 10 + dv b), ih (0 * 10 + dv b), Nat.pow_succ, Nat.add_mul, Nat.zero_mul, Nat.zero_add, Nat.mul_assoc, Nat.mul_comm 10, Nat.add_assoc]
theorem val_nil : val [] = 0 := rfl
theorem val_cons (b : UInt8) (l : List UInt8) : val (b :: l) = dv b * 10 ^ l.length + val l := by
  show valF (0 * 10 + dv b) l = _
  rw [valF_eq, Nat.zero_mul, Nat.zero_add]
theorem val_append (l m : List UInt8) : val (l ++ m) = val l * 10 ^ m.length + val m := by
  induction l with
  | nil => simp [val_nil]
  | cons b l ih => rw [List.cons_append, val_cons, val_cons, ih, List.length_append, Nat.pow_add, Nat.add_mul, Nat.mul_assoc, Nat.add_assoc]
theorem val_snoc (l : List UInt8) (b : UInt8) : val (l ++ [b]) = val l * 10 + dv b := by rw [val_append, val_cons]; simp [val_nil]
theorem val_lt {l : List UInt8} (h : Digs l) : val l < 10 ^ l.length := by
  induction l with
  | nil => simp [val_nil]
  | cons b l ih =>
    obtain ⟨h1, h2⟩ := digs_cons.1 h
    have := ih h2
    have hd := dv_lt h1
    rw [val_cons, List.length_cons, Nat.pow_succ, Nat.mul_comm (10 ^ l.length)]
    have h3 : dv b * 10 ^ l.length ≤ 9 * 10 ^ l.length := Nat.mul_le_mul_right _ (by omega)
    omega
theorem dv_48 : dv 48 = 0 := rfl
theorem val_rep (k : Nat) : val (List.replicate k 48) = 0 := by
  induction k with
  | zero => rfl
  | succ k ih => rw [List.replicate_succ, val_cons, ih, dv_48]; simp
theorem val_zeros_left (k : Nat) (l : List UInt8) : val (List.replicate k 48 ++ l) = val l := by rw [val_append, val_rep]; simp
theorem val_zeros_right (k : Nat) (l : List UInt8) : val (l ++ List.replicate k 48) = val l * 10 ^ k := by rw [val_append, val_rep]; simp
theorem val_eq_zero {l : List UInt8} (hd : Digs l) (h : val l = 0) : l = List.replicate l.length 48 := by
  induction l with
  | nil => rfl
  | cons b l ih =>
    obtain ⟨h1, h2⟩ := digs_cons.1 hd
    rw [val_cons] at h
    have hp : 0 < 10 ^ l.length := Nat.pow_pos (by omega)
    have h3 : dv b = 0 := by
      cases hb : dv b with
      | zero => rfl
      | succ k => rw [hb, Nat.succ_mul] at h; omega
    rw [List.length_cons, List.replicate_succ, ← ih h2 (by omega)]
    rw [dv_inj (a := b) (b := 48) h1 rfl h3]
theorem val_inj {l m : List UInt8} (hl : Digs l) (hm : Digs m) (hlen : l.length = m.length) (h : val l = val m) : l = m := by
  induction l generalizing m with
  | nil => cases m with
    | nil => rfl
    | cons => simp at hlen
  | cons b l ih => cases m with
    | nil => simp at hlen
    | cons c m =>
      obtain ⟨h1, h2⟩ := digs_cons.1 hl
      obtain ⟨h3, h4⟩ := digs_cons.1 hm
      have hlen : l.length = m.length := by simpa using hlen
      rw [val_cons, val_cons, hlen] at h
      have b1 := val_lt h2
      have b2 := val_lt h4
      rw [hlen] at b1
      have hp : 0 < 10 ^ m.length := Nat.pow_pos (by omega)
      have e : dv b = dv c := by
        have q1 := congrArg (· / 10 ^ m.length) h
        simp only [Nat.mul_comm (dv b), Nat.mul_comm (dv c), Nat.mul_add_div hp, Nat.div_eq_of_lt b1, Nat.div_eq_of_lt b2] at q1
        omega
      rw [e] at h
      rw [dv_inj h1 h3 e, ih h2 h4 hlen (by omega)]
theorem dig_of (k : Nat) (h : k < 10) : (UInt8.ofNat (48 + k)).toNat = 48 + k := by simp [UInt8.toNat_ofNat']; omega
theorem isDig_of (k : Nat) (h : k < 10) : isDig (UInt8.ofNat (48 + k)) = true := by rw [isDig_iff, dig_of k h]; omega
theorem dv_of (k : Nat) (h : k < 10) : dv (UInt8.ofNat (48 + k)) = k := by unfold dv; rw [dig_of k h]; omega
theorem dd_small {u : Nat} (h : u < 10) : Lib.decDigits u = [UInt8.ofNat (48 + u)] := Lib.decDigits_one h
theorem dd_big {u : Nat} (h : ¬ u < 10) : Lib.decDigits u = Lib.decDigits (u / 10) ++ [UInt8.ofNat (48 + u % 10)] := by rw [Lib.decDigits, dif_neg h]
theorem dd_digs (u : Nat) : Digs (Lib.decDigits u) := by
  induction u using Nat.strongRecOn with
  | _ u ih =>
    by_cases h : u < 10
    · rw [dd_small h, digs_cons]; exact ⟨isDig_of u h, rfl⟩
    · rw [dd_big h, digs_append, digs_cons]
      exact ⟨ih _ (by omega), isDig_of _ (by omega), rfl⟩
theorem dd_val (u : Nat) : val (Lib.decDigits u) = u := by
  induction u using Nat.strongRecOn with
  | _ u ih =>
    by_cases h : u < 10
    · rw [dd_small h, val_cons, dv_of u h]; simp [val_nil]
    · rw [dd_big h, val_snoc, ih _ (by omega), dv_of _ (by omega)]; omega
theorem dd_ne (u : Nat) : Lib.decDigits u ≠ [] := by
  by_cases h : u < 10
  · rw [dd_small h]; simp
  · rw [dd_big h]; simp
theorem dd_length (u : Nat) : (Lib.decDigits u).length = Lib.nDigits u := Lib.decDigits_length u
theorem dd_length_le {u k : Nat} (hk : 0 < k) (h : u < 10 ^ k) : (Lib.decDigits u).length ≤ k := by
  rw [dd_length]
  induction k generalizing u with
  | zero => omega
  | succ k ih =>
    by_cases h1 : u < 10
    · rw [Lib.nDigits_small h1]; omega
    · rw [Lib.nDigits_big h1]
      cases k with
      | zero => simp at h; omega
      | succ k =>
        have := ih (u := u / 10) (by omega) (by rw [Nat.pow_succ] at h; omega)
        omega
theorem dd_length_ge {u k : Nat} (h : 10 ^ k ≤ u) : k < (Lib.decDigits u).length := by
  rw [dd_length]
  have := Lib.lt_pow_nDigits u
  exact (Nat.pow_lt_pow_iff_right (by omega)).1 (Nat.lt_of_le_of_lt h this)
def Norm (l : List UInt8) : Prop := l ≠ [] ∧ (l.head? = some 48 → l.length = 1)
theorem dd_head (u : Nat) : Norm (Lib.decDigits u) := by
  refine ⟨dd_ne u, ?_⟩
  induction u using Nat.strongRecOn with
  | _ u ih =>
    by_cases h : u < 10
    · rw [dd_small h]; simp
    · rw [dd_big h]
      intro hh
      have hn := dd_ne (u / 10)
      rw [List.head?_append, Option.or_of_isSome (by cases e : Lib.decDigits (u / 10) with | nil => exact absurd e hn | cons => rfl)] at hh
      have h1 := ih (u / 10) (by omega) hh
      have hv := dd_val (u / 10)
      cases e : Lib.decDigits (u / 10) with
      | nil => exact absurd e hn
      | cons b r =>
        rw [e] at h1 hh hv
        have hr : r = [] := by simpa using h1
        subst hr
        have hb : b = 48 := by simpa using hh
        subst hb
        rw [val_cons, dv_48] at hv
        simp [val_nil] at hv
        omega
theorem dd_inv {l : List UInt8} (hd : Digs l) (hn : Norm l) : Lib.decDigits (val l) = l := by
  have hv := dd_val (val l)
  have h1 := dd_digs (val l)
  have h2 := dd_head (val l)
  have hlen : (Lib.decDigits (val l)).length = l.length := by
    cases l with
    | nil => exact absurd rfl hn.1
    | cons b r =>
      have hle : (Lib.decDigits (val (b :: r))).length ≤ (b :: r).length := dd_length_le (by simp) (val_lt hd)
      by_cases hb : b = 48
      · have : r = [] := by simpa using hn.2 (by simp [hb])
        subst this
        have := List.length_pos_iff.2 (dd_ne (val [b]))
        simp at hle ⊢
        omega
      · have h3 : 10 ^ r.length ≤ val (b :: r) := by
          rw [val_cons]
          have : 1 ≤ dv b := by
            cases e : dv b with
            | zero => exact absurd (dv_inj (digs_cons.1 hd).1 (b := 48) rfl e) hb
            | succ k => omega
          have := Nat.mul_le_mul_right (10 ^ r.length) this
          omega
        have := dd_length_ge h3
        simp at hle ⊢
        omega
  exact val_inj h1 hd hlen hv
theorem dd_inj {u v : Nat} (h : Lib.decDigits u = Lib.decDigits v) : u = v := by rw [← dd_val u, h, dd_val]
theorem pu10 (acc : Nat) (l : List UInt8) (hd : Digs l) (ha : acc < 18446744073709551616) : Lib.parseUint10 acc l = if valF acc l < 18446744073709551616 then .ok (valF acc l) else .range := by
  induction l generalizing acc with
  | nil => rw [valF_nil, if_pos ha]; rfl
  | cons b l ih =>
    obtain ⟨h1, h2⟩ := digs_cons.1 hd
    have hb := isDig_iff.1 h1
    have hmono : ∀ x, x ≤ valF x l := fun x => by
      rw [valF_eq]
      have : 0 < 10 ^ l.length := Nat.pow_pos (by omega)
      have := Nat.le_mul_of_pos_right x this
      omega
    have hm := hmono (acc * 10 + dv b)
    simp only [Lib.parseUint10, hb, and_self, if_true]
    rw [valF_cons]
    generalize hV : valF (acc * 10 + dv b) l = V at hm ⊢
    unfold dv at hm
    by_cases h3 : 1844674407370955162 ≤ acc
    · rw [if_pos h3, if_neg (by omega)]
    · rw [if_neg h3]
      by_cases h4 : 18446744073709551616 ≤ acc * 10 + (b.toNat - 48)
      · rw [if_pos h4, if_neg (by omega)]
      · rw [if_neg h4, ih _ h2 (by omega)]
        have : valF (acc * 10 + (b.toNat - 48)) l = V := hV
        rw [this]
theorem atoi_digs {l : List UInt8} (hd : Digs l) (hn : l ≠ []) : Lib.atoiAll l = if val l < 9223372036854775808 then .ok (val l : Int) else .range := by
  cases l with
  | nil => exact absurd rfl hn
  | cons b r =>
    have hb := isDig_iff.1 (digs_cons.1 hd).1
    simp only [Lib.atoiAll]
    rw [if_neg (by omega)]
    unfold Lib.parseMag
    rw [if_neg (by simp), pu10 0 _ hd (by omega)]
    have e : valF 0 (b :: r) = val (b :: r) := rfl
    rw [e]
    by_cases h1 : val (b :: r) < 18446744073709551616
    · rw [if_pos h1]
      simp only []
      by_cases h2 : val (b :: r) < 9223372036854775808
      · rw [if_pos h2, if_neg (by omega), if_neg (by omega), if_neg (by omega)]
      · rw [if_neg h2, if_pos (by omega)]
    · rw [if_neg h1, if_neg (by omega)]
def trz : List UInt8 → List UInt8
  | [] => []
  | b :: l => if trz l = [] then (if b = 48 then [] else [b]) else b :: trz l
theorem trimR_rep (l : List UInt8) (c : UInt8) : ∃ k, l = Lib.trimRightB l c ++ List.replicate k c ∧ (∀ x, (Lib.trimRightB l c).getLast? = some x → x ≠ c) := by
  have h := List.takeWhile_append_dropWhile (p := fun b : UInt8 => b == c) (l := l.reverse)
  refine ⟨(l.reverse.takeWhile (· == c)).length, ?_, ?_⟩
  · unfold Lib.trimRightB
    have h2 := congrArg List.reverse h
    rw [List.reverse_append, List.reverse_reverse] at h2
    have h3 : (l.reverse.takeWhile (· == c)).reverse = List.replicate (l.reverse.takeWhile (· == c)).length c := by
      rw [List.eq_replicate_iff]
      refine ⟨by simp, fun b hb => ?_⟩
      have := List.all_eq_true.1 (List.all_takeWhile (p := fun b : UInt8 => b == c) (l := l.reverse)) b (List.mem_reverse.1 hb)
      simpa using this
    rw [h3] at h2
    exact h2.symm
  · intro x hx
    unfold Lib.trimRightB at hx
    rw [List.getLast?_reverse] at hx
    have := List.head?_dropWhile_not (p := fun b : UInt8 => b == c) (l := l.reverse)
    rw [hx] at this
    simpa using this
theorem trz_rep (l : List UInt8) : ∃ k, l = trz l ++ List.replicate k 48 ∧ (∀ x, (trz l).getLast? = some x → x ≠ 48) := by
  induction l with
  | nil => exact ⟨0, rfl, by simp [trz]⟩
  | cons b l ih =>
    obtain ⟨k, h1, h2⟩ := ih
    unfold trz
    by_cases h : trz l = []
    · rw [if_pos h]
      rw [h, List.nil_append] at h1
      by_cases hb : b = 48
      · rw [if_pos hb]
        exact ⟨k + 1, by rw [List.replicate_succ, ← h1, hb]; rfl, by simp⟩
      · rw [if_neg hb]
        exact ⟨k, by rw [← h1]; rfl, by simp [hb]⟩
    · rw [if_neg h]
      refine ⟨k, by rw [List.cons_append, ← h1], ?_⟩
      intro x hx
      rw [List.getLast?_cons] at hx
      cases e : (trz l).getLast? with
      | none => simp at e; exact absurd e h
      | some y =>
        rw [e] at hx
        have hy := h2 y e
        simp at hx
        rw [← hx]; exact hy
theorem rep_uniq {a b : List UInt8} {c : UInt8} {i j : Nat} (h : a ++ List.replicate i c = b ++ List.replicate j c) (ha : ∀ x, a.getLast? = some x → x ≠ c) (hb : ∀ x, b.getLast? = some x → x ≠ c) : a = b := by
  induction i generalizing j with
  | zero =>
    cases j with
    | zero => simpa using h
    | succ j =>
      rw [List.replicate_succ', ← List.append_assoc] at h
      simp only [List.replicate_zero, List.append_nil] at h
      exact absurd rfl (ha c (by rw [h]; simp))
  | succ i ih =>
    cases j with
    | zero =>
      rw [List.replicate_succ', ← List.append_assoc] at h
      simp only [List.replicate_zero, List.append_nil] at h
      exact absurd rfl (hb c (by rw [← h]; simp))
    | succ j =>
      rw [List.replicate_succ', List.replicate_succ', ← List.append_assoc, ← List.append_assoc] at h
      exact ih (List.append_inj_left' h rfl)
theorem trimR_trz (l : List UInt8) : Lib.trimRightB l 48 = trz l := by
  obtain ⟨i, h1, h2⟩ := trimR_rep l 48
  obtain ⟨j, h3, h4⟩ := trz_rep l
  exact rep_uniq (h1.symm.trans h3) h2 h4
theorem trz_zeros (l : List UInt8) (k : Nat) : trz (l ++ List.replicate k 48) = trz l := by
  obtain ⟨i, h1, h2⟩ := trz_rep (l ++ List.replicate k 48)
  obtain ⟨j, h3, h4⟩ := trz_rep l
  refine rep_uniq (i := i) (j := j + k) (c := 48) ?_ h2 h4
  rw [← h1]
  conv => lhs; rw [h3]
  rw [List.append_assoc, List.replicate_append_replicate]
theorem trz_self {l : List UInt8} (h : ∀ x, l.getLast? = some x → x ≠ 48) : trz l = l := by
  obtain ⟨j, h3, h4⟩ := trz_rep l
  exact (rep_uniq (i := 0) (j := j) (c := 48) (by rw [← h3]; simp) h h4).symm
theorem trz_le (l : List UInt8) : (trz l).length ≤ l.length := by
  obtain ⟨k, h1, _⟩ := trz_rep l
  have := congrArg List.length h1
  simp at this
  omega
theorem trz_digs {l : List UInt8} (h : Digs l) : Digs (trz l) := by
  obtain ⟨k, h1, _⟩ := trz_rep l
  rw [h1, digs_append] at h
  exact h.1
theorem trz_pad (l : List UInt8) : l = trz l ++ List.replicate (l.length - (trz l).length) 48 := by
  obtain ⟨k, h1, _⟩ := trz_rep l
  have := congrArg List.length h1
  simp at this
  rw [show l.length - (trz l).length = k from by omega]
  exact h1
theorem trz_last {l : List UInt8} {x : UInt8} (h : (trz l).getLast? = some x) : x ≠ 48 := by
  obtain ⟨k, _, h2⟩ := trz_rep l
  exact h2 x h
theorem trz_nil {l : List UInt8} (hd : Digs l) : trz l = [] ↔ val l = 0 := by
  constructor
  · intro h
    have := trz_pad l
    rw [h, List.nil_append] at this
    rw [this, val_rep]
  · intro h
    have := val_eq_zero hd h
    obtain ⟨k, h1, h2⟩ := trz_rep l
    rw [this] at h1 ⊢
    have := trz_zeros [] l.length
    simpa [trz] using this
theorem bl_cons (b c : UInt8) (l m : List UInt8) : Op.bytesLess (b :: l) (c :: m) = (decide (b.toNat < c.toNat) || (decide (b.toNat = c.toNat) && Op.bytesLess l m)) := by
  show (decide (b < c) || ((b == c) && Op.bytesLess l m)) = _
  congr 1
  congr 1
  by_cases h : b = c
  · simp [h]
  · have : ¬ b.toNat = c.toNat := fun hh => h (u8_ext hh)
    simp [h, this]
theorem bl_nil (l : List UInt8) : Op.bytesLess l [] = false := by cases l <;> rfl
theorem bl_nil' (l : List UInt8) : Op.bytesLess [] l = decide (l ≠ []) := by cases l <;> simp [Op.bytesLess]
theorem less_val {l m : List UInt8} (hl : Digs l) (hm : Digs m) (hlen : l.length = m.length) : Op.bytesLess l m = decide (val l < val m) := by
  induction l generalizing m with
  | nil => cases m with
    | nil => rfl
    | cons => simp at hlen
  | cons b l ih => cases m with
    | nil => simp at hlen
    | cons c m =>
      obtain ⟨h1, h2⟩ := digs_cons.1 hl
      obtain ⟨h3, h4⟩ := digs_cons.1 hm
      have hlen : l.length = m.length := by simpa using hlen
      have b1 := val_lt h2
      have b2 := val_lt h4
      rw [hlen] at b1
      have d1 := isDig_iff.1 h1
      have d2 := isDig_iff.1 h3
      rw [bl_cons, val_cons, val_cons, hlen]
      by_cases hn : b.toNat < c.toNat
      · have : (dv b + 1) * 10 ^ m.length ≤ dv c * 10 ^ m.length := Nat.mul_le_mul_right _ (by unfold dv; omega)
        rw [Nat.add_mul] at this
        have h5 : dv b * 10 ^ m.length + val l < dv c * 10 ^ m.length + val m := by omega
        simp [hn, h5]
      · by_cases hn' : c.toNat < b.toNat
        · have : (dv c + 1) * 10 ^ m.length ≤ dv b * 10 ^ m.length := Nat.mul_le_mul_right _ (by unfold dv; omega)
          rw [Nat.add_mul] at this
          have h5 : ¬ dv b * 10 ^ m.length + val l < dv c * 10 ^ m.length + val m := by omega
          have h6 : ¬ b.toNat = c.toNat := by omega
          simp [hn, h5, h6]
        · rw [ih h2 h4 hlen]
          have : b = c := u8_ext (by omega)
          subst this
          simp
theorem less_trz {l m : List UInt8} (hl : Digs l) (hm : Digs m) (hlen : l.length = m.length) : Op.bytesLess (trz l) (trz m) = Op.bytesLess l m := by
  induction l generalizing m with
  | nil => cases m with
    | nil => rfl
    | cons => simp at hlen
  | cons b l ih => cases m with
    | nil => simp at hlen
    | cons c m =>
      obtain ⟨h1, h2⟩ := digs_cons.1 hl
      obtain ⟨h3, h4⟩ := digs_cons.1 hm
      have hlen : l.length = m.length := by simpa using hlen
      have d1 := isDig_iff.1 h1
      have d2 := isDig_iff.1 h3
      have hi := ih h2 h4 hlen
      have e0 : ∀ x : UInt8, x = 48 ↔ x.toNat = 48 := fun x => ⟨fun h => by rw [h]; rfl, fun h => u8_ext h⟩
      rw [bl_cons, ← hi]
      simp only [trz]
      by_cases t1 : trz l = [] <;> by_cases t2 : trz m = [] <;> by_cases c1 : b.toNat = 48 <;> by_cases c2 : c.toNat = 48 <;>
        simp only [t1, t2, e0, c1, c2, if_true, if_false, bl_cons, bl_nil, bl_nil', Bool.and_false, Bool.or_false] <;> simp [t2] <;> omega
end Go.AM
set_option linter.unusedVariables false
set_option linter.unusedSimpArgs false
namespace Go.AM
abbrev DecD := Bool × Int × Int × Unit
abbrev DecR := DecD × Int × Unit
def two64 : Nat := 18446744073709551616
theorem two64_eq : two64 = 18446744073709551616 := rfl
def normR (neg : Bool) (c0 : Nat) (E : Int) : DecR :=
  if E < -18 then ((false, 0, 0, ()), 10, ()) else if c0 * 10 ^ (E - 18).toNat < two64 then ((neg, ((c0 * 10 ^ (E - 18).toNat : Nat) : Int), (if E ≤ 18 then E else 18), ()), 0, ()) else ((false, 0, 0, ()), 10, ())
def zeroD : DecR := ((false, 0, 0, ()), 0, ())
def valR (neg : Bool) (d : List UInt8) (e : Int) : DecR :=
  if val d = 0 then zeroD else normR neg (val (trz d)) (e + ((d.length - (trz d).length : Nat) : Int))
theorem val_trz (d : List UInt8) : val d = val (trz d) * 10 ^ (d.length - (trz d).length) := by
  have := congrArg val (trz_pad d)
  rw [val_zeros_right] at this
  exact this
theorem core_trz {d : List UInt8} (hd : Digs d) (h : val d ≠ 0) : val (trz d) % 10 ≠ 0 := by
  have hne : trz d ≠ [] := fun hh => h ((trz_nil hd).1 hh)
  obtain ⟨x, hx⟩ : ∃ x, (trz d).getLast? = some x := by
    cases e : (trz d).getLast? with
    | none => simp at e; exact absurd e hne
    | some x => exact ⟨x, rfl⟩
  have hx48 := trz_last hx
  obtain ⟨ys, hys⟩ := List.getLast?_eq_some_iff.1 hx
  have hdig := trz_digs hd
  rw [hys] at hdig ⊢
  obtain ⟨_, h2⟩ := digs_append.1 hdig
  obtain ⟨h3, _⟩ := digs_cons.1 h2
  rw [val_snoc]
  have := dv_lt h3
  have h0 : dv x ≠ 0 := fun h0 => hx48 (dv_inj h3 (b := 48) rfl h0)
  omega
theorem core_unique {a b i j : Nat} (ha : a % 10 ≠ 0) (hb : b % 10 ≠ 0) (h : a * 10 ^ i = b * 10 ^ j) : a = b ∧ i = j := by
  induction i generalizing j with
  | zero =>
    cases j with
    | zero => simpa using h
    | succ j => rw [Nat.pow_zero, Nat.mul_one, Nat.pow_succ, ← Nat.mul_assoc] at h; omega
  | succ i ih =>
    cases j with
    | zero => rw [Nat.pow_zero, Nat.mul_one, Nat.pow_succ, ← Nat.mul_assoc] at h; omega
    | succ j =>
      rw [Nat.pow_succ, Nat.pow_succ, ← Nat.mul_assoc, ← Nat.mul_assoc] at h
      obtain ⟨h1, h2⟩ := ih (Nat.eq_of_mul_eq_mul_right (by omega) h)
      exact ⟨h1, by omega⟩
theorem valR_core {d : List UInt8} (hd : Digs d) {c0 z : Nat} (h0 : c0 % 10 ≠ 0) (hv : val d = c0 * 10 ^ z) (neg : Bool) (e : Int) : valR neg d e = normR neg c0 (e + z) := by
  have hne : val d ≠ 0 := by
    rw [hv]
    have := Nat.mul_pos (show 0 < c0 by omega) (Nat.pow_pos (n := z) (show 0 < 10 by omega))
    omega
  unfold valR
  rw [if_neg hne]
  obtain ⟨h1, h2⟩ := core_unique (core_trz hd hne) h0 ((val_trz d).symm.trans hv)
  rw [h1, h2]
theorem ten_split (c : Nat) (h : 0 < c) : ∃ c0 z, c = c0 * 10 ^ z ∧ c0 % 10 ≠ 0 := by
  induction c using Nat.strongRecOn with
  | _ c ih =>
    by_cases h1 : c % 10 = 0
    · obtain ⟨c0, z, h2, h3⟩ := ih (c / 10) (by omega) (by omega)
      exact ⟨c0, z + 1, by rw [Nat.pow_succ, ← Nat.mul_assoc, ← h2]; omega, h3⟩
    · exact ⟨c, 0, by simp, h1⟩
theorem valR_zeros_left (neg : Bool) {d : List UInt8} (hd : Digs d) (k : Nat) (e : Int) : valR neg (List.replicate k 48 ++ d) e = valR neg d e := by
  have hD : Digs (List.replicate k 48 ++ d) := digs_append.2 ⟨digs_rep _, hd⟩
  by_cases h : val d = 0
  · have : val (List.replicate k 48 ++ d) = 0 := by rw [val_zeros_left, h]
    unfold valR
    rw [if_pos h, if_pos this]
  · obtain ⟨c0, z, h1, h2⟩ := ten_split (val d) (by omega)
    rw [valR_core hd h2 h1, valR_core hD h2 (by rw [val_zeros_left, h1])]
theorem valR_zeros_right (neg : Bool) {d : List UInt8} (hd : Digs d) (k : Nat) (e : Int) : valR neg (d ++ List.replicate k 48) e = valR neg d (e + k) := by
  have hD : Digs (d ++ List.replicate k 48) := digs_append.2 ⟨hd, digs_rep _⟩
  by_cases h : val d = 0
  · have : val (d ++ List.replicate k 48) = 0 := by rw [val_zeros_right, h]; simp
    unfold valR
    rw [if_pos h, if_pos this]
  · obtain ⟨c0, z, h1, h2⟩ := ten_split (val d) (by omega)
    rw [valR_core hd h2 h1, valR_core hD h2 (z := z + k) (by rw [val_zeros_right, h1, Nat.pow_add, Nat.mul_assoc])]
    congr 1
    omega
theorem times_eq (n : Nat) (c d : Nat) (hc : c < two64) (hd : d < two64) : F.dec_times n (c : Int) (d : Int) = some ((((c * 10 + d) % two64 : Nat) : Int), decide (c * 10 + d < two64), ()) := by
  unfold F.dec_times O.mul64
  rw [two64_eq] at *
  rw [bif_pos (by omega), some_bind']
  unfold O.add64
  rw [show (c : Int).toNat = c from rfl, show (10 : Int).toNat = 10 from rfl]
  dsimp only
  rw [bif_pos (by omega), some_bind']
  simp only [Int.toNat_natCast, show (0 : Int).toNat = 0 from rfl, Nat.add_zero]
  by_cases h : c * 10 < 18446744073709551616
  · have e1 : ((((c * 10 / 18446744073709551616 : Nat) : Int)) == 0) = true := by simp; omega
    rw [e1, cond_true]
    have e2 : c * 10 % 18446744073709551616 = c * 10 := Nat.mod_eq_of_lt h
    rw [e2]
    congr 2
    congr 1
    by_cases h2 : c * 10 + d < 18446744073709551616
    · have : (c * 10 + d) / 18446744073709551616 = 0 := Nat.div_eq_of_lt h2
      simp [h2, this]
    · have : ¬ (c * 10 + d) / 18446744073709551616 = 0 := by omega
      have e : ((((c * 10 + d) / 18446744073709551616 : Nat) : Int) == 0) = false := by simp; omega
      rw [e]; simp [h2]
  · have e1 : ((((c * 10 / 18446744073709551616 : Nat) : Int)) == 0) = false := by simp; omega
    rw [e1, cond_false]
    have : ¬ c * 10 + d < 18446744073709551616 := by omega
    simp only [this, decide_false]
    congr 2
    omega
theorem strip_norm (n : Nat) (X : Type) (k0 : Bool → Int → Int → Bool → Int → Int → Option X) (neg b : Bool) (x y : Int) (c0 : Nat) (h0 : c0 % 10 ≠ 0) : ∀ (z m : Nat) (e : Int), c0 * 10 ^ z < two64 → -9223372036854775808 ≤ e → e + z ≤ 9223372036854775807 → z < m →
    ∃ j, j ≤ z ∧ F.dec_Normal.L3 n k0 m neg ((c0 * 10 ^ z : Nat) : Int) e b x y = k0 neg ((c0 * 10 ^ j : Nat) : Int) (e + z - j) b x y ∧ (j = 0 ∨ 18 ≤ e + z - j) ∧ (e + z - j ≤ 18 ∨ j = z) := by
  intro z
  induction z with
  | zero =>
    intro m e hc he1 he2 hm
    obtain ⟨m, rfl⟩ : ∃ q, m = q + 1 := ⟨m - 1, by omega⟩
    refine ⟨0, Nat.le_refl _, ?_, Or.inl rfl, Or.inr rfl⟩
    show F.dec_Normal.L3.step n _ k0 _ _ _ _ _ _ = _
    unfold F.dec_Normal.L3.step
    have e1 : ((((c0 * 10 ^ 0 : Nat) : Int).tmod 10) == 0) = false := by
      rw [Nat.pow_zero, Nat.mul_one]
      have : ¬ ((c0 : Int).tmod 10) = 0 := by
        rw [show ((c0 : Int).tmod 10) = ((c0 % 10 : Nat) : Int) from rfl]; omega
      simpa using this
    rw [e1, cond_false]
    congr 1
    omega
  | succ z ih =>
    intro m e hc he1 he2 hm
    obtain ⟨m, rfl⟩ : ∃ q, m = q + 1 := ⟨m - 1, by omega⟩
    have hstep : F.dec_Normal.L3 n k0 (m + 1) neg ((c0 * 10 ^ (z + 1) : Nat) : Int) e b x y = F.dec_Normal.L3.step n (F.dec_Normal.L3 n k0 m) k0 neg ((c0 * 10 ^ (z + 1) : Nat) : Int) e b x y := rfl
    have hmul : c0 * 10 ^ (z + 1) = c0 * 10 ^ z * 10 := by rw [Nat.pow_succ, Nat.mul_assoc]
    have e1 : ((((c0 * 10 ^ (z + 1) : Nat) : Int).tmod 10) == 0) = true := by
      have : ((c0 * 10 ^ (z + 1) : Nat) : Int).tmod 10 = 0 := by
        rw [show (((c0 * 10 ^ (z + 1) : Nat) : Int).tmod 10) = ((c0 * 10 ^ (z + 1) % 10 : Nat) : Int) from rfl]; omega
      simpa using this
    have e2 : ((c0 * 10 ^ (z + 1) : Nat) : Int).tdiv 10 = ((c0 * 10 ^ z : Nat) : Int) := by
      rw [show (((c0 * 10 ^ (z + 1) : Nat) : Int).tdiv 10) = ((c0 * 10 ^ (z + 1) / 10 : Nat) : Int) from rfl]; omega
    rw [hstep]
    unfold F.dec_Normal.L3.step
    rw [e1, cond_true]
    by_cases h18 : e < 18
    · rw [bif_pos h18, e2, IntWalk.u64_in _ (by rw [two64_eq] at hc; omega), wrap_in (by omega)]
      obtain ⟨j, j1, j2, j3, j4⟩ := ih m (e + 1) (by omega) (by omega) (by omega) (by omega)
      refine ⟨j, by omega, ?_, ?_, ?_⟩
      · rw [j2]
        congr 1
        omega
      · rcases j3 with j3 | j3
        · exact Or.inl j3
        · exact Or.inr (by omega)
      · rcases j4 with j4 | j4
        · exact Or.inl (by omega)
        · exact Or.inl (by omega)
    · rw [bif_neg h18]
      refine ⟨z + 1, Nat.le_refl _, ?_, Or.inr (by omega), Or.inr rfl⟩
      congr 1
      omega
theorem grow_norm (n : Nat) (X : Type) (k2 : Bool → Int → Int → Bool → Int → Int → Option X) (K : Int → Bool → Int → Int → Option X) (neg b : Bool) (x y : Int) : ∀ (m c d : Nat), 0 < c → c < two64 → two64 ≤ c * 10 ^ m → 18 + (d : Int) ≤ 9223372036854775807 →
    F.dec_Normal.L5 n k2 (fun q _ _ _ u v w => K q u v w) (m + 1) neg (c : Int) (18 + (d : Int)) b x y = if c * 10 ^ d < two64 then k2 neg ((c * 10 ^ d : Nat) : Int) 18 b x y else K 10 false 0 0 := by
  intro m
  induction m with
  | zero => intro c d h1 h2 h3; rw [Nat.pow_zero, Nat.mul_one] at h3; omega
  | succ m ih =>
    intro c d h1 h2 h3 h4
    have hstep : F.dec_Normal.L5 n k2 (fun q _ _ _ u v w => K q u v w) (m + 1 + 1) neg (c : Int) (18 + (d : Int)) b x y = F.dec_Normal.L5.step n (F.dec_Normal.L5 n k2 (fun q _ _ _ u v w => K q u v w) (m + 1)) k2 (fun q _ _ _ u v w => K q u v w) neg (c : Int) (18 + (d : Int)) b x y := rfl
    rw [hstep]
    unfold F.dec_Normal.L5.step
    cases d with
    | zero =>
      rw [bif_neg (by omega), Nat.pow_zero, Nat.mul_one, if_pos h2]
      rfl
    | succ d =>
      rw [bif_pos (by omega), show (0 : Int) = ((0 : Nat) : Int) from rfl, times_eq n c 0 h2 (by decide), some_bind']
      have hp : c * 10 ≤ c * 10 ^ (d + 1) := by
        rw [Nat.pow_succ, ← Nat.mul_assoc]
        have : 0 < 10 ^ d := Nat.pow_pos (by omega)
        have := Nat.le_mul_of_pos_right c this
        omega
      by_cases hf : c * 10 + 0 < two64
      · simp only [hf, decide_true, Bool.not_true, cond_false]
        rw [wrap_in (by omega), show (18 + ((d + 1 : Nat) : Int) - 1) = 18 + (d : Int) from by omega, Nat.mod_eq_of_lt hf]
        have := ih (c * 10 + 0) d (by omega) hf (by rw [Nat.pow_succ] at h3; rw [Nat.add_zero, Nat.mul_assoc, Nat.mul_comm 10]; exact h3) (by omega)
        rw [show ((0 : Nat) : Int) = (0 : Int) from rfl] at *
        rw [this, Nat.add_zero, Nat.mul_assoc, Nat.mul_comm 10, ← Nat.pow_succ]
      · have : ¬ c * 10 ^ (d + 1) < two64 := by omega
        simp only [hf, decide_false, Bool.not_false, cond_true]
        rw [if_neg this]
theorem normal_core (n : Nat) (hn : 100 ≤ n) (neg : Bool) (c0 z : Nat) (h0 : c0 % 10 ≠ 0) (hc : c0 * 10 ^ z < two64) (e : Int) (he : -9223372036854775808 ≤ e ∧ e ≤ 9223372036854775807) :
    F.dec_Normal n (neg, ((c0 * 10 ^ z : Nat) : Int), e, ()) = some (normR neg c0 (e + z)) := by
  have hz : z ≤ 20 := by
    refine Classical.byContradiction fun hh => ?_
    have h1 : 10 ^ 20 ≤ 10 ^ z := Nat.pow_le_pow_right (by omega) (by omega)
    have h2 := Nat.le_mul_of_pos_left (10 ^ z) (show 0 < c0 by omega)
    rw [two64_eq] at hc
    omega
  have hpos : 0 < c0 * 10 ^ z := Nat.mul_pos (by omega) (Nat.pow_pos (by omega))
  unfold F.dec_Normal
  have e0 : (((c0 * 10 ^ z : Nat) : Int) == 0) = false := by
    have : ¬ ((c0 * 10 ^ z : Nat) : Int) = 0 := by omega
    simpa using this
  simp only [e0, cond_false]
  by_cases hbig : 9223372036854775807 < e + z
  ·
    have h18 : ¬ e < 18 := by omega
    obtain ⟨m, rfl⟩ : ∃ q, n = q + 1 := ⟨n - 1, by omega⟩
    have hs : ∀ (k0 : Bool → Int → Int → Bool → Int → Int → Option DecR), F.dec_Normal.L3 (m + 1) k0 (m + 1) neg ((c0 * 10 ^ z : Nat) : Int) e false 0 0 = k0 neg ((c0 * 10 ^ z : Nat) : Int) e false 0 0 := by
      intro k0
      show F.dec_Normal.L3.step (m + 1) (F.dec_Normal.L3 (m + 1) k0 m) k0 _ _ _ _ _ _ = _
      unfold F.dec_Normal.L3.step
      rw [bif_neg h18]
      cases (((c0 * 10 ^ z : Nat) : Int).tmod 10 == 0) <;> rfl
    rw [hs]
    obtain ⟨d, hd⟩ : ∃ d : Nat, e = 18 + (d : Int) := ⟨(e - 18).toNat, by omega⟩
    have hfuel : two64 ≤ c0 * 10 ^ z * 10 ^ m := by
      have h1 : 10 ^ 20 ≤ 10 ^ m := Nat.pow_le_pow_right (by omega) (by omega)
      have h2 := Nat.le_mul_of_pos_left (10 ^ m) hpos
      rw [two64_eq]
      omega
    rw [hd, grow_norm (m + 1) _ _ (fun q u v w => some ((u, v, w, ()), q, ())) neg false 0 0 m _ d hpos hc hfuel (by omega)]
    have hnot : ∀ w, 20 ≤ w → ¬ c0 * 10 ^ w < two64 := by
      intro w hw
      have h1 : 10 ^ 20 ≤ 10 ^ w := Nat.pow_le_pow_right (by omega) hw
      have h2 := Nat.le_mul_of_pos_left (10 ^ w) (show 0 < c0 by omega)
      rw [two64_eq]
      omega
    unfold normR
    rw [if_neg (show ¬ 18 + (d : Int) + z < -18 by omega), if_neg (by rw [Nat.mul_assoc, ← Nat.pow_add]; exact hnot _ (by omega)), if_neg (hnot _ (by omega))]
  · obtain ⟨j, j1, j2, j3, j4⟩ := strip_norm n DecR (fun e1_b0_0 e1_b0_1 e1_b0_2 e1_b1_0 e1_b1_1 e1_b1_2 =>
        F.dec_Normal.L5 n
          (fun e3_b0_0 e3_b0_1 e3_b0_2 e3_b1_0 e3_b1_1 e3_b1_2 =>
            bif decide (e3_b0_2 < (-18 : Int)) then
              some (((false, (0 : Int), (0 : Int), ()), (10 : Int), ()))
            else
              some (((e3_b0_0, e3_b0_1, e3_b0_2, ()), (0 : Int), ())))
          (fun e4_3 e4_b0_0 e4_b0_1 e4_b0_2 e4_b1_0 e4_b1_1 e4_b1_2 =>
            some (((e4_b1_0, e4_b1_1, e4_b1_2, ()), e4_3, ()))) n e1_b0_0 e1_b0_1 e1_b0_2 e1_b1_0 e1_b1_1 e1_b1_2) neg false 0 0 c0 h0 z n e hc he.1 (by omega) (by omega)
    refine j2.trans ?_
    have hcj : c0 * 10 ^ j < two64 := by
      have h1 : 10 ^ j ≤ 10 ^ z := Nat.pow_le_pow_right (by omega) j1
      have := Nat.mul_le_mul_left c0 h1
      omega
    have hposj : 0 < c0 * 10 ^ j := Nat.mul_pos (by omega) (Nat.pow_pos (by omega))
    obtain ⟨m, rfl⟩ : ∃ q, n = q + 1 := ⟨n - 1, by omega⟩
    by_cases hE : 18 ≤ e + z - j
    · obtain ⟨d, hd⟩ : ∃ d : Nat, e + z - j = 18 + (d : Int) := ⟨(e + z - j - 18).toNat, by omega⟩
      have hfuel : two64 ≤ c0 * 10 ^ j * 10 ^ m := by
        have h1 : 10 ^ 20 ≤ 10 ^ m := Nat.pow_le_pow_right (by omega) (by omega)
        have h2 := Nat.le_mul_of_pos_left (10 ^ m) hposj
        rw [two64_eq]
        omega
      show F.dec_Normal.L5 (m + 1) _ _ (m + 1) neg _ (e + z - j) false 0 0 = _
      rw [hd, grow_norm (m + 1) _ _ (fun q u v w => some ((u, v, w, ()), q, ())) neg false 0 0 m _ d hposj hcj hfuel (by omega)]
      unfold normR
      rw [if_neg (show ¬ e + z < -18 by omega), Nat.mul_assoc, ← Nat.pow_add, show j + d = (e + z - 18).toNat from by omega]
      by_cases hf : c0 * 10 ^ (e + z - 18).toNat < two64
      · rw [if_pos hf, if_pos hf, bif_neg (by omega)]
        congr 3
        by_cases hh : e + z ≤ 18
        · rw [if_pos hh, show e + (z : Int) = 18 from by omega]
        · rw [if_neg hh]
      · rw [if_neg hf, if_neg hf]
    · have hj0 : j = 0 := by omega
      subst hj0
      have hlow : ∀ (k2 : Bool → Int → Int → Bool → Int → Int → Option DecR) (kr : Int → Bool → Int → Int → Bool → Int → Int → Option DecR) (c : Int) (E : Int), ¬ E > 18 → F.dec_Normal.L5 (m + 1) k2 kr (m + 1) neg c E false 0 0 = k2 neg c E false 0 0 := by
        intro k2 kr c E hE
        show F.dec_Normal.L5.step (m + 1) (F.dec_Normal.L5 (m + 1) k2 kr m) k2 kr neg c E false 0 0 = _
        unfold F.dec_Normal.L5.step
        rw [bif_neg hE]
      rw [hlow _ _ _ _ (by omega)]
      unfold normR
      rw [Nat.pow_zero, Nat.mul_one, show (e + (z : Int) - 18).toNat = 0 from by omega, Nat.pow_zero, Nat.mul_one, show (e + (z : Int) - ((0 : Nat) : Int)) = e + z from by omega]
      by_cases h18 : e + z < -18
      · rw [bif_pos h18, if_pos h18]
      · rw [bif_neg h18, if_neg h18, if_pos (by rw [Nat.pow_zero, Nat.mul_one] at hcj; exact hcj), if_pos (by omega)]
theorem normal_eq (n : Nat) (hn : 100 ≤ n) (neg : Bool) (c : Nat) (hc : c < two64) (e : Int) (he : -9223372036854775808 ≤ e ∧ e ≤ 9223372036854775807) : F.dec_Normal n (neg, (c : Int), e, ()) = some (valR neg (Lib.decDigits c) e) := by
  by_cases h : c = 0
  · subst h
    unfold valR
    rw [if_pos (dd_val 0)]
    rfl
  · obtain ⟨c0, z, h1, h2⟩ := ten_split c (by omega)
    rw [valR_core (dd_digs c) h2 (by rw [dd_val]; exact h1)]
    rw [h1] at hc ⊢
    exact normal_core n hn neg c0 z h2 hc e he
end Go.AM
set_option linter.unusedVariables false
set_option linter.unusedSimpArgs false
namespace Go.AM
theorem digits03_go (n : Nat) : ∀ (m u : Nat), u < 18446744073709551616 → Lib.nDigits u ≤ m → F.ref03_Digits.go n m (u : Int) = some (Lib.decDigits u) := by
  intro m
  induction m with
  | zero =>
    intro u _ h
    have := Lib.nDigits_pos u
    omega
  | succ m ih =>
    intro u hu h
    have one : ∀ d : Nat, d < 10 → sub ([48, 49, 50, 51, 52, 53, 54, 55, 56, 57] : List UInt8) (d : Int) ((d + 1 : Nat) : Int) = some [UInt8.ofNat (48 + d)] := by
      intro d hd
      rw [sub_nat _ _ _ (by omega) (by simp; omega)]
      have := (by decide : ∀ d : Fin 10, (([48, 49, 50, 51, 52, 53, 54, 55, 56, 57] : List UInt8).take (d.val + 1)).drop d.val = [UInt8.ofNat (48 + d.val)]) ⟨d, hd⟩
      rw [this]
    show (bif decide ((u : Int) < 10) then _ else _) = _
    by_cases h1 : u < 10
    · rw [bif_pos (by omega), show IntKind.wrap .u64 ((u : Int) + 1) = ((u + 1 : Nat) : Int) from by rw [IntWalk.u64_in _ (by omega)]; omega, one u h1, some_bind', dd_small h1]
    · rw [bif_neg (by omega)]
      have e1 : (u : Int).tdiv 10 = ((u / 10 : Nat) : Int) := rfl
      have e2 : (u : Int).tmod 10 = ((u % 10 : Nat) : Int) := rfl
      have hN := Lib.nDigits_big h1
      rw [e1, e2, IntWalk.u64_in _ (by omega), ih (u / 10) (by omega) (by omega), some_bind', show IntKind.wrap .u64 (((u % 10 : Nat) : Int) + 1) = ((u % 10 + 1 : Nat) : Int) from by rw [IntWalk.u64_in _ (by omega)]; omega, one (u % 10) (by omega), some_bind', dd_big h1, bif_pos]
      have := Lib.nDigits_le20 (u / 10) (by omega)
      rw [dd_length, strMax_eq]
      simp; omega
theorem digits03 (n : Nat) (hn : 20 ≤ n) (u : Nat) (hu : u < two64) : F.ref03_Digits n (u : Int) = some (Lib.decDigits u) := by
  unfold F.ref03_Digits
  exact digits03_go n n u hu (Nat.le_trans (Lib.nDigits_le20 u hu) hn)
def lz (d : List UInt8) : List UInt8 := d.dropWhile (· == 48)
theorem lz_rep (d : List UInt8) : d = List.replicate (d.length - (lz d).length) 48 ++ lz d := by
  induction d with
  | nil => rfl
  | cons b d ih =>
    unfold lz at ih ⊢
    by_cases h : b = 48
    · subst h
      have e : ((48 : UInt8) :: d).dropWhile (· == 48) = d.dropWhile (· == 48) := by simp [List.dropWhile_cons]
      have hl : (d.dropWhile (· == 48)).length ≤ d.length := (List.dropWhile_sublist _).length_le
      rw [e, List.length_cons, show d.length + 1 - (d.dropWhile (· == 48)).length = (d.length - (d.dropWhile (· == 48)).length) + 1 from by omega, List.replicate_succ, List.cons_append, ← ih]
    · have e : (b :: d).dropWhile (· == 48) = b :: d := by simp [List.dropWhile_cons, h]
      rw [e]
      simp
theorem lz_head {d : List UInt8} {x : UInt8} (h : (lz d).head? = some x) : x ≠ 48 := by
  have := List.head?_dropWhile_not (p := fun b : UInt8 => b == 48) (l := d)
  unfold lz at h
  rw [h] at this
  simpa using this
theorem lz_val (d : List UInt8) : val (lz d) = val d := by
  conv => rhs; rw [lz_rep d]
  rw [val_zeros_left]
theorem lz_digs {d : List UInt8} (h : Digs d) : Digs (lz d) := by
  rw [lz_rep d, digs_append] at h
  exact h.2
theorem lz_le (d : List UInt8) : (lz d).length ≤ d.length := (List.dropWhile_sublist _).length_le
theorem u8_48 (x : UInt8) : ((x.toNat : Int) == 48) = decide (x = 48) := by
  by_cases h : x = 48
  · subst h; rfl
  · have : ¬ (x.toNat : Int) = 48 := fun hh => h (u8_ext (by simp; omega))
    rw [beq_eq_false_iff_ne.2 this, decide_eq_false h]
theorem lead_loop (n : Nat) (X : Type) (k0 : Bool → (List UInt8) → Int → Bool → Int → Int → Option X) (neg b : Bool) (e x y : Int) : ∀ (d : List UInt8) (m : Nat), d.length < m → d.length < 4611686018427387904 → F.ref03_Make.L1 n k0 m neg d e b x y = k0 neg (lz d) e b x y := by
  intro d
  induction d with
  | nil =>
    intro m hm _
    obtain ⟨m, rfl⟩ : ∃ q, m = q + 1 := ⟨m - 1, by omega⟩
    rfl
  | cons c d ih =>
    intro m hm hl
    obtain ⟨m, rfl⟩ : ∃ q, m = q + 1 := ⟨m - 1, by omega⟩
    show F.ref03_Make.L1.step n (F.ref03_Make.L1 n k0 m) k0 neg (c :: d) e b x y = _
    unfold F.ref03_Make.L1.step
    have ei : idx (c :: d) (0 : Int) = some c := rfl
    rw [bif_pos (by simp), ei, some_bind', u8_48]
    have hsub : sub (c :: d) 1 (((c :: d).length : Nat) : Int) = some d := by
      have := sub_nat (c :: d) 1 (c :: d).length (by simp) (by simp)
      rw [List.take_length] at this
      exact this
    by_cases h : c = 48
    · subst h
      rw [decide_eq_true rfl, cond_true, hsub, some_bind', ih m (by simp at hm; omega) (by simp at hl; omega)]
      congr 1
    · rw [decide_eq_false h, cond_false]
      unfold lz
      have e' : (c :: d).dropWhile (· == 48) = c :: d := by simp [List.dropWhile_cons, h]
      rw [e']
theorem last_rep (a : List UInt8) (j : Nat) : idx (a ++ List.replicate (j + 1) (48 : UInt8)) (((a ++ List.replicate (j + 1) (48 : UInt8)).length : Int) - 1) = some 48 ∧ sub (a ++ List.replicate (j + 1) (48 : UInt8)) 0 (((a ++ List.replicate (j + 1) (48 : UInt8)).length : Int) - 1) = some (a ++ List.replicate j 48) := by
  rw [List.replicate_succ', ← List.append_assoc]
  have hlen : (a ++ List.replicate j (48 : UInt8) ++ [48]).length = a.length + j + 1 := by simp; omega
  refine ⟨?_, ?_⟩
  · rw [idx_pred (by omega), ← List.getLast?_eq_getElem?]; simp
  · have := sub_nat (a ++ List.replicate j (48 : UInt8) ++ [48]) 0 (a.length + j) (by omega) (by rw [hlen]; omega)
    rw [hlen, show (((a.length + j + 1 : Nat) : Int) - 1) = ((a.length + j : Nat) : Int) from by omega]
    refine this.trans ?_
    rw [List.drop_zero, List.take_append_of_le_length (by simp), List.take_of_length_le (by simp)]
theorem last_not {a : List UInt8} (ha : a ≠ []) (hl : ∀ x, a.getLast? = some x → x ≠ 48) : ∃ x, idx a ((a.length : Int) - 1) = some x ∧ x ≠ 48 := by
  have hp : 0 < a.length := List.length_pos_iff.2 ha
  rw [idx_pred hp, ← List.getLast?_eq_getElem?]
  cases e : a.getLast? with
  | none => simp at e; exact absurd e ha
  | some x => exact ⟨x, rfl, hl x e⟩
theorem trail_loop (n : Nat) (X : Type) (k2 : Bool → (List UInt8) → Int → Bool → Int → Int → Option X) (neg b : Bool) (x y : Int) (a : List UInt8) (ha : a ≠ []) (hl : ∀ x, a.getLast? = some x → x ≠ 48) (hal : a.length ≤ 100000) : ∀ (z m : Nat) (e : Int), z < m → z ≤ 100000 → -2000000 ≤ e → e ≤ 2000 →
    ∃ j, j ≤ z ∧ F.ref03_Make.L7 n k2 m neg (a ++ List.replicate z 48) e b x y = k2 neg (a ++ List.replicate j 48) (e + z - j) b x y ∧ (j = 0 ∨ 18 ≤ e + z - j) ∧ (e + z - j ≤ 18 ∨ j = z) := by
  intro z
  induction z with
  | zero =>
    intro m e hm hz he1 he2
    obtain ⟨m, rfl⟩ : ∃ q, m = q + 1 := ⟨m - 1, by omega⟩
    refine ⟨0, Nat.le_refl _, ?_, Or.inl rfl, Or.inr rfl⟩
    show F.ref03_Make.L7.step n _ k2 _ _ _ _ _ _ = _
    unfold F.ref03_Make.L7.step
    obtain ⟨c, c1, c2⟩ := last_not ha hl
    have hp : 0 < a.length := List.length_pos_iff.2 ha
    have hw : IntKind.wrap .i64 ((a.length : Int) - 1) = (a.length : Int) - 1 := wrap_in (by omega)
    rw [List.replicate_zero, List.append_nil, hw, c1, some_bind', u8_48, decide_eq_false c2, cond_false, show e + ((0 : Nat) : Int) - ((0 : Nat) : Int) = e from by omega]
    cases decide (e < 18) <;> rfl
  | succ z ih =>
    intro m e hm hz he1 he2
    obtain ⟨m, rfl⟩ : ∃ q, m = q + 1 := ⟨m - 1, by omega⟩
    have hstep : F.ref03_Make.L7 n k2 (m + 1) neg (a ++ List.replicate (z + 1) 48) e b x y = F.ref03_Make.L7.step n (F.ref03_Make.L7 n k2 m) k2 neg (a ++ List.replicate (z + 1) 48) e b x y := rfl
    rw [hstep]
    unfold F.ref03_Make.L7.step
    by_cases h18 : e < 18
    · obtain ⟨l1, l2⟩ := last_rep a z
      have hlen : (a ++ List.replicate (z + 1) (48 : UInt8)).length = a.length + z + 1 := by simp; omega
      have hw : IntKind.wrap .i64 (((a ++ List.replicate (z + 1) (48 : UInt8)).length : Int) - 1) = ((a ++ List.replicate (z + 1) (48 : UInt8)).length : Int) - 1 := wrap_in (by omega)
      rw [bif_pos h18, hw, l1, some_bind', u8_48, decide_eq_true rfl, cond_true, l2, some_bind', wrap_in (by omega)]
      obtain ⟨j, j1, j2, j3, j4⟩ := ih m (e + 1) (by omega) (by omega) (by omega) (by omega)
      refine ⟨j, by omega, ?_, ?_, ?_⟩
      · rw [j2]
        congr 1
        omega
      · rcases j3 with j3 | j3
        · exact Or.inl j3
        · exact Or.inr (by omega)
      · exact Or.inl (by omega)
    · rw [bif_neg h18]
      refine ⟨z + 1, Nat.le_refl _, ?_, Or.inr (by omega), Or.inr rfl⟩
      congr 1
      omega
theorem pad_loop (n : Nat) (X : Type) (k4 : Bool → (List UInt8) → Int → Bool → Int → Int → Option X) (neg b : Bool) (x y : Int) : ∀ (d m : Nat) (a : List UInt8), d < m → a.length + d ≤ 1000000 → F.ref03_Make.L10 n k4 m neg a (18 + (d : Int)) b x y = k4 neg (a ++ List.replicate d 48) 18 b x y := by
  intro d
  induction d with
  | zero =>
    intro m a hm hl
    obtain ⟨m, rfl⟩ : ∃ q, m = q + 1 := ⟨m - 1, by omega⟩
    show F.ref03_Make.L10.step n _ k4 _ _ _ _ _ _ = _
    unfold F.ref03_Make.L10.step
    rw [bif_neg (by omega), List.replicate_zero, List.append_nil]
    rfl
  | succ d ih =>
    intro m a hm hl
    obtain ⟨m, rfl⟩ : ∃ q, m = q + 1 := ⟨m - 1, by omega⟩
    show F.ref03_Make.L10.step n (F.ref03_Make.L10 n k4 m) k4 _ _ _ _ _ _ = _
    unfold F.ref03_Make.L10.step
    rw [bif_pos (by omega), bif_pos (by rw [strMax_eq]; omega), wrap_in (by omega), show 18 + ((d + 1 : Nat) : Int) - 1 = 18 + (d : Int) from by omega, ih m _ (by omega) (by simp; omega), List.append_assoc, List.replicate_succ]
    rfl
theorem pad_no (n : Nat) (X : Type) (k4 : Bool → (List UInt8) → Int → Bool → Int → Int → Option X) (neg b : Bool) (x y : Int) (m : Nat) (hm : 0 < m) (a : List UInt8) (E : Int) (h : ¬ E > 18) : F.ref03_Make.L10 n k4 m neg a E b x y = k4 neg a E b x y := by
  obtain ⟨m, rfl⟩ : ∃ q, m = q + 1 := ⟨m - 1, by omega⟩
  show F.ref03_Make.L10.step n (F.ref03_Make.L10 n k4 m) k4 _ _ _ _ _ _ = _
  unfold F.ref03_Make.L10.step
  rw [bif_neg h]
theorem val_ge {d : List UInt8} (hd : Digs d) (hne : d ≠ []) (hh : ∀ x, d.head? = some x → x ≠ 48) : 10 ^ (d.length - 1) ≤ val d := by
  cases d with
  | nil => exact absurd rfl hne
  | cons b d =>
    obtain ⟨h1, h2⟩ := digs_cons.1 hd
    have h0 : dv b ≠ 0 := fun h0 => hh b rfl (dv_inj h1 (b := 48) rfl h0)
    rw [val_cons]
    have := Nat.le_mul_of_pos_left (10 ^ d.length) (show 0 < dv b by omega)
    simp
    omega
theorem fits_eq (n : Nat) {d : List UInt8} (hd : Digs d) (hne : d ≠ []) (hh : ∀ x, d.head? = some x → x ≠ 48) : F.ref03_Fits n d = some (decide (val d < two64)) := by
  unfold F.ref03_Fits
  have hlt := val_lt hd
  have hge := val_ge hd hne hh
  have hp : 0 < d.length := List.length_pos_iff.2 hne
  rw [two64_eq]
  by_cases h1 : d.length < 20
  · have : 10 ^ d.length ≤ 10 ^ 19 := Nat.pow_le_pow_right (by omega) (by omega)
    have h2 : val d < 18446744073709551616 := by omega
    rw [bif_pos (by omega), decide_eq_true h2]
  rw [bif_neg (by omega)]
  by_cases h2 : d.length = 20
  · have e : ((d.length : Int) == 20) = true := by rw [h2]; rfl
    rw [e, cond_true]
    have hm : Digs [49, 56, 52, 52, 54, 55, 52, 52, 48, 55, 51, 55, 48, 57, 53, 53, 49, 54, 49, 53] := rfl
    have hv : val [49, 56, 52, 52, 54, 55, 52, 52, 48, 55, 51, 55, 48, 57, 53, 53, 49, 54, 49, 53] = 18446744073709551615 := rfl
    rw [less_val hd hm h2, hv]
    congr 1
    by_cases h3 : val d < 18446744073709551615
    · simp [h3]; omega
    · by_cases h4 : val d = 18446744073709551615
      · have : d = [49, 56, 52, 52, 54, 55, 52, 52, 48, 55, 51, 55, 48, 57, 53, 53, 49, 54, 49, 53] := val_inj hd hm h2 (h4.trans hv.symm)
        rw [decide_eq_false h3, this, beq_self_eq_true, hv]
        rfl
      · have hne' : ¬ d = [49, 56, 52, 52, 54, 55, 52, 52, 48, 55, 51, 55, 48, 57, 53, 53, 49, 54, 49, 53] := fun hh => h4 (by rw [hh]; exact hv)
        rw [decide_eq_false h3, beq_eq_false_iff_ne.2 hne', decide_eq_false (show ¬ val d < 18446744073709551616 by omega)]
        rfl
  · have e : ((d.length : Int) == 20) = false := by
      have : ¬ (d.length : Int) = 20 := by omega
      simpa using this
    have : 10 ^ 20 ≤ 10 ^ (d.length - 1) := Nat.pow_le_pow_right (by omega) (by omega)
    rw [e, cond_false, decide_eq_false (by omega)]
theorem value03_loop (n : Nat) (X : Type) (k0 : Int → Option X) (s : List UInt8) (hs : s.length < 4611686018427387904) (hv : val s < two64) : ∀ (r : List UInt8) (k m : Nat), s.drop k = r → r.length < m → Digs r →
    F.ref03_Value.L3 n k0 m s (val (s.take k) : Int) (k : Int) = k0 (val s) := by
  intro r
  induction r with
  | nil =>
    intro k m hk hm hd
    have hk := drop_nil' hk
    obtain ⟨m, rfl⟩ : ∃ q, m = q + 1 := ⟨m - 1, by omega⟩
    show F.ref03_Value.L3.step n _ k0 s _ k = _
    unfold F.ref03_Value.L3.step
    rw [bif_neg (by omega), List.take_of_length_le hk]
  | cons x r ih =>
    intro k m hk hm hd
    obtain ⟨h1, h2, h3⟩ := drop_cons hk
    obtain ⟨d1, d2⟩ := digs_cons.1 hd
    have hx := isDig_iff.1 d1
    obtain ⟨m, rfl⟩ : ∃ q, m = q + 1 := ⟨m - 1, by omega⟩
    show F.ref03_Value.L3.step n (F.ref03_Value.L3 n k0 m) k0 s _ k = _
    unfold F.ref03_Value.L3.step
    have htk : s.take (k + 1) = s.take k ++ [x] := by rw [List.take_add_one, h2]; rfl
    have hvk : val (s.take (k + 1)) = val (s.take k) * 10 + dv x := by rw [htk, val_snoc]
    have hsv : val (s.take (k + 1)) ≤ val s := by
      have e : s = s.take (k + 1) ++ s.drop (k + 1) := (List.take_append_drop _ _).symm
      have h5 : val s = val (s.take (k + 1)) * 10 ^ (s.drop (k + 1)).length + val (s.drop (k + 1)) := by
        conv => lhs; rw [e]
        rw [val_append]
      have := Nat.le_mul_of_pos_right (val (s.take (k + 1))) (Nat.pow_pos (n := (s.drop (k + 1)).length) (show 0 < 10 by omega))
      omega
    have hdl := dv_lt d1
    rw [two64_eq] at hv
    have hdx : IntKind.wrap .u64 (IntKind.wrap .u8 ((x.toNat : Int) - 48)) = (dv x : Int) := by
      have h8 : IntKind.wrap .u8 ((x.toNat : Int) - 48) = (x.toNat : Int) - 48 := IntWalk.u8_in _ (by omega)
      rw [h8, IntWalk.u64_in _ (by omega)]; unfold dv; omega
    rw [bif_pos (by omega), idx_nat, h2, some_bind', hdx, IntWalk.u64_in (10 * (val (s.take k) : Int)) (by omega), IntWalk.u64_in _ (by omega), wrap_succ (by omega), show 10 * (val (s.take k) : Int) + (dv x : Int) = (val (s.take (k + 1)) : Int) from by omega]
    exact ih (k + 1) m h3 (by simp at hm; omega) d2
theorem value03 (n : Nat) (s : List UInt8) (hs : s.length < 4611686018427387904) (hn : s.length < n) (hd : Digs s) (hv : val s < two64) : F.ref03_Value n s = some (val s : Int) :=
  value03_loop n _ _ s hs hv s 0 n rfl hn hd
theorem make_eq (n : Nat) (hn : 5000 ≤ n) (neg : Bool) (d : List UInt8) (hd : Digs d) (hl : d.length ≤ 1000) (e : Int) : F.ref03_Make n neg d e = some ((valR neg d e).1, (valR neg d e).2.1 == 0, ()) := by
  unfold F.ref03_Make
  rw [lead_loop n _ _ neg false e 0 0 d n (by omega) (by omega)]
  have hlz := lz_le d
  by_cases h0 : val d = 0
  · have : lz d = [] := by
      refine Classical.byContradiction fun hne => ?_
      have := val_ge (lz_digs hd) hne (fun x => lz_head)
      rw [lz_val, h0] at this
      have := Nat.pow_pos (n := (lz d).length - 1) (show 0 < 10 by omega)
      omega
    unfold valR
    rw [if_pos h0, this]
    rfl
  have hne : lz d ≠ [] := fun hh => by have := lz_val d; rw [hh] at this; exact h0 this.symm
  have e0 : (lz d == []) = false := by simpa using hne
  simp only [e0, cond_false]
  have hD := lz_digs hd
  have hv0 : val (lz d) ≠ 0 := by rw [lz_val]; exact h0
  have hcore := core_trz hD hv0
  have hvt := val_trz (lz d)
  generalize hzz : (lz d).length - (trz (lz d)).length = z at hvt
  have hR : valR neg d e = normR neg (val (trz (lz d))) (e + z) := valR_core hd hcore (by rw [← lz_val]; exact hvt) neg e
  rw [hR]
  have hc0 : 0 < val (trz (lz d)) := by omega
  have hnot : ∀ w, 20 ≤ w → ¬ val (trz (lz d)) * 10 ^ w < two64 := by
    intro w hw
    have h1 : 10 ^ 20 ≤ 10 ^ w := Nat.pow_le_pow_right (by omega) hw
    have h2 := Nat.le_mul_of_pos_left (10 ^ w) hc0
    rw [two64_eq]
    omega
  by_cases hbig : e > 1000
  · rw [bif_pos hbig]
    unfold normR
    rw [if_neg (by omega), if_neg (hnot _ (by omega))]
    rfl
  rw [bif_neg hbig]
  by_cases hlow : e < -1000000
  · rw [bif_pos hlow]
    unfold normR
    rw [if_pos (by omega)]
    rfl
  rw [bif_neg hlow]
  have hpad := trz_pad (lz d)
  rw [hzz] at hpad
  have hne' : trz (lz d) ≠ [] := fun hh => hv0 ((trz_nil hD).1 hh)
  have htl := trz_le (lz d)
  have hhead : ∀ (k : Nat) x, (trz (lz d) ++ List.replicate k 48).head? = some x → x ≠ 48 := by
    intro k x hx
    cases e : trz (lz d) with
    | nil => exact absurd e hne'
    | cons b r =>
      rw [e] at hx
      have hb : b = x := by simpa using hx
      refine lz_head (d := d) ?_
      rw [hpad, e, ← hb]; rfl
  have fin : ∀ (k : Nat) (E : Int), k ≤ 3000 →
      (bif decide (E < (-18 : Int)) then some (((false, (0 : Int), (0 : Int), ()), false, ()))
                else
                  (F.ref03_Fits n (trz (lz d) ++ List.replicate k 48)).bind fun y8 =>
                    bif !y8 then
                      some (((false, (0 : Int), (0 : Int), ()), false, ()))
                    else
                      (F.ref03_Value n (trz (lz d) ++ List.replicate k 48)).bind fun y9 =>
                        some (((neg, y9, E, ()), true, ())))
      = some (if E < -18 then ((false, (0 : Int), (0 : Int), ()), false, ()) else if val (trz (lz d)) * 10 ^ k < two64 then ((neg, ((val (trz (lz d)) * 10 ^ k : Nat) : Int), E, ()), true, ()) else ((false, (0 : Int), (0 : Int), ()), false, ())) := by
    intro k E hk
    by_cases hE : E < -18
    · rw [bif_pos hE, if_pos hE]
    · rw [bif_neg hE, if_neg hE]
      have hdk : Digs (trz (lz d) ++ List.replicate k 48) := digs_append.2 ⟨trz_digs hD, digs_rep _⟩
      have hlk : (trz (lz d) ++ List.replicate k (48 : UInt8)).length = (trz (lz d)).length + k := by simp
      rw [fits_eq n hdk (by simp [hne']) (hhead k), some_bind', val_zeros_right]
      by_cases hf : val (trz (lz d)) * 10 ^ k < two64
      · rw [decide_eq_true hf, if_pos hf, value03 n _ (by omega) (by omega) hdk (by rw [val_zeros_right]; exact hf), some_bind', val_zeros_right]
        rfl
      · rw [decide_eq_false hf, if_neg hf]; rfl
  obtain ⟨j, j1, j2, j3, j4⟩ := trail_loop n (DecD × Bool × Unit) (fun e6_0 e6_1 e6_2 e6_b0_0 e6_b0_1 e6_b0_2 =>
            F.ref03_Make.L10 n
              (fun e7_0 e7_1 e7_2 e7_b0_0 e7_b0_1 e7_b0_2 =>
                bif decide (e7_2 < (-18 : Int)) then
                  some (((false, (0 : Int), (0 : Int), ()), false, ()))
                else
                  (F.ref03_Fits n e7_1).bind fun y8 =>
                    bif !y8 then
                      some (((false, (0 : Int), (0 : Int), ()), false, ()))
                    else
                      (F.ref03_Value n e7_1).bind fun y9 =>
                        some (((e7_0, y9, e7_2, ()), true, ()))) n e6_0 e6_1 e6_2 e6_b0_0 e6_b0_1 e6_b0_2) neg false 0 0 (trz (lz d)) hne' (fun x => trz_last) (by omega) z n e (by omega) (by omega) (by omega) (by omega)
  rw [← hpad] at j2
  refine j2.trans ?_
  unfold normR
  by_cases hE : e + z - j > 18
  · obtain ⟨q, hq⟩ : ∃ q : Nat, e + z - j = 18 + (q : Int) := ⟨(e + z - j - 18).toNat, by omega⟩
    rw [hq, pad_loop n _ _ neg false 0 0 q n _ (by omega) (by simp; omega), List.append_assoc, List.replicate_append_replicate, fin (j + q) 18 (by omega), if_neg (by omega), if_neg (show ¬ e + (z : Int) < -18 by omega), show (e + z - 18).toNat = j + q from by omega]
    by_cases hf : val (trz (lz d)) * 10 ^ (j + q) < two64
    · rw [if_pos hf, if_pos hf, if_neg (by omega)]; rfl
    · rw [if_neg hf, if_neg hf]; rfl
  · rw [pad_no n _ _ neg false 0 0 n (by omega) _ _ hE, fin j _ (by omega)]
    by_cases h18 : e + z < -18
    · rw [if_pos (by omega), if_pos h18]; rfl
    · rw [if_neg (by omega), if_neg h18, show (e + z - 18).toNat = j from by omega]
      by_cases hf : val (trz (lz d)) * 10 ^ j < two64
      · rw [if_pos hf, if_pos hf]
        congr 4
        by_cases hh : e + z ≤ 18
        · rw [if_pos hh]
          have : j = 0 ∨ e + z = 18 := by omega
          congr 1
          omega
        · rw [if_neg hh]
          congr 1
          omega
      · rw [if_neg hf, if_neg hf]; rfl
end Go.AM
set_option linter.unusedVariables false
set_option linter.unusedSimpArgs false
namespace Go.AM
abbrev FaultR := Int × Int × Unit
abbrev ParseR := DecD × FaultR × Unit
theorem headOr {s : List UInt8} {c : UInt8} : (s.head? = some c) ∨ ¬ (s.head? = some c) := Classical.em _
theorem hasPrefix_one (n : Nat) (s : List UInt8) (c : UInt8) : F.strings_HasPrefix n s [c] = some (decide (s.head? = some c)) := by
  unfold F.strings_HasPrefix F.stringslite_HasPrefix
  cases s with
  | nil => rfl
  | cons b s =>
    have e : sub (b :: s) (0 : Int) ((([c] : List UInt8).length : Nat) : Int) = some [b] := sub_nat (b :: s) 0 1 (by omega) (by simp)
    rw [bif_pos (by simp; omega), e, some_bind', some_bind']
    by_cases h : b = c
    · subst h; simp
    · simp [h]
def tw (s : List UInt8) : List UInt8 := s.takeWhile isDig
theorem tw_digs (s : List UInt8) : Digs (tw s) := List.all_takeWhile
theorem tw_split (s : List UInt8) : s = tw s ++ s.drop (tw s).length := by
  induction s with
  | nil => rfl
  | cons b s ih =>
    unfold tw at ih ⊢
    by_cases h : isDig b = true
    · simp only [List.takeWhile_cons, h, if_true, List.length_cons, List.drop_succ_cons, List.cons_append]
      rw [← ih]
    · simp [List.takeWhile_cons, h]
theorem tw_le (s : List UInt8) : (tw s).length ≤ s.length := (List.takeWhile_sublist _).length_le
theorem tw_stop (s : List UInt8) {x : UInt8} (h : (s.drop (tw s).length).head? = some x) : isDig x = false := by
  induction s with
  | nil => simp at h
  | cons b s ih =>
    unfold tw at ih h
    by_cases hb : isDig b = true
    · simp only [List.takeWhile_cons, hb, if_true, List.length_cons, List.drop_succ_cons] at h
      exact ih h
    · simp only [List.takeWhile_cons, hb, if_false] at h
      have : b = x := by simpa using h
      rw [← this]; simpa using hb
theorem tw_append {a t : List UInt8} (ha : Digs a) (ht : ∀ x, t.head? = some x → isDig x = false) : tw (a ++ t) = a := by
  induction a with
  | nil =>
    cases t with
    | nil => rfl
    | cons x t =>
      have := ht x rfl
      simp [tw, List.takeWhile_cons, this]
  | cons b a ih =>
    obtain ⟨h1, h2⟩ := digs_cons.1 ha
    have := ih h2
    unfold tw at this ⊢
    simp [List.takeWhile_cons, h1, this]
theorem digits_loop (n : Nat) (X : Type) (k0 : Int → (List UInt8) → Int → Int → Int → Option X) (v3 b0 b1 : Int) (s : List UInt8) (hs : s.length < 4611686018427387904) : ∀ (r : List UInt8) (k m : Nat), s.drop k = r → k ≤ s.length → r.length < m →
    F.dec_look.L2_dec_look_1 n k0 m v3 s b0 b1 (k : Int) = k0 v3 s b0 b1 ((k + (tw r).length : Nat) : Int) := by
  intro r
  induction r with
  | nil =>
    intro k m hk hkl hm
    have := drop_nil' hk
    obtain ⟨m, rfl⟩ : ∃ q, m = q + 1 := ⟨m - 1, by omega⟩
    show F.dec_look.L2_dec_look_1.step n _ k0 _ _ _ _ _ = _
    unfold F.dec_look.L2_dec_look_1.step
    rw [bif_neg (by omega)]
    rfl
  | cons x r ih =>
    intro k m hk hkl hm
    obtain ⟨h1, h2, h3⟩ := drop_cons hk
    obtain ⟨m, rfl⟩ : ∃ q, m = q + 1 := ⟨m - 1, by omega⟩
    show F.dec_look.L2_dec_look_1.step n (F.dec_look.L2_dec_look_1 n k0 m) k0 _ _ _ _ _ = _
    unfold F.dec_look.L2_dec_look_1.step
    rw [bif_pos (by omega), idx_nat, h2, some_bind', some_bind']
    unfold tw at ih ⊢
    by_cases hd : isDig x = true
    · have hx := isDig_iff.1 hd
      rw [bif_pos (by omega), bif_pos (by omega), wrap_succ (by omega), ih (k + 1) m h3 (by omega) (by simp at hm; omega)]
      simp only [List.takeWhile_cons, hd, if_true, List.length_cons]
      congr 2
      omega
    · simp only [List.takeWhile_cons, hd, if_false]
      by_cases h48 : 48 ≤ x.toNat
      · have : ¬ x.toNat ≤ 57 := fun h => hd (isDig_iff.2 ⟨h48, h⟩)
        rw [bif_pos (by omega), bif_neg (by omega)]
        rfl
      · rw [bif_neg (by omega)]
        rfl
def p0 (s : List UInt8) : Nat := if s.head? = some 45 then 1 else 0
def p1q (q : Nat) (s : List UInt8) : Nat := q + (tw (s.drop q)).length
def p3q (q : Nat) (s : List UInt8) : Nat := p1q q s + 1 + (tw (s.drop (p1q q s + 1))).length
theorem p0_le (s : List UInt8) : p0 s ≤ s.length := by
  unfold p0
  cases s with
  | nil => simp
  | cons b s => split <;> simp
theorem p1_le {q : Nat} {s : List UInt8} (hq : q ≤ s.length) : p1q q s ≤ s.length := by
  have h2 := tw_le (s.drop q)
  simp at h2
  unfold p1q
  omega
theorem drop_lt {s : List UInt8} {k : Nat} {x : UInt8} (h : (s.drop k).head? = some x) : k < s.length := by
  cases e : s.drop k with
  | nil => rw [e] at h; simp at h
  | cons b r =>
    have := congrArg List.length e
    simp at this
    omega
theorem p3_le {q : Nat} {s : List UInt8} (h : (s.drop (p1q q s)).head? = some 46) : p3q q s ≤ s.length := by
  have h1 := drop_lt h
  have h2 := tw_le (s.drop (p1q q s + 1))
  simp at h2
  unfold p3q
  omega
def endR (right : Prop) [Decidable right] (at' : Nat) (len : Nat) : FaultR :=
  if right ∧ at' = len then (0, 0, ()) else if at' = len then (11, (at' : Int), ()) else (14, (at' : Int), ())
def lookQ (q : Nat) (s : List UInt8) : FaultR :=
  if q < p1q q s ∧ (s.drop (p1q q s)).head? = some 46 then endR (p1q q s + 1 < p3q q s) (p3q q s) s.length else endR (q < p1q q s) (p1q q s) s.length
def lookR (s : List UInt8) : FaultR := lookQ (p0 s) s
theorem end_eq (a b : Nat) (at' len : Nat) : (bif decide ((at' : Int) > (a : Int)) then
      bif (at' : Int) == (len : Int) then some (((0 : Int), (0 : Int), ())) else bif (at' : Int) == (len : Int) then some (((11 : Int), (at' : Int), ())) else some (((14 : Int), (at' : Int), ()))
    else bif (at' : Int) == (len : Int) then some (((11 : Int), (at' : Int), ())) else some (((14 : Int), (at' : Int), ()))) = some (endR (a < at') at' len) := by
  unfold endR
  by_cases h1 : at' = len
  · have e : ((at' : Int) == (len : Int)) = true := by simp [h1]
    rw [e]
    by_cases h2 : a < at'
    · rw [bif_pos (by omega), if_pos ⟨h2, h1⟩]; rfl
    · rw [bif_neg (by omega), if_neg (fun h => h2 h.1), if_pos h1]; rfl
  · have e : ((at' : Int) == (len : Int)) = false := by
      have : ¬ (at' : Int) = (len : Int) := by omega
      simpa using this
    rw [e, if_neg (fun h => h1 h.2), if_neg h1]
    simp only [cond_false]
    cases decide ((at' : Int) > (a : Int)) <;> rfl
theorem look_tail (n : Nat) (s : List UInt8) (hs : s.length < 4000000000000000000) (hn : s.length < n) (q : Nat) (hq : q ≤ s.length) :
    F.dec_look.L2_dec_look_1 n
        (fun e4_3 e4_b0_0 e4_b1_0 e4_b1_1 e4_b2_0 =>
          bif decide (e4_b2_0 > e4_3) then
            (sub e4_b0_0 e4_b2_0 (e4_b0_0.length : Int)).bind fun x5 =>
              (F.strings_HasPrefix n x5 ([46])).bind fun y6 =>
                bif y6 then
                  F.dec_look.L2_dec_look_1 n
                    (fun e7_3 e7_b0_0 e7_b1_0 e7_b1_1 e7_b2_0 =>
                      bif decide (e7_b2_0 > e7_3) then
                        bif e7_b2_0 == (e7_b0_0.length : Int) then
                          some (((0 : Int), (0 : Int), ()))
                        else
                        bif e7_b2_0 == (e7_b0_0.length : Int) then
                          some (((11 : Int), e7_b2_0, ()))
                        else
                          some (((14 : Int), e7_b2_0, ()))
                      else
                      bif e7_b2_0 == (e7_b0_0.length : Int) then
                        some (((11 : Int), e7_b2_0, ()))
                      else
                        some (((14 : Int), e7_b2_0, ()))) n (IntKind.wrap .i64 (e4_b2_0 + (1 : Int))) e4_b0_0 e4_b1_0 e4_b1_1 (IntKind.wrap .i64 (e4_b2_0 + (1 : Int)))
                else
                bif decide (e4_b2_0 > e4_3) then
                  bif e4_b2_0 == (e4_b0_0.length : Int) then
                    some (((0 : Int), (0 : Int), ()))
                  else
                  bif e4_b2_0 == (e4_b0_0.length : Int) then
                    some (((11 : Int), e4_b2_0, ()))
                  else
                    some (((14 : Int), e4_b2_0, ()))
                else
                bif e4_b2_0 == (e4_b0_0.length : Int) then
                  some (((11 : Int), e4_b2_0, ()))
                else
                  some (((14 : Int), e4_b2_0, ()))
          else
          bif decide (e4_b2_0 > e4_3) then
            bif e4_b2_0 == (e4_b0_0.length : Int) then
              some (((0 : Int), (0 : Int), ()))
            else
            bif e4_b2_0 == (e4_b0_0.length : Int) then
              some (((11 : Int), e4_b2_0, ()))
            else
              some (((14 : Int), e4_b2_0, ()))
          else
          bif e4_b2_0 == (e4_b0_0.length : Int) then
            some (((11 : Int), e4_b2_0, ()))
          else
            some (((14 : Int), e4_b2_0, ()))) n (q : Int) s (0 : Int) (0 : Int) (q : Int)
    = some (lookQ q s) := by
  rw [digits_loop n _ _ _ _ _ s (by omega) (s.drop q) q n rfl hq (by simp; omega)]
  have hkl : p1q q s ≤ s.length := p1_le hq
  show (bif decide (((p1q q s : Nat) : Int) > (q : Int)) then _ else _) = _
  unfold lookQ
  have hk3 : p3q q s = p1q q s + 1 + (tw (s.drop (p1q q s + 1))).length := rfl
  have hsh : q + (tw (s.drop q)).length = p1q q s := rfl
  simp only [hsh]
  generalize p3q q s = k3 at hk3 ⊢
  clear hsh
  generalize p1q q s = k at hkl hk3 ⊢
  subst hk3
  have hE := end_eq q 0 k s.length
  rw [hE]
  by_cases h1 : q < k
  · rw [bif_pos (by omega)]
    have hsub : sub s (k : Int) (s.length : Int) = some (s.drop k) := by
      have := sub_nat s k s.length hkl (Nat.le_refl _)
      rw [List.take_length] at this
      exact this
    rw [hsub, some_bind', hasPrefix_one, some_bind']
    by_cases h2 : (s.drop k).head? = some 46
    · have hlt : k < s.length := by
        cases e : s.drop k with
        | nil => rw [e] at h2; simp at h2
        | cons b r =>
          have := congrArg List.length e
          simp at this
          omega
      rw [decide_eq_true h2, cond_true, if_pos ⟨h1, h2⟩, wrap_succ (by omega), digits_loop n _ _ _ _ _ s (by omega) (s.drop (k + 1)) (k + 1) n rfl (by omega) (by simp; omega)]
      exact end_eq (k + 1) 0 _ s.length
    · rw [decide_eq_false h2, cond_false, if_neg (fun h => h2 h.2)]
  · rw [bif_neg (by omega), if_neg (fun h => h1 h.1)]
theorem look_eq (n : Nat) (s : List UInt8) (hs : s.length < 4000000000000000000) (hn : s.length < n) : F.dec_look n s = some (lookR s) := by
  unfold F.dec_look
  rw [hasPrefix_one, some_bind']
  by_cases h : s.head? = some 45
  · have hp : p0 s = 1 := by unfold p0; rw [if_pos h]
    rw [decide_eq_true h, cond_true]
    have hq : 1 ≤ s.length := by have := p0_le s; omega
    have := look_tail n s hs hn 1 hq
    refine this.trans ?_
    unfold lookR
    rw [hp]
  · have hp : p0 s = 0 := by unfold p0; rw [if_neg h]
    rw [decide_eq_false h, cond_false]
    have := look_tail n s hs hn 0 (by omega)
    refine this.trans ?_
    unfold lookR
    rw [hp]
end Go.AM
set_option linter.unusedVariables false
set_option linter.unusedSimpArgs false
namespace Go.AM
def outR (r : DecR) : ParseR := if r.2.1 = 0 then (r.1, (0, 0, ()), ()) else ((false, 0, 0, ()), (r.2.1, 0, ()), ())
def badR (f : FaultR) : ParseR := ((false, 0, 0, ()), f, ())
def aheadD (s : List UInt8) : List UInt8 := tw (s.drop (p0 s))
def behindD (s : List UInt8) : List UInt8 := if (s.drop (p1q (p0 s) s)).head? = some 46 then tw (s.drop (p1q (p0 s) s + 1)) else []
def negD (s : List UInt8) : Bool := decide (s.head? = some 45)
def parseR (s : List UInt8) : ParseR :=
  if (lookR s).1 = 0 then outR (valR (negD s) (aheadD s ++ behindD s) (-((behindD s).length : Int))) else badR (lookR s)
theorem valR_code (neg : Bool) (d : List UInt8) (e : Int) : (valR neg d e).2.1 = 0 ∨ (valR neg d e).2.1 = 10 ∧ (valR neg d e).1 = (false, 0, 0, ()) := by
  unfold valR zeroD normR
  by_cases h : val d = 0
  · rw [if_pos h]; exact Or.inl rfl
  · rw [if_neg h]
    split
    · exact Or.inr ⟨rfl, rfl⟩
    · split
      · exact Or.inl rfl
      · exact Or.inr ⟨rfl, rfl⟩
theorem valR_same {d d' : List UInt8} (hd : Digs d) (hd' : Digs d') (h : val d = val d') (neg : Bool) (e : Int) : valR neg d e = valR neg d' e := by
  by_cases h0 : val d = 0
  · unfold valR
    rw [if_pos h0, if_pos (h ▸ h0)]
  · obtain ⟨c0, z, h1, h2⟩ := ten_split (val d) (by omega)
    rw [valR_core hd h2 h1, valR_core hd' h2 (h ▸ h1)]
theorem valR_big {d : List UInt8} (hd : Digs d) (h : two64 ≤ val d) (ht : trz d = d) (neg : Bool) (e : Int) : valR neg d e = ((false, 0, 0, ()), 10, ()) := by
  have h0 : val d ≠ 0 := by rw [two64_eq] at h; omega
  have hc := core_trz hd h0
  rw [ht] at hc
  rw [valR_core hd hc (z := 0) (by simp)]
  unfold normR
  split
  · rfl
  · rw [if_neg]
    have := Nat.le_mul_of_pos_right (val d) (Nat.pow_pos (n := (e + ((0 : Nat) : Int) - 18).toNat) (show 0 < 10 by omega))
    omega
theorem digit03 (n : Nat) (x : UInt8) : F.ref03_digit n (x.toNat : Int) = some (isDig x) := by
  unfold F.ref03_digit isDig
  by_cases h : 48 ≤ x.toNat
  · rw [bif_pos (by omega)]; simp [h]; omega
  · rw [bif_neg (by omega)]; simp [h]
theorem behind_loop (n : Nat) (X : Type) (k0 : (List UInt8) → Bool → (List UInt8) → Int → Bool → Bool → Int → Int → Int → Int → Option X) (kr : Bool → Int → Int → Int → Int → Option X) (s : List UInt8) (neg : Bool) (pt : Nat) (hs : s.length ≤ 1000000) :
    ∀ (r : List UInt8) (k m : Nat) (d : List UInt8) (must : Bool), s.drop k = r → k ≤ s.length → r.length < m → d.length ≤ k →
    F.ref03_Parse.L8 n k0 kr m s neg (k : Int) d (pt : Int) must false 0 0 0 0 =
      if k + (tw r).length = s.length then k0 s neg (d ++ tw r) (pt : Int) (must && decide ((tw r).length = 0)) false 0 0 0 0 else kr false 0 0 14 ((k + (tw r).length : Nat) : Int) := by
  intro r
  induction r with
  | nil =>
    intro k m d must hk hkl hm hd
    have := drop_nil' hk
    obtain ⟨m, rfl⟩ : ∃ q, m = q + 1 := ⟨m - 1, by omega⟩
    show F.ref03_Parse.L8.step n _ k0 kr _ _ _ _ _ _ _ _ _ _ _ = _
    unfold F.ref03_Parse.L8.step
    have e : tw ([] : List UInt8) = [] := rfl
    rw [bif_neg (by omega), e, List.length_nil, if_pos (by omega), List.append_nil]
    simp
  | cons x r ih =>
    intro k m d must hk hkl hm hd
    obtain ⟨h1, h2, h3⟩ := drop_cons hk
    obtain ⟨m, rfl⟩ : ∃ q, m = q + 1 := ⟨m - 1, by omega⟩
    show F.ref03_Parse.L8.step n (F.ref03_Parse.L8 n k0 kr m) k0 kr _ _ _ _ _ _ _ _ _ _ _ = _
    unfold F.ref03_Parse.L8.step
    rw [bif_pos (by omega), idx_nat, h2, some_bind', digit03, some_bind', some_bind', wrap_succ (by omega)]
    by_cases hx : isDig x = true
    · have hsub : sub s (k : Int) ((k + 1 : Nat) : Int) = some [x] := by
        rw [sub_nat s k (k + 1) (by omega) (by omega), List.take_add_one, h2]
        have : (s.take k).length = k := by simp; omega
        simp [List.drop_append, this]
      have e : tw (x :: r) = x :: tw r := by unfold tw; simp [List.takeWhile_cons, hx]
      rw [hx, cond_true, hsub, some_bind', bif_pos (by rw [strMax_eq]; simp; omega), ih (k + 1) m (d ++ [x]) false h3 (by omega) (by simp at hm; omega) (by simp; omega), e, List.length_cons, List.append_assoc]
      have e1 : k + 1 + (tw r).length = k + ((tw r).length + 1) := by omega
      rw [e1]
      simp
    · have hx' : isDig x = false := by simpa using hx
      have e : tw (x :: r) = [] := by unfold tw; simp [List.takeWhile_cons, hx']
      have hpt : decide ((pt : Int) < 0) = false := by simp
      rw [hx', cond_false, hpt, cond_false, e, List.length_nil, if_neg (by omega)]
      cases ((x.toNat : Int) == 46) <;> rfl
theorem ahead_loop (n : Nat) (X : Type) (k0 : (List UInt8) → Bool → (List UInt8) → Int → Bool → Bool → Int → Int → Int → Int → Option X) (kr : Bool → Int → Int → Int → Int → Option X) (s : List UInt8) (neg : Bool) (hs : s.length ≤ 1000000) :
    ∀ (r : List UInt8) (k m : Nat) (d : List UInt8) (must : Bool), s.drop k = r → k ≤ s.length → r.length < m → d.length ≤ k →
    F.ref03_Parse.L8 n k0 kr m s neg (k : Int) d (-1) must false 0 0 0 0 =
      if k + (tw r).length = s.length then k0 s neg (d ++ tw r) (-1) (must && decide ((tw r).length = 0)) false 0 0 0 0
      else if (s.drop (k + (tw r).length)).head? = some 46 ∧ (must && decide ((tw r).length = 0)) = false then
        (if k + (tw r).length + 1 + (tw (s.drop (k + (tw r).length + 1))).length = s.length then
          k0 s neg ((d ++ tw r) ++ tw (s.drop (k + (tw r).length + 1))) ((d ++ tw r).length : Int) (decide ((tw (s.drop (k + (tw r).length + 1))).length = 0)) false 0 0 0 0
         else kr false 0 0 14 ((k + (tw r).length + 1 + (tw (s.drop (k + (tw r).length + 1))).length : Nat) : Int))
      else kr false 0 0 14 ((k + (tw r).length : Nat) : Int) := by
  intro r
  induction r with
  | nil =>
    intro k m d must hk hkl hm hd
    have := drop_nil' hk
    obtain ⟨m, rfl⟩ : ∃ q, m = q + 1 := ⟨m - 1, by omega⟩
    show F.ref03_Parse.L8.step n _ k0 kr _ _ _ _ _ _ _ _ _ _ _ = _
    unfold F.ref03_Parse.L8.step
    have e : tw ([] : List UInt8) = [] := rfl
    rw [bif_neg (by omega), e, List.length_nil, if_pos (by omega), List.append_nil]
    simp
  | cons x r ih =>
    intro k m d must hk hkl hm hd
    obtain ⟨h1, h2, h3⟩ := drop_cons hk
    obtain ⟨m, rfl⟩ : ∃ q, m = q + 1 := ⟨m - 1, by omega⟩
    show F.ref03_Parse.L8.step n (F.ref03_Parse.L8 n k0 kr m) k0 kr _ _ _ _ _ _ _ _ _ _ _ = _
    unfold F.ref03_Parse.L8.step
    rw [bif_pos (by omega), idx_nat, h2, some_bind', digit03, some_bind', some_bind', wrap_succ (by omega)]
    by_cases hx : isDig x = true
    · have hsub : sub s (k : Int) ((k + 1 : Nat) : Int) = some [x] := by
        rw [sub_nat s k (k + 1) (by omega) (by omega), List.take_add_one, h2]
        have : (s.take k).length = k := by simp; omega
        simp [List.drop_append, this]
      have e : tw (x :: r) = x :: tw r := by unfold tw; simp [List.takeWhile_cons, hx]
      rw [hx, cond_true, hsub, some_bind', bif_pos (by rw [strMax_eq]; simp; omega), ih (k + 1) m (d ++ [x]) false h3 (by omega) (by simp at hm; omega) (by simp; omega), e, List.length_cons, List.append_assoc]
      have e1 : k + 1 + (tw r).length = k + ((tw r).length + 1) := by omega
      rw [e1]
      simp
    · have hx' : isDig x = false := by simpa using hx
      have e : tw (x :: r) = [] := by unfold tw; simp [List.takeWhile_cons, hx']
      have hpt : decide ((-1 : Int) < 0) = true := rfl
      rw [hx', cond_false, hpt, cond_true, e, List.length_nil, if_neg (by omega)]
      simp only [Nat.add_zero, hk, List.append_nil]
      by_cases h46 : x = 46
      · subst h46
        have e2 : ((((46 : UInt8).toNat : Nat) : Int) == 46) = true := rfl
        rw [e2, cond_true]
        cases must
        · simp only [Bool.not_false, cond_true, Bool.false_and, List.head?_cons, and_self, if_true]
          have hb := behind_loop n X k0 kr s neg d.length hs (s.drop (k + 1)) (k + 1) m d true rfl (by omega) (by rw [h3]; simp at hm; omega) (by omega)
          rw [hb]
          simp
        · simp
      · have e2 : ((x.toNat : Int) == 46) = false := by
          have : ¬ (x.toNat : Int) = 46 := fun hh => h46 (u8_ext (by simp; omega))
          simpa using this
        rw [e2, cond_false, if_neg]
        rintro ⟨q, _⟩
        exact h46 (by simpa using q)
theorem make_out (n : Nat) (hn : 5000 ≤ n) (neg : Bool) (d : List UInt8) (hd : Digs d) (hl : d.length ≤ 1000) (e : Int) :
    ((F.ref03_Make n neg d e).bind fun y7 =>
                bif !y7.2.1 then
                  some (((false, (0 : Int), (0 : Int), ()), ((10 : Int), (0 : Int), ()), ()))
                else
                  some (((y7.1.1, y7.1.2.1, y7.1.2.2.1, ()), ((0 : Int), (0 : Int), ()), ()))) = some (outR (valR neg d e)) := by
  rw [make_eq n hn neg d hd hl e, some_bind']
  unfold outR
  rcases valR_code neg d e with h | ⟨h1, h2⟩
  · rw [h, if_pos rfl]; rfl
  · rw [h1, if_neg (by decide)]; rfl
theorem refparse_core (n : Nat) (hn : 5000 ≤ n) (s : List UInt8) (hs : s.length ≤ 1000) (neg : Bool) (q : Nat) (hq : q ≤ s.length) :
    F.ref03_Parse.L8 n
          (fun e6_0 e6_4 e6_6 e6_7 e6_8 e6_b0_0 e6_b0_1 e6_b0_2 e6_b1_0 e6_b1_1 =>
            bif e6_8 then
              some (((false, (0 : Int), (0 : Int), ()), ((11 : Int), (e6_0.length : Int), ()), ()))
            else
            bif decide (e6_7 ≥ (0 : Int)) then
              (F.ref03_Make n e6_4 e6_6 (IntKind.wrap .i64 (e6_7 - (e6_6.length : Int)))).bind fun y7 =>
                bif !y7.2.1 then
                  some (((false, (0 : Int), (0 : Int), ()), ((10 : Int), (0 : Int), ()), ()))
                else
                  some (((y7.1.1, y7.1.2.1, y7.1.2.2.1, ()), ((0 : Int), (0 : Int), ()), ()))
            else
              (F.ref03_Make n e6_4 e6_6 (0 : Int)).bind fun y8 =>
                bif !y8.2.1 then
                  some (((false, (0 : Int), (0 : Int), ()), ((10 : Int), (0 : Int), ()), ()))
                else
                  some (((y8.1.1, y8.1.2.1, y8.1.2.2.1, ()), ((0 : Int), (0 : Int), ()), ())))
          (fun e9_b0_0 e9_b0_1 e9_b0_2 e9_b1_0 e9_b1_1 =>
            some (((e9_b0_0, e9_b0_1, e9_b0_2, ()), (e9_b1_0, e9_b1_1, ()), ()))) n s neg (q : Int) [] (-1 : Int) true false (0 : Int) (0 : Int) (0 : Int) (0 : Int)
    = some (if (lookQ q s).1 = 0 then outR (valR neg (tw (s.drop q) ++ (if (s.drop (p1q q s)).head? = some 46 then tw (s.drop (p1q q s + 1)) else [])) (-(((if (s.drop (p1q q s)).head? = some 46 then tw (s.drop (p1q q s + 1)) else [] : List UInt8).length : Nat) : Int))) else badR (lookQ q s)) := by
  rw [ahead_loop n _ _ _ s neg (by omega) (s.drop q) q n [] true rfl hq (by simp; omega) (by simp)]
  have hp1 : q + (tw (s.drop q)).length = p1q q s := rfl
  have hp3 : p1q q s + 1 + (tw (s.drop (p1q q s + 1))).length = p3q q s := rfl
  have hA : (tw (s.drop q)).length ≤ 1000 := by have := tw_le (s.drop q); simp at this; omega
  have hB : (tw (s.drop (p1q q s + 1))).length ≤ 1000 := by have := tw_le (s.drop (p1q q s + 1)); simp at this; omega
  have hAB : (tw (s.drop q)).length + (tw (s.drop (p1q q s + 1))).length ≤ 1000 := by
    have h1 := tw_le (s.drop q)
    have h2 := tw_le (s.drop (p1q q s + 1))
    simp at h1 h2
    omega
  rw [hp1, hp3]
  simp only [List.nil_append, Bool.true_and]
  have look : ∀ f : FaultR, lookQ q s = f → (¬ f.1 = 0) → some (badR f) = some (if (lookQ q s).1 = 0 then outR (valR neg (tw (s.drop q) ++ (if (s.drop (p1q q s)).head? = some 46 then tw (s.drop (p1q q s + 1)) else [])) (-(((if (s.drop (p1q q s)).head? = some 46 then tw (s.drop (p1q q s + 1)) else [] : List UInt8).length : Nat) : Int))) else badR (lookQ q s)) := by
    intro f hf h0
    rw [hf, if_neg h0]
  by_cases hend : p1q q s = s.length
  ·
    have hdrop : s.drop (p1q q s) = [] := List.drop_eq_nil_of_le (by omega)
    have hno : ¬ ((s.drop (p1q q s)).head? = some 46) := by rw [hdrop]; simp
    rw [if_pos hend]
    by_cases hz : (tw (s.drop q)).length = 0
    · have hl : lookQ q s = (11, (s.length : Int), ()) := by
        unfold lookQ endR
        rw [if_neg (fun h => hno h.2), if_neg (fun h => by have := h.1; omega), if_pos hend, hend]
      rw [decide_eq_true hz, cond_true]
      exact look _ hl (by show ¬ (11 : Int) = 0; decide)
    · have hh : ¬ (-1 : Int) ≥ 0 := by omega
      have hl : lookQ q s = (0, 0, ()) := by
        unfold lookQ endR
        rw [if_neg (fun h => hno h.2), if_pos ⟨by omega, hend⟩]
      rw [decide_eq_false hz, cond_false, bif_neg hh, hl, if_pos rfl, if_neg hno, List.append_nil]
      exact make_out n hn neg _ (tw_digs _) hA 0
  · rw [if_neg hend]
    by_cases hpt : (s.drop (p1q q s)).head? = some 46
    · by_cases hz : (tw (s.drop q)).length = 0
      · have hl : lookQ q s = (14, (p1q q s : Int), ()) := by
          unfold lookQ endR
          rw [if_neg (fun h => by have := h.1; omega), if_neg (fun h => hend h.2), if_neg hend]
        rw [if_neg (by simp [hz])]
        exact look _ hl (by show ¬ (14 : Int) = 0; decide)
      · rw [if_pos ⟨hpt, by simp [hz]⟩]
        have hpp : q < p1q q s ∧ (s.drop (p1q q s)).head? = some 46 := ⟨by omega, hpt⟩
        by_cases h3 : p3q q s = s.length
        · rw [if_pos h3]
          by_cases hb : (tw (s.drop (p1q q s + 1))).length = 0
          · have hl : lookQ q s = (11, (s.length : Int), ()) := by
              unfold lookQ endR
              rw [if_pos hpp, if_neg (fun h => by have := h.1; omega), if_pos h3, h3]
            rw [decide_eq_true hb, cond_true]
            exact look _ hl (by show ¬ (11 : Int) = 0; decide)
          · have hl : lookQ q s = (0, 0, ()) := by
              unfold lookQ endR
              rw [if_pos hpp, if_pos ⟨by omega, h3⟩]
            rw [decide_eq_false hb, cond_false, bif_pos (by omega), hl, if_pos rfl, if_pos hpt]
            have hw : IntKind.wrap .i64 (((tw (s.drop q)).length : Int) - ((tw (s.drop q) ++ tw (s.drop (p1q q s + 1))).length : Int)) = -(((tw (s.drop (p1q q s + 1))).length : Nat) : Int) := by
              rw [List.length_append, wrap_in (by omega)]; omega
            rw [hw]
            exact make_out n hn neg _ (digs_append.2 ⟨tw_digs _, tw_digs _⟩) (by rw [List.length_append]; exact hAB) _
        · have hl : lookQ q s = (14, (p3q q s : Int), ()) := by
            unfold lookQ endR
            rw [if_pos hpp, if_neg (fun h => h3 h.2), if_neg h3]
          rw [if_neg h3]
          exact look _ hl (by show ¬ (14 : Int) = 0; decide)
    · have hl : lookQ q s = (14, (p1q q s : Int), ()) := by
        unfold lookQ endR
        rw [if_neg (fun h => hpt h.2), if_neg (fun h => hend h.2), if_neg hend]
      rw [if_neg (fun h => hpt h.1)]
      exact look _ hl (by show ¬ (14 : Int) = 0; decide)
theorem refparse_eq (n : Nat) (hn : 5000 ≤ n) (s : List UInt8) (hs : s.length ≤ 1000) : F.ref03_Parse n s = some (parseR s) := by
  unfold F.ref03_Parse
  cases s with
  | nil => exact refparse_core n hn [] hs false 0 (by simp)
  | cons b s =>
    have ei : idx (b :: s) (0 : Int) = some b := rfl
    rw [bif_pos (by simp), ei, some_bind']
    by_cases h : b = 45
    · subst h
      have e2 : ((((45 : UInt8).toNat : Nat) : Int) == 45) = true := rfl
      rw [e2, cond_true]
      exact refparse_core n hn (45 :: s) hs true 1 (by simp)
    · have e2 : ((b.toNat : Int) == 45) = false := by
        have : ¬ (b.toNat : Int) = 45 := fun hh => h (u8_ext (by simp; omega))
        simpa using this
      rw [e2, cond_false]
      have hp : p0 (b :: s) = 0 := by unfold p0; rw [if_neg (by simpa using h)]
      have hneg : negD (b :: s) = false := by unfold negD; simpa using h
      have := refparse_core n hn (b :: s) hs false 0 (by simp)
      refine this.trans ?_
      unfold parseR lookR behindD aheadD
      rw [hp, hneg]
end Go.AM
set_option linter.unusedVariables false
set_option linter.unusedSimpArgs false
namespace Go.AM
theorem coef_loop (n : Nat) (X : Type) (k0 : Bool → Int → Int → Int → Int → Int → Int → Bool → Int → Int → Option X) (s : List UInt8) (hs : s.length < 4611686018427387904) (b : Bool) (x1 x2 x3 x4 x5 x6 : Int) (neg : Bool) (E : Int) : ∀ (r : List UInt8) (k m : Nat), s.drop k = r → k ≤ s.length → r.length < m → Digs r → val (s.take k) < two64 →
    F.dec_Parse.L14 n k0 m s (s.length : Int) (k : Int) b x1 x2 x3 x4 x5 x6 neg (val (s.take k) : Int) E = if val s < two64 then k0 b x1 x2 x3 x4 x5 x6 neg (val s) E else k0 b x1 x2 x3 x4 x5 x6 neg 1 (-19) := by
  intro r
  induction r with
  | nil =>
    intro k m hk hkl hm hd hv
    have hk := drop_nil' hk
    obtain ⟨m, rfl⟩ : ∃ q, m = q + 1 := ⟨m - 1, by omega⟩
    show F.dec_Parse.L14.step n _ k0 _ _ _ _ _ _ _ _ _ _ _ _ _ = _
    unfold F.dec_Parse.L14.step
    rw [List.take_of_length_le hk] at hv ⊢
    rw [bif_neg (by omega), if_pos hv]
  | cons x r ih =>
    intro k m hk hkl hm hd hv
    obtain ⟨h1, h2, h3⟩ := drop_cons hk
    obtain ⟨d1, d2⟩ := digs_cons.1 hd
    have hx := isDig_iff.1 d1
    obtain ⟨m, rfl⟩ : ∃ q, m = q + 1 := ⟨m - 1, by omega⟩
    show F.dec_Parse.L14.step n (F.dec_Parse.L14 n k0 m) k0 _ _ _ _ _ _ _ _ _ _ _ _ _ = _
    unfold F.dec_Parse.L14.step
    have htk : s.take (k + 1) = s.take k ++ [x] := by rw [List.take_add_one, h2]; rfl
    have hvk : val (s.take (k + 1)) = val (s.take k) * 10 + dv x := by rw [htk, val_snoc]
    have hsv : val (s.take (k + 1)) ≤ val s := by
      have e : s = s.take (k + 1) ++ s.drop (k + 1) := (List.take_append_drop _ _).symm
      have h5 : val s = val (s.take (k + 1)) * 10 ^ (s.drop (k + 1)).length + val (s.drop (k + 1)) := by
        conv => lhs; rw [e]
        rw [val_append]
      have := Nat.le_mul_of_pos_right (val (s.take (k + 1))) (Nat.pow_pos (n := (s.drop (k + 1)).length) (show 0 < 10 by omega))
      omega
    have hdl := dv_lt d1
    have hdx : IntKind.wrap .u64 (IntKind.wrap .u8 ((x.toNat : Int) - 48)) = (dv x : Int) := by
      have h8 : IntKind.wrap .u8 ((x.toNat : Int) - 48) = (x.toNat : Int) - 48 := IntWalk.u8_in _ (by omega)
      rw [h8, IntWalk.u64_in _ (by omega)]; unfold dv; omega
    rw [bif_pos (by omega), idx_nat, h2, some_bind', hdx, times_eq n _ _ hv (by rw [two64_eq]; omega), some_bind', ← hvk, wrap_succ (by omega)]
    by_cases hf : val (s.take (k + 1)) < two64
    · simp only [hf, decide_true, Bool.not_true, cond_false, Nat.mod_eq_of_lt hf]
      exact ih (k + 1) m h3 (by omega) (by simp at hm; omega) d2 hf
    · simp only [hf, decide_false, Bool.not_false, cond_true]
      rw [if_neg (by omega)]
theorem cutPrefix_one (n : Nat) (s : List UInt8) : F.strings_CutPrefix n s [45] = some (s.drop (p0 s), negD s, ()) := by
  unfold F.strings_CutPrefix F.stringslite_CutPrefix
  have hp : F.stringslite_HasPrefix n s [45] = some (decide (s.head? = some 45)) := by
    have := hasPrefix_one n s 45
    unfold F.strings_HasPrefix at this
    cases e : F.stringslite_HasPrefix n s [45] with
    | none => rw [e] at this; cases this
    | some b => rw [e] at this; exact this
  rw [hp, some_bind']
  unfold p0 negD
  by_cases h : s.head? = some 45
  · have hl : 1 ≤ s.length := by cases s with | nil => simp at h | cons => simp
    have hsub : sub s ((([45] : List UInt8).length : Nat) : Int) (s.length : Int) = some (s.drop 1) := by
      have := sub_nat s 1 s.length hl (Nat.le_refl _)
      rw [List.take_length] at this
      exact this
    rw [decide_eq_true h, Bool.not_true, cond_false, hsub, if_pos h]
    rfl
  · rw [decide_eq_false h, Bool.not_false, cond_true, if_neg h]
    rfl
theorem idxByte_app {a t : List UInt8} (ha : Digs a) : Lib.indexByte (a ++ 46 :: t) 46 = (a.length : Int) := by
  induction a with
  | nil => simp [Lib.indexByte]
  | cons b a ih =>
    obtain ⟨h1, h2⟩ := digs_cons.1 ha
    have hb : ¬ b = 46 := fun h => by subst h; simp [isDig] at h1
    have := ih h2
    simp only [List.cons_append, Lib.indexByte, beq_iff_eq, hb, if_false, this]
    have hne : ¬ (a.length : Int) = -1 := by omega
    simp [hne]
theorem idxByte_no {a : List UInt8} (ha : Digs a) : Lib.indexByte a 46 = -1 := by
  induction a with
  | nil => rfl
  | cons b a ih =>
    obtain ⟨h1, h2⟩ := digs_cons.1 ha
    have hb : ¬ b = 46 := fun h => by subst h; simp [isDig] at h1
    simp [Lib.indexByte, hb, ih h2]
theorem look_ok {s : List UInt8} (h : (lookR s).1 = 0) : lookR s = (0, 0, ()) ∧ aheadD s ≠ [] ∧
    ((s.drop (p0 s) = aheadD s ∧ behindD s = []) ∨ (s.drop (p0 s) = aheadD s ++ 46 :: behindD s ∧ behindD s ≠ [])) := by
  unfold lookR lookQ at h ⊢
  have split := tw_split (s.drop (p0 s))
  rw [List.drop_drop] at split
  have hle := p1_le (p0_le s)
  by_cases hp : p0 s < p1q (p0 s) s ∧ (s.drop (p1q (p0 s) s)).head? = some 46
  · rw [if_pos hp] at h ⊢
    unfold endR at h ⊢
    by_cases h3 : p1q (p0 s) s + 1 < p3q (p0 s) s ∧ p3q (p0 s) s = s.length
    · rw [if_pos h3]
      refine ⟨rfl, ?_, Or.inr ?_⟩
      · intro hh
        have : (tw (s.drop (p0 s))).length = 0 := by unfold aheadD at hh; rw [hh]; rfl
        have := hp.1
        unfold p1q at this
        omega
      · have hb : behindD s = tw (s.drop (p1q (p0 s) s + 1)) := by unfold behindD; rw [if_pos hp.2]
        have h2 := tw_split (s.drop (p1q (p0 s) s + 1))
        rw [List.drop_drop] at h2
        have h4 : s.drop (p1q (p0 s) s + 1 + (tw (s.drop (p1q (p0 s) s + 1))).length) = [] := List.drop_eq_nil_of_le (by
          have h5 := h3.2
          unfold p3q at h5
          omega)
        rw [h4, List.append_nil] at h2
        have h5 : s.drop (p1q (p0 s) s) = 46 :: s.drop (p1q (p0 s) s + 1) := by
          cases e : s.drop (p1q (p0 s) s) with
          | nil => rw [e] at hp; simp at hp
          | cons c r =>
            rw [e] at hp
            have hc : c = 46 := by simpa using hp.2
            subst hc
            obtain ⟨_, _, g3⟩ := drop_cons e
            rw [g3]
        refine ⟨?_, ?_⟩
        · rw [split]
          have : s.drop (p0 s + (tw (s.drop (p0 s))).length) = s.drop (p1q (p0 s) s) := rfl
          rw [this, h5, hb, ← h2]
          rfl
        · rw [hb]
          intro hh
          have h6 := h3.1
          unfold p3q at h6
          rw [hh] at h6
          simp at h6
    · rw [if_neg h3] at h
      split at h <;> cases h
  · rw [if_neg hp] at h ⊢
    unfold endR at h ⊢
    by_cases h3 : p0 s < p1q (p0 s) s ∧ p1q (p0 s) s = s.length
    · rw [if_pos h3]
      have hd : s.drop (p1q (p0 s) s) = [] := List.drop_eq_nil_of_le (by omega)
      refine ⟨rfl, ?_, Or.inl ⟨?_, ?_⟩⟩
      · intro hh
        have : (tw (s.drop (p0 s))).length = 0 := by unfold aheadD at hh; rw [hh]; rfl
        have := h3.1
        unfold p1q at this
        omega
      · have : s.drop (p0 s + (tw (s.drop (p0 s))).length) = s.drop (p1q (p0 s) s) := rfl
        rw [this, hd, List.append_nil] at split
        exact split
      · unfold behindD
        rw [hd]
        simp
    · rw [if_neg h3] at h
      split at h <;> cases h
theorem behind_digs (s : List UInt8) : Digs (behindD s) := by
  unfold behindD
  split
  · exact tw_digs _
  · rfl
theorem cut_point (n : Nat) {s : List UInt8} (hs : s.length ≤ 1000) (h : (lookR s).1 = 0) : ∃ f, F.strings_Cut n (s.drop (p0 s)) [46] = some (aheadD s, behindD s, f, ()) := by
  obtain ⟨_, _, h3⟩ := look_ok h
  unfold F.strings_Cut F.stringslite_Cut O.index1
  rcases h3 with ⟨a, b⟩ | ⟨a, b⟩
  · have hi : Lib.indexByte (aheadD s) 46 = -1 := idxByte_no (tw_digs _)
    rw [a, b]
    simp only [some_bind']
    rw [hi]
    exact ⟨false, rfl⟩
  · have hl : (aheadD s ++ 46 :: behindD s).length ≤ 1000 := by rw [← a]; simp; omega
    have hl2 : (aheadD s).length + ((behindD s).length + 1) ≤ 1000 := by simpa using hl
    have hi : Lib.indexByte (aheadD s ++ 46 :: behindD s) 46 = ((aheadD s).length : Int) := idxByte_app (tw_digs _)
    rw [a]
    simp only [some_bind']
    rw [hi]
    have s1 : sub (aheadD s ++ 46 :: behindD s) 0 ((aheadD s).length : Int) = some (aheadD s) := by
      have := sub_nat (aheadD s ++ 46 :: behindD s) 0 (aheadD s).length (by omega) (by simp)
      rw [List.drop_zero, List.take_left'] at this
      · exact this
      · rfl
    have hdr : (aheadD s ++ 46 :: behindD s).drop ((aheadD s).length + 1) = behindD s := by
      rw [List.drop_append, List.drop_eq_nil_of_le (by omega), List.nil_append, show (aheadD s).length + 1 - (aheadD s).length = 1 from by omega]
      rfl
    have s2 : sub (aheadD s ++ 46 :: behindD s) (((aheadD s).length + 1 : Nat) : Int) ((aheadD s ++ 46 :: behindD s).length : Int) = some (behindD s) := by
      have := sub_nat (aheadD s ++ 46 :: behindD s) ((aheadD s).length + 1) (aheadD s ++ 46 :: behindD s).length (by simp) (Nat.le_refl _)
      rw [List.take_length, hdr] at this
      exact this
    have hw : IntKind.wrap .i64 (((aheadD s).length : Int) + ((([46] : List UInt8).length : Nat) : Int)) = (((aheadD s).length + 1 : Nat) : Int) := wrap_succ (by omega)
    rw [bif_pos (by omega), s1, some_bind', hw, s2]
    exact ⟨true, rfl⟩
theorem trimR_eq (n : Nat) {s : List UInt8} (h : s.length ≤ 1000) : O.trimR n s [48] = some (trz s) := by
  unfold O.trimR
  have hb : (Nat.blt (48 : UInt8).toNat 128 && Nat.ble s.length big47) = true := by
    rw [Bool.and_eq_true, Nat.ble_eq]
    exact ⟨rfl, by unfold big47; omega⟩
  simp only [hb, cond_true, trimR_trz]
theorem trimL_eq (n : Nat) {s : List UInt8} (h : s.length ≤ 1000) : O.trimL n s [48] = some (lz s) := by
  unfold O.trimL
  have hb : (Nat.blt (48 : UInt8).toNat 128 && Nat.ble s.length big47) = true := by
    rw [Bool.and_eq_true, Nat.ble_eq]
    exact ⟨rfl, by unfold big47; omega⟩
  simp only [hb, cond_true]
  rfl
theorem trz_trz (d : List UInt8) : trz (trz d) = trz d := trz_self (fun x hx => trz_last hx)
theorem valR_lz (neg : Bool) {d : List UInt8} (hd : Digs d) (e : Int) : valR neg (lz d) e = valR neg d e := valR_same (lz_digs hd) hd (lz_val d) neg e
theorem coef_out (n : Nat) (hn : 5000 ≤ n) (neg : Bool) (d : List UInt8) (hd : Digs d) (hl : d.length ≤ 1000) (E : Int) (hE : -100000 ≤ E ∧ E ≤ 100000) (ht : trz d = d) (x1 x2 x3 x4 x5 x6 : Int) :
    F.dec_Parse.L14 n
                        (fun e9_b0_0 e9_b0_1 e9_b0_2 e9_b1_0 e9_b1_1 e9_b2_0 e9_b2_1 e9_b3_0 e9_b3_1 e9_b3_2 =>
                          (F.dec_Normal n (e9_b3_0, e9_b3_1, e9_b3_2, ())).bind fun y10 =>
                            bif !(y10.2.1 == (0 : Int)) then
                              some (((false, (0 : Int), (0 : Int), ()), (y10.2.1, (0 : Int), ()), ()))
                            else
                              some (((y10.1.1, y10.1.2.1, y10.1.2.2.1, ()), ((0 : Int), (0 : Int), ()), ()))) n d (d.length : Int) (0 : Int) false x1 x2 x3 x4 x5 x6 neg (0 : Int) E
    = some (outR (valR neg d E)) := by
  refine (coef_loop n _ _ d (by omega) false x1 x2 x3 x4 x5 x6 neg E d 0 n rfl (by omega) (by omega) hd (by rw [List.take_zero, val_nil, two64_eq]; omega)).trans ?_
  have out : ∀ r : DecR, (r.2.1 = 0 ∨ r.2.1 = 10 ∧ r.1 = (false, 0, 0, ())) → ((some r).bind fun y10 =>
                            bif !(y10.2.1 == (0 : Int)) then
                              some (((false, (0 : Int), (0 : Int), ()), (y10.2.1, (0 : Int), ()), ()))
                            else
                              some (((y10.1.1, y10.1.2.1, y10.1.2.2.1, ()), ((0 : Int), (0 : Int), ()), ()))) = some (outR r) := by
    intro r hr
    rw [some_bind']
    unfold outR
    rcases hr with h | ⟨h1, h2⟩
    · rw [h, if_pos rfl]; rfl
    · rw [h1, if_neg (by decide)]; rfl
  by_cases hv : val d < two64
  · rw [if_pos hv, normal_eq n (by omega) neg _ hv E (by omega), valR_same (dd_digs _) hd (dd_val _)]
    exact out _ (valR_code neg d E)
  · have h19 := normal_eq n (by omega) neg 1 (by decide) (-19) (by omega)
    have hb := valR_big hd (by omega) ht neg E
    rw [if_neg hv, show (1 : Int) = ((1 : Nat) : Int) from rfl, h19, hb]
    have e1 : valR neg (Lib.decDigits 1) (-19) = ((false, 0, 0, ()), 10, ()) := by
      rw [valR_core (dd_digs 1) (c0 := 1) (z := 0) (by decide) (by rw [dd_val])]
      unfold normR
      rw [if_pos (by omega)]
    rw [e1]
    exact out _ (Or.inr ⟨rfl, rfl⟩)
theorem decparse_eq (n : Nat) (hn : 5000 ≤ n) (s : List UInt8) (hs : s.length ≤ 1000) : F.dec_Parse n s = some (parseR s) := by
  unfold F.dec_Parse
  rw [look_eq n s (by omega) (by omega), some_bind']
  by_cases h : (lookR s).1 = 0
  · obtain ⟨h1, h2, h3⟩ := look_ok h
    obtain ⟨f, hcut⟩ := cut_point n hs h
    have e0 : (!((0 : Int) == 0 && (0 : Int) == 0)) = false := rfl
    rw [h1]
    simp only [e0, cond_false]
    rw [cutPrefix_one, some_bind']
    simp only [hcut, some_bind']
    have ha : Digs (aheadD s) := tw_digs _
    have hb := behind_digs s
    have hlen : (aheadD s).length + (behindD s).length ≤ 1000 := by
      have hd : (s.drop (p0 s)).length ≤ 1000 := by simp; omega
      rcases h3 with ⟨a, b⟩ | ⟨a, b⟩
      · rw [b]; rw [a] at hd; simpa using hd
      · rw [a] at hd; simp at hd; omega
    unfold parseR
    rw [if_pos h]
    generalize aheadD s = a at *
    generalize behindD s = b at *
    have htb := trz_le b
    rw [trimR_eq n (by omega), some_bind', bif_pos (by rw [strMax_eq]; omega), trimL_eq n (by simp; omega), some_bind']
    have hab : Digs (a ++ trz b) := digs_append.2 ⟨ha, trz_digs hb⟩
    have hall := lz_le (a ++ trz b)
    have hallL : (lz (a ++ trz b)).length ≤ a.length + (trz b).length := by simpa using hall
    have hts := trz_le (lz (a ++ trz b))
    rw [trimR_eq n (by omega), some_bind']
    have hval : valR (negD s) (lz (a ++ trz b)) (-((trz b).length : Int)) = valR (negD s) (a ++ b) (-(b.length : Int)) := by
      rw [valR_lz _ hab]
      have hpad := trz_pad b
      conv => rhs; rw [hpad]
      rw [← List.append_assoc, valR_zeros_right _ hab]
      congr 1
      simp
      omega
    have hD := lz_digs hab
    have hw : IntKind.wrap .i64 (0 - ((trz b).length : Int)) = -((trz b).length : Int) := by rw [wrap_in (by omega)]; omega
    rw [hw]
    by_cases hz : (trz b).length = 0
    · have ez : (-((trz b).length : Int) == 0) = true := by simp [hz]
      rw [ez, cond_true]
      by_cases hsh : (trz (lz (a ++ trz b))).length < (lz (a ++ trz b)).length
      · have hw2 : IntKind.wrap .i64 (((lz (a ++ trz b)).length : Int) - ((trz (lz (a ++ trz b))).length : Int)) = (((lz (a ++ trz b)).length - (trz (lz (a ++ trz b))).length : Nat) : Int) := by rw [wrap_in (by omega)]; omega
        rw [bif_pos (by omega), hw2]
        have := coef_out n hn (negD s) _ (trz_digs hD) (by omega) (((lz (a ++ trz b)).length - (trz (lz (a ++ trz b))).length : Nat) : Int) (by omega) (trz_trz _) 0 0 0 0 0 0
        refine this.trans ?_
        congr 2
        rw [← hval, hz]
        have hpad := trz_pad (lz (a ++ trz b))
        conv => rhs; rw [hpad]
        rw [valR_zeros_right _ (trz_digs hD)]
        congr 1
        omega
      · have hq : trz (lz (a ++ trz b)) = lz (a ++ trz b) := by
          have hpad := trz_pad (lz (a ++ trz b))
          rw [show (lz (a ++ trz b)).length - (trz (lz (a ++ trz b))).length = 0 from by omega, List.replicate_zero, List.append_nil] at hpad
          exact hpad.symm
        rw [bif_neg (by omega)]
        have := coef_out n hn (negD s) _ hD (by omega) (-((trz b).length : Int)) (by omega) hq 0 0 0 0 0 0
        refine this.trans ?_
        rw [hval]
    · have ez : (-((trz b).length : Int) == 0) = false := by
        have : ¬ (-((trz b).length : Int)) = 0 := by omega
        simpa using this
      rw [ez, cond_false]
      have hq : trz (lz (a ++ trz b)) = lz (a ++ trz b) := by
        refine trz_self fun x hx => ?_
        have hrep := lz_rep (a ++ trz b)
        have hlast : (a ++ trz b).getLast? = some x := by
          rw [hrep, List.getLast?_append, hx]; rfl
        rw [List.getLast?_append] at hlast
        cases e : (trz b).getLast? with
        | none => simp at e; rw [e] at hz; simp at hz
        | some y =>
          rw [e] at hlast
          have hy : y = x := by simpa using hlast
          rw [← hy]
          exact trz_last e
      have := coef_out n hn (negD s) _ hD (by omega) (-((trz b).length : Int)) (by omega) hq 0 0 0 0 0 0
      refine this.trans ?_
      rw [hval]
  · have e : ((lookR s).1 == 0) = false := by simpa using h
    unfold parseR
    rw [if_neg h, e]
    rfl
end Go.AM
set_option linter.unusedVariables false
set_option linter.unusedSimpArgs false
namespace Go.AM
def checkR (neg : Bool) (c : Nat) (e : Int) : Int :=
  if c ≠ 0 ∧ (e < -18 ∨ e > 18) then 10 else if (valR neg (Lib.decDigits c) e).2.1 = 0 ∧ (valR neg (Lib.decDigits c) e).1 = (neg, (c : Int), e, ()) then 0 else 21
theorem decD_beq (a b : DecD) : ((a.1 == b.1) && ((a.2.1 == b.2.1) && (a.2.2.1 == b.2.2.1))) = decide (a = b) := by
  obtain ⟨a1, a2, a3, _⟩ := a
  obtain ⟨b1, b2, b3, _⟩ := b
  by_cases h : (((a1, a2, a3, ()) : DecD) = (b1, b2, b3, ()))
  · have : a1 = b1 ∧ a2 = b2 ∧ a3 = b3 := by simpa using h
    rw [decide_eq_true h]
    simp [this]
  · rw [decide_eq_false h]
    have : ¬ (a1 = b1 ∧ a2 = b2 ∧ a3 = b3) := fun hh => h (by simp [hh])
    simp only [Bool.and_eq_false_iff, beq_eq_false_iff_ne]
    by_cases g1 : a1 = b1
    · by_cases g2 : a2 = b2
      · exact Or.inr (Or.inr fun g3 => this ⟨g1, g2, g3⟩)
      · exact Or.inr (Or.inl g2)
    · exact Or.inl g1
theorem check_tail (neg : Bool) (c : Nat) (e : Int) (r : DecR) (hr : r = valR neg (Lib.decDigits c) e) :
    (bif !(r.2.1 == (0 : Int)) then some ((21 : Int)) else bif !((r.1.1 == neg) && ((r.1.2.1 == (c : Int)) && (r.1.2.2.1 == e))) then some ((21 : Int)) else some ((0 : Int)))
     = some (if (valR neg (Lib.decDigits c) e).2.1 = 0 ∧ (valR neg (Lib.decDigits c) e).1 = (neg, (c : Int), e, ()) then 0 else 21) := by
  subst hr
  have hb := decD_beq (valR neg (Lib.decDigits c) e).1 (neg, (c : Int), e, ())
  simp only at hb
  rw [hb]
  by_cases h1 : (valR neg (Lib.decDigits c) e).2.1 = 0
  · have e1 : ((valR neg (Lib.decDigits c) e).2.1 == 0) = true := by simp [h1]
    rw [e1]
    by_cases h2 : (valR neg (Lib.decDigits c) e).1 = (neg, (c : Int), e, ())
    · rw [decide_eq_true h2, if_pos ⟨h1, h2⟩]; rfl
    · rw [decide_eq_false h2, if_neg (fun h => h2 h.2)]; rfl
  · have e1 : ((valR neg (Lib.decDigits c) e).2.1 == 0) = false := by simpa using h1
    rw [e1, if_neg (fun h => h1 h.1)]; rfl
theorem check_eq (n : Nat) (hn : 100 ≤ n) (neg : Bool) (c : Nat) (hc : c < two64) (e : Int) (he : -9223372036854775808 ≤ e ∧ e ≤ 9223372036854775807) : F.dec_Check n (neg, (c : Int), e, ()) = some (checkR neg c e) := by
  unfold F.dec_Check checkR
  simp only [normal_eq n hn neg c hc e he, some_bind']
  have T := check_tail neg c e _ rfl
  by_cases h0 : c = 0
  · have e0 : (((c : Int)) == 0) = true := by simp [h0]
    rw [e0, if_neg (fun h => h.1 h0)]
    exact T
  · have e0 : (((c : Int)) == 0) = false := by simpa using h0
    rw [e0]
    simp only [Bool.not_false, cond_true]
    by_cases h1 : e < -18
    · rw [bif_pos h1, if_pos ⟨h0, Or.inl h1⟩]
    · rw [bif_neg h1]
      by_cases h2 : e > 18
      · rw [bif_pos h2, if_pos ⟨h0, Or.inr h2⟩]
      · rw [bif_neg h2, if_neg (by omega)]
        exact T
theorem dd_len64 {c : Nat} (hc : c < two64) : (Lib.decDigits c).length ≤ 20 := by rw [dd_length]; exact Lib.nDigits_le20 c hc
theorem check_ref (n : Nat) (hn : 5000 ≤ n) (neg : Bool) (c : Nat) (hc : c < two64) (e : Int) : F.ref03_Check n (neg, (c : Int), e, ()) = some (checkR neg c e) := by
  unfold F.ref03_Check checkR
  have hl := dd_len64 hc
  simp only [digits03 n (by omega) c hc, make_eq n hn neg _ (dd_digs c) (by omega) e, some_bind']
  have T := check_tail neg c e _ rfl
  have T' : (bif !((valR neg (Lib.decDigits c) e).2.1 == 0) then some (21 : Int) else bif !(((valR neg (Lib.decDigits c) e).1.1 == neg) && (((valR neg (Lib.decDigits c) e).1.2.1 == (c : Int)) && ((valR neg (Lib.decDigits c) e).1.2.2.1 == e))) then some ((21 : Int)) else some ((0 : Int))) = _ := T
  by_cases h0 : c = 0
  · have e0 : (((c : Int)) == 0) = true := by simp [h0]
    rw [e0, if_neg (fun h => h.1 h0)]
    exact T'
  · have e0 : (((c : Int)) == 0) = false := by simpa using h0
    rw [e0]
    simp only [Bool.not_false, cond_true]
    by_cases h1 : e < -18
    · rw [bif_pos h1, if_pos ⟨h0, Or.inl h1⟩]
    · rw [bif_neg h1]
      by_cases h2 : e > 18
      · rw [bif_pos h2, if_pos ⟨h0, Or.inr h2⟩]
      · rw [bif_neg h2, if_neg (by omega)]
        exact T'
theorem check_zero {neg : Bool} {c : Nat} {e : Int} (h : checkR neg c e = 0) : valR neg (Lib.decDigits c) e = ((neg, (c : Int), e, ()), 0, ()) ∧ -18 ≤ e ∧ e ≤ 18 := by
  unfold checkR at h
  by_cases h1 : c ≠ 0 ∧ (e < -18 ∨ e > 18)
  · rw [if_pos h1] at h; cases h
  rw [if_neg h1] at h
  by_cases h2 : (valR neg (Lib.decDigits c) e).2.1 = 0 ∧ (valR neg (Lib.decDigits c) e).1 = (neg, (c : Int), e, ())
  · have h3 : valR neg (Lib.decDigits c) e = ((neg, (c : Int), e, ()), 0, ()) := by
      obtain ⟨a, b⟩ := h2
      generalize valR neg (Lib.decDigits c) e = r at a b ⊢
      obtain ⟨r1, r2, _⟩ := r
      simp only at a b
      rw [a, b]
    refine ⟨h3, ?_⟩
    by_cases h0 : c = 0
    · subst h0
      unfold valR at h3
      rw [if_pos (dd_val 0)] at h3
      have : (0 : Int) = e := congrArg (fun r : DecR => r.1.2.2.1) h3
      omega
    · omega
  · rw [if_neg h2] at h; cases h
def sgn (neg : Bool) : List UInt8 := if neg then [45] else []
def wideW (c : Nat) (e : Int) : List UInt8 := List.replicate (1 - e - (Lib.decDigits c).length).toNat 48 ++ Lib.decDigits c
def textD (neg : Bool) (c : Nat) (e : Int) : List UInt8 :=
  if 0 ≤ e then sgn neg ++ (Lib.decDigits c ++ List.replicate e.toNat 48)
  else sgn neg ++ ((wideW c e).take ((wideW c e).length - e.natAbs) ++ [46] ++ (wideW c e).drop ((wideW c e).length - e.natAbs))
theorem repeatL_one (k : Nat) : Lib.repeatL [48] k = List.replicate k 48 := by
  induction k with
  | zero => rfl
  | succ k ih => rw [Lib.repeatL, ih]; rfl
theorem repeat_eq (n : Nat) {k : Int} (h : 0 ≤ k ∧ k ≤ 100000) : O.repeat' n [48] k = some (List.replicate k.toNat 48) := by
  unfold O.repeat'
  have hb : (decide (0 ≤ k) && Nat.ble k.toNat big47 && Nat.ble (([48] : List UInt8).length * k.toNat) big47) = true := by
    rw [Bool.and_eq_true, Bool.and_eq_true, Nat.ble_eq, Nat.ble_eq]
    unfold big47
    simp only [List.length_cons, List.length_nil]
    refine ⟨⟨by simp; omega, by omega⟩, by omega⟩
  rw [hb, cond_true, repeatL_one]
theorem wideW_len (c : Nat) (hc : c < two64) (e : Int) (he : -18 ≤ e ∧ e < 0) : e.natAbs < (wideW c e).length ∧ (wideW c e).length ≤ 40 ∧ Digs (wideW c e) := by
  have := dd_len64 hc
  unfold wideW
  refine ⟨?_, ?_, digs_append.2 ⟨digs_rep _, dd_digs c⟩⟩
  · simp; omega
  · simp; omega
theorem text_dec (n : Nat) (hn : 5000 ≤ n) (neg : Bool) (c : Nat) (hc : c < two64) (e : Int) (he : -9223372036854775808 ≤ e ∧ e ≤ 9223372036854775807) : F.dec_Text n (neg, (c : Int), e, ()) = some (if checkR neg c e = 0 then (textD neg c e, 0, ()) else ([], checkR neg c e, ())) := by
  unfold F.dec_Text
  simp only [check_eq n (by omega) neg c hc e he, some_bind']
  by_cases h : checkR neg c e = 0
  · obtain ⟨h1, h2, h3⟩ := check_zero h
    have hl := dd_len64 hc
    rw [h, if_pos rfl]
    have e0 : (!((0 : Int) == 0)) = false := rfl
    rw [e0, cond_false]
    have hf : O.futoa n (c : Int) 10 = some (Lib.decDigits c) := by
      unfold O.futoa
      have : (decide ((0 : Int) ≤ (c : Int)) && decide ((c : Int) < 18446744073709551616) && decide ((10 : Int) = 10)) = true := by
        rw [two64_eq] at hc
        simp; omega
      rw [this]; rfl
    rw [hf, some_bind']
    unfold textD
    by_cases hE : 0 ≤ e
    · rw [bif_pos hE, if_pos hE, repeat_eq n (by omega), some_bind', bif_pos (by rw [strMax_eq]; simp; omega)]
      cases neg
      · rfl
      · rw [cond_true, bif_pos (by rw [strMax_eq]; simp; omega)]
        rfl
    · obtain ⟨w1, w2, w3⟩ := wideW_len c hc e (by omega)
      have hmax : (if (IntKind.wrap .i64 ((IntKind.wrap .i64 ((1 : Int) - e)) - ((Lib.decDigits c).length : Int))) > (0 : Int) then (IntKind.wrap .i64 ((IntKind.wrap .i64 ((1 : Int) - e)) - ((Lib.decDigits c).length : Int))) else (0 : Int)) = (((1 - e - (Lib.decDigits c).length).toNat : Nat) : Int) := by
        rw [wrap_in (x := (1 : Int) - e) (by omega), wrap_in (by omega)]
        split <;> omega
      have hwl : (List.replicate (1 - e - (Lib.decDigits c).length).toNat (48 : UInt8)).length + (Lib.decDigits c).length = (wideW c e).length := by unfold wideW; simp
      rw [bif_neg (by omega), if_neg hE, hmax, repeat_eq n (by omega), some_bind', Int.toNat_natCast, bif_pos (by rw [strMax_eq]; omega)]
      have hww : List.replicate (1 - e - (Lib.decDigits c).length).toNat (48 : UInt8) ++ Lib.decDigits c = wideW c e := rfl
      rw [hww]
      generalize wideW c e = w at w1 w2 w3
      have hat : IntKind.wrap .i64 ((w.length : Int) + e) = ((w.length - e.natAbs : Nat) : Int) := by rw [wrap_in (by omega)]; omega
      rw [hat]
      have s1 : sub w 0 ((w.length - e.natAbs : Nat) : Int) = some (w.take (w.length - e.natAbs)) := by
        have := sub_nat w 0 (w.length - e.natAbs) (by omega) (by omega)
        rw [List.drop_zero] at this
        exact this
      have s2 : sub w ((w.length - e.natAbs : Nat) : Int) (w.length : Int) = some (w.drop (w.length - e.natAbs)) := by
        have := sub_nat w (w.length - e.natAbs) w.length (by omega) (Nat.le_refl _)
        rw [List.take_length] at this
        exact this
      rw [s1, some_bind', bif_pos (by rw [strMax_eq]; simp; omega), s2, some_bind', bif_pos (by rw [strMax_eq]; simp; omega)]
      cases neg
      · rfl
      · rw [cond_true, bif_pos (by rw [strMax_eq]; simp; omega)]
        rfl
  · have e0 : (checkR neg c e == 0) = false := by simpa using h
    rw [e0, if_neg h]
    rfl
theorem sgn_len (neg : Bool) : (sgn neg).length = if neg then 1 else 0 := by cases neg <;> rfl
theorem p0_form (neg : Bool) {a : List UInt8} (ha : Digs a) (hne : a ≠ []) (t : List UInt8) : p0 (sgn neg ++ (a ++ t)) = (sgn neg).length ∧ negD (sgn neg ++ (a ++ t)) = neg := by
  cases a with
  | nil => exact absurd rfl hne
  | cons b a =>
    obtain ⟨h1, _⟩ := digs_cons.1 ha
    have hb : ¬ b = 45 := fun h => by subst h; simp [isDig] at h1
    unfold p0 negD
    cases neg
    · simp [sgn, hb]
    · simp [sgn]
theorem parse_whole (neg : Bool) {a : List UInt8} (ha : Digs a) (hne : a ≠ []) : parseR (sgn neg ++ a) = outR (valR neg a 0) := by
  have hp := p0_form neg ha hne []
  rw [List.append_nil] at hp
  obtain ⟨h0, hneg⟩ := hp
  have hlen : 0 < a.length := List.length_pos_iff.2 hne
  have hd0 : (sgn neg ++ a).drop (sgn neg).length = a := by rw [List.drop_left']; rfl
  have htw : tw a = a := by
    have := tw_append ha (t := []) (by simp)
    rw [List.append_nil] at this
    exact this
  have h1 : p1q (sgn neg).length (sgn neg ++ a) = (sgn neg ++ a).length := by unfold p1q; rw [hd0, htw, List.length_append]
  have hdr : (sgn neg ++ a).drop (sgn neg ++ a).length = [] := List.drop_length
  have hl : lookR (sgn neg ++ a) = (0, 0, ()) := by
    unfold lookR lookQ endR
    rw [h0, h1, hdr, if_neg (by simp), if_pos ⟨by rw [List.length_append]; omega, rfl⟩]
  have hb : behindD (sgn neg ++ a) = [] := by unfold behindD; rw [h0, h1, hdr]; rfl
  have hA : aheadD (sgn neg ++ a) = a := by unfold aheadD; rw [h0, hd0, htw]
  unfold parseR
  rw [hl, if_pos rfl, hb, hA, hneg, List.append_nil]
  rfl
theorem parse_point (neg : Bool) {a b : List UInt8} (ha : Digs a) (hne : a ≠ []) (hb : Digs b) (hbn : b ≠ []) : parseR (sgn neg ++ (a ++ 46 :: b)) = outR (valR neg (a ++ b) (-(b.length : Int))) := by
  obtain ⟨h0, hneg⟩ := p0_form neg ha hne (46 :: b)
  have hlen : 0 < a.length := List.length_pos_iff.2 hne
  have hlb : 0 < b.length := List.length_pos_iff.2 hbn
  have hd0 : (sgn neg ++ (a ++ 46 :: b)).drop (sgn neg).length = a ++ 46 :: b := by rw [List.drop_left']; rfl
  have htw : tw (a ++ 46 :: b) = a := tw_append ha (by simp [isDig])
  have h1 : p1q (sgn neg).length (sgn neg ++ (a ++ 46 :: b)) = (sgn neg).length + a.length := by unfold p1q; rw [hd0, htw]
  have hdr : (sgn neg ++ (a ++ 46 :: b)).drop ((sgn neg).length + a.length) = 46 :: b := by
    rw [← List.drop_drop, hd0, List.drop_left']; rfl
  have hdr2 : (sgn neg ++ (a ++ 46 :: b)).drop ((sgn neg).length + a.length + 1) = b := by
    rw [← List.drop_drop, hdr]; rfl
  have htb : tw b = b := by
    have := tw_append hb (t := []) (by simp)
    rw [List.append_nil] at this
    exact this
  have h3 : p3q (sgn neg).length (sgn neg ++ (a ++ 46 :: b)) = (sgn neg).length + a.length + 1 + b.length := by unfold p3q; rw [h1, hdr2, htb]
  have hL : (sgn neg ++ (a ++ 46 :: b)).length = (sgn neg).length + a.length + 1 + b.length := by simp; omega
  have hl : lookR (sgn neg ++ (a ++ 46 :: b)) = (0, 0, ()) := by
    unfold lookR lookQ endR
    rw [h0, h1, hdr, if_pos ⟨by omega, rfl⟩, h3, if_pos ⟨by omega, hL.symm⟩]
  have hB : behindD (sgn neg ++ (a ++ 46 :: b)) = b := by unfold behindD; rw [h0, h1, hdr, if_pos (show (46 :: b).head? = some 46 from rfl), hdr2, htb]
  have hA : aheadD (sgn neg ++ (a ++ 46 :: b)) = a := by unfold aheadD; rw [h0, hd0, htw]
  unfold parseR
  rw [hl, if_pos rfl, hB, hA, hneg]
theorem text_len (neg : Bool) (c : Nat) (hc : c < two64) (e : Int) (he : -18 ≤ e ∧ e ≤ 18) : (textD neg c e).length ≤ 39 ∧ (0 ≤ e ∨ e < 0) := by
  have hl := dd_len64 hc
  have hs : (sgn neg).length ≤ 1 := by cases neg <;> decide
  refine ⟨?_, by omega⟩
  unfold textD
  by_cases h : 0 ≤ e
  · rw [if_pos h]; simp; omega
  · rw [if_neg h]
    obtain ⟨w1, w2, w3⟩ := wideW_len c hc e (by omega)
    have : (wideW c e).length ≤ 20 ∨ (wideW c e).length = (1 - e).toNat := by unfold wideW; simp; omega
    simp
    omega
theorem parse_text (neg : Bool) (c : Nat) (hc : c < two64) (e : Int) (h : checkR neg c e = 0) : parseR (textD neg c e) = ((neg, (c : Int), e, ()), (0, 0, ()), ()) := by
  obtain ⟨h1, h2, h3⟩ := check_zero h
  have fin : outR (valR neg (Lib.decDigits c) e) = ((neg, (c : Int), e, ()), (0, 0, ()), ()) := by rw [h1]; rfl
  unfold textD
  by_cases hE : 0 ≤ e
  · rw [if_pos hE, parse_whole neg (digs_append.2 ⟨dd_digs c, digs_rep _⟩) (by simp [dd_ne]), valR_zeros_right _ (dd_digs c), ← fin]
    congr 2
    omega
  · obtain ⟨w1, w2, w3⟩ := wideW_len c hc e (by omega)
    rw [if_neg hE]
    have hT : (wideW c e).take ((wideW c e).length - e.natAbs) ≠ [] := by
      intro hh
      have := congrArg List.length hh
      simp at this
      omega
    have hD : (wideW c e).drop ((wideW c e).length - e.natAbs) ≠ [] := by
      intro hh
      have := congrArg List.length hh
      simp at this
      omega
    rw [List.append_assoc, List.singleton_append, parse_point neg (digs_take _ w3) hT (digs_drop _ w3) hD, List.take_append_drop, ← fin]
    have hlen : ((wideW c e).drop ((wideW c e).length - e.natAbs)).length = e.natAbs := by simp; omega
    rw [hlen]
    have hv : valR neg (wideW c e) (-(e.natAbs : Int)) = valR neg (Lib.decDigits c) (-(e.natAbs : Int)) := valR_zeros_left neg (dd_digs c) _ _
    rw [hv, show (-(e.natAbs : Int)) = e from by omega]
theorem awake03 (n : Nat) (hn : 5000 ≤ n) : F.law03_awake n = some true := by
  unfold F.law03_awake
  have d15 : Lib.decDigits 15 = [49, 53] := dd_inv (l := [49, 53]) rfl ⟨by simp, by simp⟩
  have c15 : checkR true 15 (-1) = 0 := by unfold checkR; rw [d15]; rfl
  have t15 : textD true 15 (-1) = [45, 49, 46, 53] := by unfold textD wideW; rw [d15]; rfl
  have q1 : parseR [45, 48, 49, 46, 53, 48] = ((true, 15, -1, ()), (0, 0, ()), ()) := by rfl
  have q2 : parseR [49, 46] = ((false, 0, 0, ()), (11, 2, ()), ()) := by rfl
  have q3 : parseR [43, 49] = ((false, 0, 0, ()), (14, 0, ()), ()) := by rfl
  have q4 : parseR [49, 48, 48, 48] = ((false, 1, 3, ()), (0, 0, ()), ()) := by rfl
  have q5 : parseR [57, 57, 57, 57, 57, 57, 57, 57, 57, 57, 57, 57, 57, 57, 57, 57, 57, 57, 57, 57] = ((false, 0, 0, ()), (10, 0, ()), ()) := by rfl
  rw [decparse_eq n hn _ (by simp), decparse_eq n hn _ (by simp), decparse_eq n hn _ (by simp), decparse_eq n hn _ (by simp), decparse_eq n hn _ (by simp), q1, q2, q3, q4, q5]
  have ht := text_dec n hn true 15 (by decide) (-1) (by omega)
  rw [c15, if_pos rfl, t15] at ht
  simp only [some_bind']
  rw [show (15 : Int) = ((15 : Nat) : Int) from rfl, ht]
  rfl
end Go.AM
