/- Part 4 of a proof by the abstract machine. -/
import Derived.Test.YtglkcdjgnmegmaaGreatDoorQ3
import Derived.Shelf.Strings.Builder1
import Derived.Shelf.Strings.Builder2
import Derived.Shelf.Strings.Trim
import Derived.Shelf.Small.Utf8
import Derived.Shelf.Small.Strs
import Derived.Shelf.Small.Wraps
import Derived.Shelf.Strings.BuilderF
import Derived.Shelf.Strings.BuilderK
import Derived.Shelf.Strings.Builder2Cap
import Derived.Shelf.Strconv.Atoi
import Derived.Shelf.Strconv.Itoa0
import Derived.Shelf.Strconv.Itoa1
import Derived.Shelf.LaysM
import Derived.Shelf.Strconv.Itoa2
import Derived.Shelf.Strconv.Itoa3
import Derived.Shelf.Strconv.AtoiErrFast
import Derived.Shelf.Strconv.ParseIntEmpty
import Derived.Shelf.Strconv.AtoiFail
import Derived.Shelf.Strconv.Clone
import Derived.Shelf.Strconv.SyntaxError
import Derived.Shelf.LaysC
import Derived.Shelf.Strconv.ToError
import Derived.Shelf.Strconv.Lower
import Derived.Shelf.Strconv.ParseUint10
import Derived.Shelf.Strconv.ParseUint10Empty
import Derived.Shelf.Strconv.ParseUint10Any
import Derived.Shelf.Strconv.ParseInt10
import Derived.Shelf.Strconv.AtoiLong
import Derived.Shelf.Strconv.AtoiInnerAll
import Derived.Shelf.Strconv.RangeError
import Derived.Shelf.Strconv.ToErrorRange
import Derived.Shelf.Strconv.AtoiAll
import Derived.Shelf.Strconv.ErrVarAll
import Derived.Shelf.Strings.Search1
import Derived.Shelf.Strings.Search2
import Derived.Shelf.Strings.Cut
import Derived.Shelf.Strings.Shaped
import Derived.Shelf.Strings.Prefix
import Derived.Shelf.Strings.Runes
import Derived.Shelf.Strings.AsciiSet
import Derived.Shelf.Bits.Mul64
import Derived.Shelf.Strings.Repeat
import Derived.Shelf.Unicode.DecodeSlow
import Derived.Shelf.Unicode.DecodeAny
import Derived.Shelf.Strings.BuilderCap
import Derived.Test.YtglkcdjgnmegmaaGreatDoorProg
import Derived.Lib.AppendIntMem
import Derived.Lib.ItoaMem
import Derived.Lib.Walk
import Derived.WalkKit
import Derived.BigCall
import Derived.BigGuard
set_option linter.unusedVariables false
namespace Go.AM
noncomputable def F.law10_Small.L2.step {X : Type} (n : Nat) (rec : Int → (List UInt8) → Int → (List ((Bool) × (Int) × (Int))) → Int → (List ((List UInt8) × (List UInt8))) → Int → Option X) (k0 : (List UInt8) → Int → (List ((Bool) × (Int) × (Int))) → Int → (List ((List UInt8) × (List UInt8))) → Int → Option X) (kr : Bool → (List UInt8) → Int → (List ((Bool) × (Int) × (Int))) → Int → (List ((List UInt8) × (List UInt8))) → Int → Option X) (v3 : Int) (vb0_0 : List UInt8) (vb0_1 : Int) (vb0_2 : List ((Bool) × (Int) × (Int))) (vb0_3 : Int) (vb0_4 : List ((List UInt8) × (List UInt8))) (vb0_5 : Int) : Option X :=
  bif decide (v3 < (vb0_4.length : Int)) then
    bif decide (v3 < (51 : Int)) then
      (idx vb0_4 v3).bind fun x1 =>
        bif decide ((x1.1.length : Int) > (200 : Int)) then
          kr false vb0_0 vb0_1 vb0_2 vb0_3 vb0_4 vb0_5
        else
          (idx vb0_4 v3).bind fun x2 =>
            bif decide ((x2.2.length : Int) > (200 : Int)) then
              kr false vb0_0 vb0_1 vb0_2 vb0_3 vb0_4 vb0_5
            else
              rec (IntKind.wrap .i64 (v3 + (1 : Int))) vb0_0 vb0_1 vb0_2 vb0_3 vb0_4 vb0_5
    else
      k0 vb0_0 vb0_1 vb0_2 vb0_3 vb0_4 vb0_5
  else
    k0 vb0_0 vb0_1 vb0_2 vb0_3 vb0_4 vb0_5
noncomputable def F.law10_Small.L2 {X : Type} (n : Nat) (k0 : (List UInt8) → Int → (List ((Bool) × (Int) × (Int))) → Int → (List ((List UInt8) × (List UInt8))) → Int → Option X) (kr : Bool → (List UInt8) → Int → (List ((Bool) × (Int) × (Int))) → Int → (List ((List UInt8) × (List UInt8))) → Int → Option X) : Nat → Int → (List UInt8) → Int → (List ((Bool) × (Int) × (Int))) → Int → (List ((List UInt8) × (List UInt8))) → Int → Option X
  | 0 => fun _ _ _ _ _ _ _ => none
  | m + 1 => fun v3 vb0_0 vb0_1 vb0_2 vb0_3 vb0_4 vb0_5 => F.law10_Small.L2.step n (F.law10_Small.L2 n k0 kr m) k0 kr v3 vb0_0 vb0_1 vb0_2 vb0_3 vb0_4 vb0_5
noncomputable def F.law10_Small (n : Nat) (a0 : (List UInt8) × (Int) × (List ((Bool) × (Int) × (Int))) × (Int) × (List ((List UInt8) × (List UInt8))) × (Int) × Unit) : Option (Bool) :=
  F.law10_Small.L2 n
    (fun e3_b0_0 e3_b0_1 e3_b0_2 e3_b0_3 e3_b0_4 e3_b0_5 =>
      bif decide ((e3_b0_0.length : Int) ≤ (300 : Int)) then
        bif decide ((e3_b0_2.length : Int) ≤ (80 : Int)) then
          some (decide ((e3_b0_4.length : Int) ≤ (50 : Int)))
        else
          some (false)
      else
        some (false))
    (fun e4_2 e4_b0_0 e4_b0_1 e4_b0_2 e4_b0_3 e4_b0_4 e4_b0_5 =>
      some (e4_2)) n (0 : Int) a0.1 a0.2.1 a0.2.2.1 a0.2.2.2.1 a0.2.2.2.2.1 a0.2.2.2.2.2.1
noncomputable def F.class_may (n : Nat) (a0 : Int) : Option (Bool) :=
  bif decide (a0 ≥ (1 : Int)) then
    some (decide (a0 ≤ (4 : Int)))
  else
    some (false)
noncomputable def F.class_between (n : Nat) (a0 : Int) (a1 : Int) (a2 : Int) : Option (Bool) :=
  bif decide (a0 ≥ a1) then
    some (decide (a0 ≤ a2))
  else
    some (false)
noncomputable def F.class_Is (n : Nat) (a0 : Int) (a1 : Int) : Option (Bool) :=
  bif a0 == (3 : Int) then
    (F.class_between n a1 (33 : Int) (126 : Int)).bind fun y1 =>
      bif y1 then
        bif !(a1 == (44 : Int)) then
          some (!(a1 == (124 : Int)))
        else
          some (false)
      else
        some (false)
  else
  bif a0 == (2 : Int) then
    bif a1 == (47 : Int) then
      some (true)
    else
      (F.class_between n a1 (65 : Int) (90 : Int)).bind fun y2 =>
        bif y2 then
          some (true)
        else
          (F.class_between n a1 (97 : Int) (122 : Int)).bind fun y3 =>
            bif y3 then
              some (true)
            else
            bif a1 == (95 : Int) then
              some (true)
            else
            bif a1 == (46 : Int) then
              some (true)
            else
            bif a1 == (45 : Int) then
              some (true)
            else
              (F.class_between n a1 (48 : Int) (57 : Int)).bind fun y4 =>
                some (y4)
  else
  bif a0 == (1 : Int) then
    (F.class_between n a1 (65 : Int) (90 : Int)).bind fun y5 =>
      bif y5 then
        some (true)
      else
        (F.class_between n a1 (97 : Int) (122 : Int)).bind fun y6 =>
          bif y6 then
            some (true)
          else
          bif a1 == (95 : Int) then
            some (true)
          else
          bif a1 == (46 : Int) then
            some (true)
          else
          bif a1 == (45 : Int) then
            some (true)
          else
            (F.class_between n a1 (48 : Int) (57 : Int)).bind fun y7 =>
              some (y7)
  else
  bif a0 == (4 : Int) then
    (F.class_between n a1 (48 : Int) (57 : Int)).bind fun y8 =>
      some (y8)
  else
    some (false)
noncomputable def F.class_Bad.L4.step {X : Type} (n : Nat) (rec : Int → (List UInt8) → Int → Int → Option X) (k0 : Unit → Option X) (kr : Int → Int → Option X) (v0 : Int) (v1 : List UInt8) (v11 : Int) (v12 : Int) : Option X :=
  bif decide (v12 < v11) then
    (idx v1 v12).bind fun x2 =>
      (F.class_Is n v0 ((x2).toNat)).bind fun y3 =>
        bif !y3 then
          kr v12 (0 : Int)
        else
          rec v0 v1 v11 (IntKind.wrap .i64 (v12 + (1 : Int)))
  else
    k0 ()
noncomputable def F.class_Bad.L4 {X : Type} (n : Nat) (k0 : Unit → Option X) (kr : Int → Int → Option X) : Nat → Int → (List UInt8) → Int → Int → Option X
  | 0 => fun _ _ _ _ => none
  | m + 1 => fun v0 v1 v11 v12 => F.class_Bad.L4.step n (F.class_Bad.L4 n k0 kr m) k0 kr v0 v1 v11 v12
noncomputable def F.class_Bad (n : Nat) (a0 : Int) (a1 : List UInt8) : Option ((Int) × (Int) × Unit) :=
  (F.class_may n a0).bind fun y1 =>
    bif !y1 then
      some (((0 : Int), (1 : Int), ()))
    else
      F.class_Bad.L4 n
        (fun (_ : Unit) =>
          some (((-1 : Int), (0 : Int), ())))
        (fun e5_4 e5_5 =>
          some ((e5_4, e5_5, ()))) n a0 a1 (a1.length : Int) (0 : Int)
noncomputable def F.class_Text (n : Nat) (a0 : Int) (a1 : List UInt8) (a2 : Int) (a3 : Int) : Option ((Int) × (Int) × Unit) :=
  (F.class_Bad n a0 a1).bind fun y1 =>
    bif !(y1.2.1 == (0 : Int)) then
      some (((1 : Int), (0 : Int), ()))
    else
    bif decide (a2 < (0 : Int)) then
      some (((1 : Int), (0 : Int), ()))
    else
    bif decide (a3 < a2) then
      some (((1 : Int), (0 : Int), ()))
    else
    bif decide ((a1.length : Int) < a2) then
      some (((13 : Int), (a1.length : Int), ()))
    else
    bif decide ((a1.length : Int) > a3) then
      some (((12 : Int), a3, ()))
    else
    bif decide (y1.1 ≥ (0 : Int)) then
      some (((14 : Int), y1.1, ()))
    else
      some (((0 : Int), (0 : Int), ()))
noncomputable def F.metric_look_name (n : Nat) (a0 : (List UInt8) × (Int) × (List ((Bool) × (Int) × (Int))) × (Int) × (List ((List UInt8) × (List UInt8))) × (Int) × Unit) : Option (Bool) :=
  (F.class_Text n (1 : Int) a0.1 (1 : Int) (200 : Int)).bind fun y1 =>
    some ((y1.1 == (0 : Int)) && (y1.2.1 == (0 : Int)))
noncomputable def F.metric_between (n : Nat) (a0 : Int) (a1 : Int) (a2 : Int) : Option (Bool) :=
  bif decide (a0 ≥ a1) then
    some (decide (a0 ≤ a2))
  else
    some (false)
noncomputable def F.metric_look_kind (n : Nat) (a0 : (List UInt8) × (Int) × (List ((Bool) × (Int) × (Int))) × (Int) × (List ((List UInt8) × (List UInt8))) × (Int) × Unit) : Option (Bool) :=
  (F.metric_between n a0.2.1 (1 : Int) (5 : Int)).bind fun y1 =>
    some (y1)
noncomputable def F.dec_times (n : Nat) (a0 : Int) (a1 : Int) : Option ((Int) × (Bool) × Unit) :=
  (O.mul64 n a0 (10 : Int)).bind fun y1 =>
    (O.add64 n y1.2.1 a1 (0 : Int)).bind fun y2 =>
      bif y1.1 == (0 : Int) then
        some ((y2.1, y2.2.1 == (0 : Int), ()))
      else
        some ((y2.1, false, ()))
noncomputable def F.dec_Normal.L3.step {X : Type} (n : Nat) (rec : Bool → Int → Int → Bool → Int → Int → Option X) (k0 : Bool → Int → Int → Bool → Int → Int → Option X) (vb0_0 : Bool) (vb0_1 : Int) (vb0_2 : Int) (vb1_0 : Bool) (vb1_1 : Int) (vb1_2 : Int) : Option X :=
  bif (vb0_1.tmod (10 : Int)) == (0 : Int) then
    bif decide (vb0_2 < (18 : Int)) then
      rec vb0_0 (IntKind.wrap .u64 (vb0_1.tdiv (10 : Int))) (IntKind.wrap .i64 (vb0_2 + (1 : Int))) vb1_0 vb1_1 vb1_2
    else
      k0 vb0_0 vb0_1 vb0_2 vb1_0 vb1_1 vb1_2
  else
    k0 vb0_0 vb0_1 vb0_2 vb1_0 vb1_1 vb1_2
noncomputable def F.dec_Normal.L3 {X : Type} (n : Nat) (k0 : Bool → Int → Int → Bool → Int → Int → Option X) : Nat → Bool → Int → Int → Bool → Int → Int → Option X
  | 0 => fun _ _ _ _ _ _ => none
  | m + 1 => fun vb0_0 vb0_1 vb0_2 vb1_0 vb1_1 vb1_2 => F.dec_Normal.L3.step n (F.dec_Normal.L3 n k0 m) k0 vb0_0 vb0_1 vb0_2 vb1_0 vb1_1 vb1_2
noncomputable def F.dec_Normal.L5.step {X : Type} (n : Nat) (rec : Bool → Int → Int → Bool → Int → Int → Option X) (k2 : Bool → Int → Int → Bool → Int → Int → Option X) (kr : Int → Bool → Int → Int → Bool → Int → Int → Option X) (vb0_0 : Bool) (vb0_1 : Int) (vb0_2 : Int) (vb1_0 : Bool) (vb1_1 : Int) (vb1_2 : Int) : Option X :=
  bif decide (vb0_2 > (18 : Int)) then
    (F.dec_times n vb0_1 (0 : Int)).bind fun y2 =>
      bif !y2.2.1 then
        kr (10 : Int) vb0_0 vb0_1 vb0_2 false (0 : Int) (0 : Int)
      else
        rec vb0_0 y2.1 (IntKind.wrap .i64 (vb0_2 - (1 : Int))) vb1_0 vb1_1 vb1_2
  else
    k2 vb0_0 vb0_1 vb0_2 vb1_0 vb1_1 vb1_2
noncomputable def F.dec_Normal.L5 {X : Type} (n : Nat) (k2 : Bool → Int → Int → Bool → Int → Int → Option X) (kr : Int → Bool → Int → Int → Bool → Int → Int → Option X) : Nat → Bool → Int → Int → Bool → Int → Int → Option X
  | 0 => fun _ _ _ _ _ _ => none
  | m + 1 => fun vb0_0 vb0_1 vb0_2 vb1_0 vb1_1 vb1_2 => F.dec_Normal.L5.step n (F.dec_Normal.L5 n k2 kr m) k2 kr vb0_0 vb0_1 vb0_2 vb1_0 vb1_1 vb1_2
noncomputable def F.dec_Normal (n : Nat) (a0 : (Bool) × (Int) × (Int) × Unit) : Option (((Bool) × (Int) × (Int) × Unit) × (Int) × Unit) :=
  bif a0.2.1 == (0 : Int) then
    some (((false, (0 : Int), (0 : Int), ()), (0 : Int), ()))
  else
    F.dec_Normal.L3 n
      (fun e1_b0_0 e1_b0_1 e1_b0_2 e1_b1_0 e1_b1_1 e1_b1_2 =>
        F.dec_Normal.L5 n
          (fun e3_b0_0 e3_b0_1 e3_b0_2 e3_b1_0 e3_b1_1 e3_b1_2 =>
            bif decide (e3_b0_2 < (-18 : Int)) then
              some (((false, (0 : Int), (0 : Int), ()), (10 : Int), ()))
            else
              some (((e3_b0_0, e3_b0_1, e3_b0_2, ()), (0 : Int), ())))
          (fun e4_3 e4_b0_0 e4_b0_1 e4_b0_2 e4_b1_0 e4_b1_1 e4_b1_2 =>
            some (((e4_b1_0, e4_b1_1, e4_b1_2, ()), e4_3, ()))) n e1_b0_0 e1_b0_1 e1_b0_2 e1_b1_0 e1_b1_1 e1_b1_2) n a0.1 a0.2.1 a0.2.2.1 false (0 : Int) (0 : Int)
noncomputable def F.dec_Check (n : Nat) (a0 : (Bool) × (Int) × (Int) × Unit) : Option (Int) :=
  bif !(a0.2.1 == (0 : Int)) then
    bif decide (a0.2.2.1 < (-18 : Int)) then
      some ((10 : Int))
    else
    bif decide (a0.2.2.1 > (18 : Int)) then
      some ((10 : Int))
    else
      (F.dec_Normal n (a0.1, a0.2.1, a0.2.2.1, ())).bind fun y1 =>
        bif !(y1.2.1 == (0 : Int)) then
          some ((21 : Int))
        else
        bif !((y1.1.1 == a0.1) && ((y1.1.2.1 == a0.2.1) && (y1.1.2.2.1 == a0.2.2.1))) then
          some ((21 : Int))
        else
          some ((0 : Int))
  else
    (F.dec_Normal n (a0.1, a0.2.1, a0.2.2.1, ())).bind fun y2 =>
      bif !(y2.2.1 == (0 : Int)) then
        some ((21 : Int))
      else
      bif !((y2.1.1 == a0.1) && ((y2.1.2.1 == a0.2.1) && (y2.1.2.2.1 == a0.2.2.1))) then
        some ((21 : Int))
      else
        some ((0 : Int))
noncomputable def F.metric_look_values_1 (n : Nat) (a0 : (Bool) × (Int) × (Int) × Unit) : Option (Bool) :=
  (F.dec_Check n (a0.1, a0.2.1, a0.2.2.1, ())).bind fun y1 =>
    some (!(y1 == (0 : Int)))
noncomputable def F.metric_look_values.L2_slices_IndexFunc_api_Dec_api_Dec.step {X : Type} (n : Nat) (rec : (List ((Bool) × (Int) × (Int))) → Int → Int → (List UInt8) → Int → (List ((Bool) × (Int) × (Int))) → Int → (List ((List UInt8) × (List UInt8))) → Int → Option X) (k0 : (List UInt8) → Int → (List ((Bool) × (Int) × (Int))) → Int → (List ((List UInt8) × (List UInt8))) → Int → Option X) (kr : Int → (List UInt8) → Int → (List ((Bool) × (Int) × (Int))) → Int → (List ((List UInt8) × (List UInt8))) → Int → Option X) (v0 : List ((Bool) × (Int) × (Int))) (v7 : Int) (v8 : Int) (vb0_0 : List UInt8) (vb0_1 : Int) (vb0_2 : List ((Bool) × (Int) × (Int))) (vb0_3 : Int) (vb0_4 : List ((List UInt8) × (List UInt8))) (vb0_5 : Int) : Option X :=
  bif decide (v8 < v7) then
    (idx v0 v8).bind fun x2 =>
      (F.metric_look_values_1 n (x2.1, x2.2.1, x2.2.2, ())).bind fun y3 =>
        bif y3 then
          kr v8 vb0_0 vb0_1 vb0_2 vb0_3 vb0_4 vb0_5
        else
          rec v0 v7 (IntKind.wrap .i64 (v8 + (1 : Int))) vb0_0 vb0_1 vb0_2 vb0_3 vb0_4 vb0_5
  else
    k0 vb0_0 vb0_1 vb0_2 vb0_3 vb0_4 vb0_5
noncomputable def F.metric_look_values.L2_slices_IndexFunc_api_Dec_api_Dec {X : Type} (n : Nat) (k0 : (List UInt8) → Int → (List ((Bool) × (Int) × (Int))) → Int → (List ((List UInt8) × (List UInt8))) → Int → Option X) (kr : Int → (List UInt8) → Int → (List ((Bool) × (Int) × (Int))) → Int → (List ((List UInt8) × (List UInt8))) → Int → Option X) : Nat → (List ((Bool) × (Int) × (Int))) → Int → Int → (List UInt8) → Int → (List ((Bool) × (Int) × (Int))) → Int → (List ((List UInt8) × (List UInt8))) → Int → Option X
  | 0 => fun _ _ _ _ _ _ _ _ _ => none
  | m + 1 => fun v0 v7 v8 vb0_0 vb0_1 vb0_2 vb0_3 vb0_4 vb0_5 => F.metric_look_values.L2_slices_IndexFunc_api_Dec_api_Dec.step n (F.metric_look_values.L2_slices_IndexFunc_api_Dec_api_Dec n k0 kr m) k0 kr v0 v7 v8 vb0_0 vb0_1 vb0_2 vb0_3 vb0_4 vb0_5
noncomputable def F.metric_look_values (n : Nat) (a0 : (List UInt8) × (Int) × (List ((Bool) × (Int) × (Int))) × (Int) × (List ((List UInt8) × (List UInt8))) × (Int) × Unit) : Option (Bool) :=
  (F.metric_between n (a0.2.2.1.length : Int) (1 : Int) (64 : Int)).bind fun y1 =>
    bif y1 then
      F.metric_look_values.L2_slices_IndexFunc_api_Dec_api_Dec n
        (fun e4_b0_0 e4_b0_1 e4_b0_2 e4_b0_3 e4_b0_4 e4_b0_5 =>
          some (true))
        (fun e5_4 e5_b0_0 e5_b0_1 e5_b0_2 e5_b0_3 e5_b0_4 e5_b0_5 =>
          some (!(decide (e5_4 ≥ (0 : Int))))) n a0.2.2.1 (a0.2.2.1.length : Int) (0 : Int) a0.1 a0.2.1 a0.2.2.1 a0.2.2.2.1 a0.2.2.2.2.1 a0.2.2.2.2.2.1
    else
      some (false)
noncomputable def F.metric_look_rate (n : Nat) (a0 : (List UInt8) × (Int) × (List ((Bool) × (Int) × (Int))) × (Int) × (List ((List UInt8) × (List UInt8))) × (Int) × Unit) : Option (Bool) :=
  (F.metric_between n a0.2.2.2.1 (1 : Int) (1000000 : Int)).bind fun y1 =>
    bif y1 then
      bif !(a0.2.1 == (2 : Int)) then
        some (true)
      else
        some (a0.2.2.2.1 == (1000000 : Int))
    else
      some (false)
noncomputable def F.tag_Check (n : Nat) (a0 : (List UInt8) × (List UInt8) × Unit) : Option (Int) :=
  (F.class_Text n (2 : Int) a0.1 (1 : Int) (64 : Int)).bind fun y1 =>
    bif !((y1.1 == (0 : Int)) && (y1.2.1 == (0 : Int))) then
      some ((19 : Int))
    else
      (F.class_Text n (3 : Int) a0.2.1 (0 : Int) (100 : Int)).bind fun y2 =>
        bif !((y2.1 == (0 : Int)) && (y2.2.1 == (0 : Int))) then
          some ((19 : Int))
        else
          some ((0 : Int))
noncomputable def F.metric_look_tags_1 (n : Nat) (a0 : (List UInt8) × (List UInt8) × Unit) : Option (Bool) :=
  (F.tag_Check n (a0.1, a0.2.1, ())).bind fun y1 =>
    some (!(y1 == (0 : Int)))
noncomputable def F.metric_look_tags.L2_slices_IndexFunc_api_Tag_api_Tag.step {X : Type} (n : Nat) (rec : (List ((List UInt8) × (List UInt8))) → Int → Int → (List UInt8) → Int → (List ((Bool) × (Int) × (Int))) → Int → (List ((List UInt8) × (List UInt8))) → Int → Option X) (k0 : (List UInt8) → Int → (List ((Bool) × (Int) × (Int))) → Int → (List ((List UInt8) × (List UInt8))) → Int → Option X) (kr : Int → (List UInt8) → Int → (List ((Bool) × (Int) × (Int))) → Int → (List ((List UInt8) × (List UInt8))) → Int → Option X) (v0 : List ((List UInt8) × (List UInt8))) (v7 : Int) (v8 : Int) (vb0_0 : List UInt8) (vb0_1 : Int) (vb0_2 : List ((Bool) × (Int) × (Int))) (vb0_3 : Int) (vb0_4 : List ((List UInt8) × (List UInt8))) (vb0_5 : Int) : Option X :=
  bif decide (v8 < v7) then
    (idx v0 v8).bind fun x1 =>
      (F.metric_look_tags_1 n (x1.1, x1.2, ())).bind fun y2 =>
        bif y2 then
          kr v8 vb0_0 vb0_1 vb0_2 vb0_3 vb0_4 vb0_5
        else
          rec v0 v7 (IntKind.wrap .i64 (v8 + (1 : Int))) vb0_0 vb0_1 vb0_2 vb0_3 vb0_4 vb0_5
  else
    k0 vb0_0 vb0_1 vb0_2 vb0_3 vb0_4 vb0_5
noncomputable def F.metric_look_tags.L2_slices_IndexFunc_api_Tag_api_Tag {X : Type} (n : Nat) (k0 : (List UInt8) → Int → (List ((Bool) × (Int) × (Int))) → Int → (List ((List UInt8) × (List UInt8))) → Int → Option X) (kr : Int → (List UInt8) → Int → (List ((Bool) × (Int) × (Int))) → Int → (List ((List UInt8) × (List UInt8))) → Int → Option X) : Nat → (List ((List UInt8) × (List UInt8))) → Int → Int → (List UInt8) → Int → (List ((Bool) × (Int) × (Int))) → Int → (List ((List UInt8) × (List UInt8))) → Int → Option X
  | 0 => fun _ _ _ _ _ _ _ _ _ => none
  | m + 1 => fun v0 v7 v8 vb0_0 vb0_1 vb0_2 vb0_3 vb0_4 vb0_5 => F.metric_look_tags.L2_slices_IndexFunc_api_Tag_api_Tag.step n (F.metric_look_tags.L2_slices_IndexFunc_api_Tag_api_Tag n k0 kr m) k0 kr v0 v7 v8 vb0_0 vb0_1 vb0_2 vb0_3 vb0_4 vb0_5
noncomputable def F.metric_look_tags (n : Nat) (a0 : (List UInt8) × (Int) × (List ((Bool) × (Int) × (Int))) × (Int) × (List ((List UInt8) × (List UInt8))) × (Int) × Unit) : Option (Bool) :=
  bif decide ((a0.2.2.2.2.1.length : Int) ≤ (32 : Int)) then
    F.metric_look_tags.L2_slices_IndexFunc_api_Tag_api_Tag n
      (fun e3_b0_0 e3_b0_1 e3_b0_2 e3_b0_3 e3_b0_4 e3_b0_5 =>
        some (true))
      (fun e4_4 e4_b0_0 e4_b0_1 e4_b0_2 e4_b0_3 e4_b0_4 e4_b0_5 =>
        some (!(decide (e4_4 ≥ (0 : Int))))) n a0.2.2.2.2.1 (a0.2.2.2.2.1.length : Int) (0 : Int) a0.1 a0.2.1 a0.2.2.1 a0.2.2.2.1 a0.2.2.2.2.1 a0.2.2.2.2.2.1
  else
    some (false)
noncomputable def F.metric_look_time (n : Nat) (a0 : (List UInt8) × (Int) × (List ((Bool) × (Int) × (Int))) × (Int) × (List ((List UInt8) × (List UInt8))) × (Int) × Unit) : Option (Bool) :=
  (F.metric_between n a0.2.2.2.2.2.1 (0 : Int) (1099511627776 : Int)).bind fun y1 =>
    some (y1)
noncomputable def F.metric_Check.L3.step {X : Type} (n : Nat) (rec : (((((List UInt8) × (Int) × (List ((Bool) × (Int) × (Int))) × (Int) × (List ((List UInt8) × (List UInt8))) × (Int) × Unit) × Unit) × (Unit)) × (Int) × ((((List UInt8) × (Int) × (List ((Bool) × (Int) × (Int))) × (Int) × (List ((List UInt8) × (List UInt8))) × (Int) × Unit) × Unit) × (Unit)) × (Int) × ((((List UInt8) × (Int) × (List ((Bool) × (Int) × (Int))) × (Int) × (List ((List UInt8) × (List UInt8))) × (Int) × Unit) × Unit) × (Unit)) × (Int) × ((((List UInt8) × (Int) × (List ((Bool) × (Int) × (Int))) × (Int) × (List ((List UInt8) × (List UInt8))) × (Int) × Unit) × Unit) × (Unit)) × (Int) × ((((List UInt8) × (Int) × (List ((Bool) × (Int) × (Int))) × (Int) × (List ((List UInt8) × (List UInt8))) × (Int) × Unit) × Unit) × (Unit)) × (Int) × ((((List UInt8) × (Int) × (List ((Bool) × (Int) × (Int))) × (Int) × (List ((List UInt8) × (List UInt8))) × (Int) × Unit) × Unit) × (Unit)) × (Int) × Unit) → Int → (List UInt8) → Int → (List ((Bool) × (Int) × (Int))) → Int → (List ((List UInt8) × (List UInt8))) → Int → (List UInt8) → Int → (List ((Bool) × (Int) × (Int))) → Int → (List ((List UInt8) × (List UInt8))) → Int → Option X) (k0 : (List UInt8) → Int → (List ((Bool) × (Int) × (Int))) → Int → (List ((List UInt8) × (List UInt8))) → Int → (List UInt8) → Int → (List ((Bool) × (Int) × (Int))) → Int → (List ((List UInt8) × (List UInt8))) → Int → Option X) (kr : Int → (List UInt8) → Int → (List ((Bool) × (Int) × (Int))) → Int → (List ((List UInt8) × (List UInt8))) → Int → (List UInt8) → Int → (List ((Bool) × (Int) × (Int))) → Int → (List ((List UInt8) × (List UInt8))) → Int → Option X) (v26 : ((((List UInt8) × (Int) × (List ((Bool) × (Int) × (Int))) × (Int) × (List ((List UInt8) × (List UInt8))) × (Int) × Unit) × Unit) × (Unit)) × (Int) × ((((List UInt8) × (Int) × (List ((Bool) × (Int) × (Int))) × (Int) × (List ((List UInt8) × (List UInt8))) × (Int) × Unit) × Unit) × (Unit)) × (Int) × ((((List UInt8) × (Int) × (List ((Bool) × (Int) × (Int))) × (Int) × (List ((List UInt8) × (List UInt8))) × (Int) × Unit) × Unit) × (Unit)) × (Int) × ((((List UInt8) × (Int) × (List ((Bool) × (Int) × (Int))) × (Int) × (List ((List UInt8) × (List UInt8))) × (Int) × Unit) × Unit) × (Unit)) × (Int) × ((((List UInt8) × (Int) × (List ((Bool) × (Int) × (Int))) × (Int) × (List ((List UInt8) × (List UInt8))) × (Int) × Unit) × Unit) × (Unit)) × (Int) × ((((List UInt8) × (Int) × (List ((Bool) × (Int) × (Int))) × (Int) × (List ((List UInt8) × (List UInt8))) × (Int) × Unit) × Unit) × (Unit)) × (Int) × Unit) (v27 : Int) (vb0_0 : List UInt8) (vb0_1 : Int) (vb0_2 : List ((Bool) × (Int) × (Int))) (vb0_3 : Int) (vb0_4 : List ((List UInt8) × (List UInt8))) (vb0_5 : Int) (vb1_0 : List UInt8) (vb1_1 : Int) (vb1_2 : List ((Bool) × (Int) × (Int))) (vb1_3 : Int) (vb1_4 : List ((List UInt8) × (List UInt8))) (vb1_5 : Int) : Option X :=
  bif decide (v27 < (6 : Int)) then
    bif v27 == (0 : Int) then
      (F.metric_look_name n (v26.1.1.1.1, v26.1.1.1.2.1, v26.1.1.1.2.2.1, v26.1.1.1.2.2.2.1, v26.1.1.1.2.2.2.2.1, v26.1.1.1.2.2.2.2.2.1, ())).bind fun y1 =>
        bif !y1 then
          kr v26.2.1 vb0_0 vb0_1 vb0_2 vb0_3 vb0_4 vb0_5 vb1_0 vb1_1 vb1_2 vb1_3 vb1_4 vb1_5
        else
          rec ((((v26.1.1.1.1, v26.1.1.1.2.1, v26.1.1.1.2.2.1, v26.1.1.1.2.2.2.1, v26.1.1.1.2.2.2.2.1, v26.1.1.1.2.2.2.2.2.1, ()), ()), (())), v26.2.1, (((v26.2.2.1.1.1.1, v26.2.2.1.1.1.2.1, v26.2.2.1.1.1.2.2.1, v26.2.2.1.1.1.2.2.2.1, v26.2.2.1.1.1.2.2.2.2.1, v26.2.2.1.1.1.2.2.2.2.2.1, ()), ()), (())), v26.2.2.2.1, (((v26.2.2.2.2.1.1.1.1, v26.2.2.2.2.1.1.1.2.1, v26.2.2.2.2.1.1.1.2.2.1, v26.2.2.2.2.1.1.1.2.2.2.1, v26.2.2.2.2.1.1.1.2.2.2.2.1, v26.2.2.2.2.1.1.1.2.2.2.2.2.1, ()), ()), (())), v26.2.2.2.2.2.1, (((v26.2.2.2.2.2.2.1.1.1.1, v26.2.2.2.2.2.2.1.1.1.2.1, v26.2.2.2.2.2.2.1.1.1.2.2.1, v26.2.2.2.2.2.2.1.1.1.2.2.2.1, v26.2.2.2.2.2.2.1.1.1.2.2.2.2.1, v26.2.2.2.2.2.2.1.1.1.2.2.2.2.2.1, ()), ()), (())), v26.2.2.2.2.2.2.2.1, (((v26.2.2.2.2.2.2.2.2.1.1.1.1, v26.2.2.2.2.2.2.2.2.1.1.1.2.1, v26.2.2.2.2.2.2.2.2.1.1.1.2.2.1, v26.2.2.2.2.2.2.2.2.1.1.1.2.2.2.1, v26.2.2.2.2.2.2.2.2.1.1.1.2.2.2.2.1, v26.2.2.2.2.2.2.2.2.1.1.1.2.2.2.2.2.1, ()), ()), (())), v26.2.2.2.2.2.2.2.2.2.1, (((v26.2.2.2.2.2.2.2.2.2.2.1.1.1.1, v26.2.2.2.2.2.2.2.2.2.2.1.1.1.2.1, v26.2.2.2.2.2.2.2.2.2.2.1.1.1.2.2.1, v26.2.2.2.2.2.2.2.2.2.2.1.1.1.2.2.2.1, v26.2.2.2.2.2.2.2.2.2.2.1.1.1.2.2.2.2.1, v26.2.2.2.2.2.2.2.2.2.2.1.1.1.2.2.2.2.2.1, ()), ()), (())), v26.2.2.2.2.2.2.2.2.2.2.2.1, ()) (IntKind.wrap .i64 (v27 + (1 : Int))) vb0_0 vb0_1 vb0_2 vb0_3 vb0_4 vb0_5 vb1_0 vb1_1 vb1_2 vb1_3 vb1_4 vb1_5
    else
    bif v27 == (1 : Int) then
      (F.metric_look_kind n (v26.2.2.1.1.1.1, v26.2.2.1.1.1.2.1, v26.2.2.1.1.1.2.2.1, v26.2.2.1.1.1.2.2.2.1, v26.2.2.1.1.1.2.2.2.2.1, v26.2.2.1.1.1.2.2.2.2.2.1, ())).bind fun y2 =>
        bif !y2 then
          kr v26.2.2.2.1 vb0_0 vb0_1 vb0_2 vb0_3 vb0_4 vb0_5 vb1_0 vb1_1 vb1_2 vb1_3 vb1_4 vb1_5
        else
          rec ((((v26.1.1.1.1, v26.1.1.1.2.1, v26.1.1.1.2.2.1, v26.1.1.1.2.2.2.1, v26.1.1.1.2.2.2.2.1, v26.1.1.1.2.2.2.2.2.1, ()), ()), (())), v26.2.1, (((v26.2.2.1.1.1.1, v26.2.2.1.1.1.2.1, v26.2.2.1.1.1.2.2.1, v26.2.2.1.1.1.2.2.2.1, v26.2.2.1.1.1.2.2.2.2.1, v26.2.2.1.1.1.2.2.2.2.2.1, ()), ()), (())), v26.2.2.2.1, (((v26.2.2.2.2.1.1.1.1, v26.2.2.2.2.1.1.1.2.1, v26.2.2.2.2.1.1.1.2.2.1, v26.2.2.2.2.1.1.1.2.2.2.1, v26.2.2.2.2.1.1.1.2.2.2.2.1, v26.2.2.2.2.1.1.1.2.2.2.2.2.1, ()), ()), (())), v26.2.2.2.2.2.1, (((v26.2.2.2.2.2.2.1.1.1.1, v26.2.2.2.2.2.2.1.1.1.2.1, v26.2.2.2.2.2.2.1.1.1.2.2.1, v26.2.2.2.2.2.2.1.1.1.2.2.2.1, v26.2.2.2.2.2.2.1.1.1.2.2.2.2.1, v26.2.2.2.2.2.2.1.1.1.2.2.2.2.2.1, ()), ()), (())), v26.2.2.2.2.2.2.2.1, (((v26.2.2.2.2.2.2.2.2.1.1.1.1, v26.2.2.2.2.2.2.2.2.1.1.1.2.1, v26.2.2.2.2.2.2.2.2.1.1.1.2.2.1, v26.2.2.2.2.2.2.2.2.1.1.1.2.2.2.1, v26.2.2.2.2.2.2.2.2.1.1.1.2.2.2.2.1, v26.2.2.2.2.2.2.2.2.1.1.1.2.2.2.2.2.1, ()), ()), (())), v26.2.2.2.2.2.2.2.2.2.1, (((v26.2.2.2.2.2.2.2.2.2.2.1.1.1.1, v26.2.2.2.2.2.2.2.2.2.2.1.1.1.2.1, v26.2.2.2.2.2.2.2.2.2.2.1.1.1.2.2.1, v26.2.2.2.2.2.2.2.2.2.2.1.1.1.2.2.2.1, v26.2.2.2.2.2.2.2.2.2.2.1.1.1.2.2.2.2.1, v26.2.2.2.2.2.2.2.2.2.2.1.1.1.2.2.2.2.2.1, ()), ()), (())), v26.2.2.2.2.2.2.2.2.2.2.2.1, ()) (IntKind.wrap .i64 (v27 + (1 : Int))) vb0_0 vb0_1 vb0_2 vb0_3 vb0_4 vb0_5 vb1_0 vb1_1 vb1_2 vb1_3 vb1_4 vb1_5
    else
    bif v27 == (2 : Int) then
      (F.metric_look_values n (v26.2.2.2.2.1.1.1.1, v26.2.2.2.2.1.1.1.2.1, v26.2.2.2.2.1.1.1.2.2.1, v26.2.2.2.2.1.1.1.2.2.2.1, v26.2.2.2.2.1.1.1.2.2.2.2.1, v26.2.2.2.2.1.1.1.2.2.2.2.2.1, ())).bind fun y3 =>
        bif !y3 then
          kr v26.2.2.2.2.2.1 vb0_0 vb0_1 vb0_2 vb0_3 vb0_4 vb0_5 vb1_0 vb1_1 vb1_2 vb1_3 vb1_4 vb1_5
        else
          rec ((((v26.1.1.1.1, v26.1.1.1.2.1, v26.1.1.1.2.2.1, v26.1.1.1.2.2.2.1, v26.1.1.1.2.2.2.2.1, v26.1.1.1.2.2.2.2.2.1, ()), ()), (())), v26.2.1, (((v26.2.2.1.1.1.1, v26.2.2.1.1.1.2.1, v26.2.2.1.1.1.2.2.1, v26.2.2.1.1.1.2.2.2.1, v26.2.2.1.1.1.2.2.2.2.1, v26.2.2.1.1.1.2.2.2.2.2.1, ()), ()), (())), v26.2.2.2.1, (((v26.2.2.2.2.1.1.1.1, v26.2.2.2.2.1.1.1.2.1, v26.2.2.2.2.1.1.1.2.2.1, v26.2.2.2.2.1.1.1.2.2.2.1, v26.2.2.2.2.1.1.1.2.2.2.2.1, v26.2.2.2.2.1.1.1.2.2.2.2.2.1, ()), ()), (())), v26.2.2.2.2.2.1, (((v26.2.2.2.2.2.2.1.1.1.1, v26.2.2.2.2.2.2.1.1.1.2.1, v26.2.2.2.2.2.2.1.1.1.2.2.1, v26.2.2.2.2.2.2.1.1.1.2.2.2.1, v26.2.2.2.2.2.2.1.1.1.2.2.2.2.1, v26.2.2.2.2.2.2.1.1.1.2.2.2.2.2.1, ()), ()), (())), v26.2.2.2.2.2.2.2.1, (((v26.2.2.2.2.2.2.2.2.1.1.1.1, v26.2.2.2.2.2.2.2.2.1.1.1.2.1, v26.2.2.2.2.2.2.2.2.1.1.1.2.2.1, v26.2.2.2.2.2.2.2.2.1.1.1.2.2.2.1, v26.2.2.2.2.2.2.2.2.1.1.1.2.2.2.2.1, v26.2.2.2.2.2.2.2.2.1.1.1.2.2.2.2.2.1, ()), ()), (())), v26.2.2.2.2.2.2.2.2.2.1, (((v26.2.2.2.2.2.2.2.2.2.2.1.1.1.1, v26.2.2.2.2.2.2.2.2.2.2.1.1.1.2.1, v26.2.2.2.2.2.2.2.2.2.2.1.1.1.2.2.1, v26.2.2.2.2.2.2.2.2.2.2.1.1.1.2.2.2.1, v26.2.2.2.2.2.2.2.2.2.2.1.1.1.2.2.2.2.1, v26.2.2.2.2.2.2.2.2.2.2.1.1.1.2.2.2.2.2.1, ()), ()), (())), v26.2.2.2.2.2.2.2.2.2.2.2.1, ()) (IntKind.wrap .i64 (v27 + (1 : Int))) vb0_0 vb0_1 vb0_2 vb0_3 vb0_4 vb0_5 vb1_0 vb1_1 vb1_2 vb1_3 vb1_4 vb1_5
    else
    bif v27 == (3 : Int) then
      (F.metric_look_rate n (v26.2.2.2.2.2.2.1.1.1.1, v26.2.2.2.2.2.2.1.1.1.2.1, v26.2.2.2.2.2.2.1.1.1.2.2.1, v26.2.2.2.2.2.2.1.1.1.2.2.2.1, v26.2.2.2.2.2.2.1.1.1.2.2.2.2.1, v26.2.2.2.2.2.2.1.1.1.2.2.2.2.2.1, ())).bind fun y4 =>
        bif !y4 then
          kr v26.2.2.2.2.2.2.2.1 vb0_0 vb0_1 vb0_2 vb0_3 vb0_4 vb0_5 vb1_0 vb1_1 vb1_2 vb1_3 vb1_4 vb1_5
        else
          rec ((((v26.1.1.1.1, v26.1.1.1.2.1, v26.1.1.1.2.2.1, v26.1.1.1.2.2.2.1, v26.1.1.1.2.2.2.2.1, v26.1.1.1.2.2.2.2.2.1, ()), ()), (())), v26.2.1, (((v26.2.2.1.1.1.1, v26.2.2.1.1.1.2.1, v26.2.2.1.1.1.2.2.1, v26.2.2.1.1.1.2.2.2.1, v26.2.2.1.1.1.2.2.2.2.1, v26.2.2.1.1.1.2.2.2.2.2.1, ()), ()), (())), v26.2.2.2.1, (((v26.2.2.2.2.1.1.1.1, v26.2.2.2.2.1.1.1.2.1, v26.2.2.2.2.1.1.1.2.2.1, v26.2.2.2.2.1.1.1.2.2.2.1, v26.2.2.2.2.1.1.1.2.2.2.2.1, v26.2.2.2.2.1.1.1.2.2.2.2.2.1, ()), ()), (())), v26.2.2.2.2.2.1, (((v26.2.2.2.2.2.2.1.1.1.1, v26.2.2.2.2.2.2.1.1.1.2.1, v26.2.2.2.2.2.2.1.1.1.2.2.1, v26.2.2.2.2.2.2.1.1.1.2.2.2.1, v26.2.2.2.2.2.2.1.1.1.2.2.2.2.1, v26.2.2.2.2.2.2.1.1.1.2.2.2.2.2.1, ()), ()), (())), v26.2.2.2.2.2.2.2.1, (((v26.2.2.2.2.2.2.2.2.1.1.1.1, v26.2.2.2.2.2.2.2.2.1.1.1.2.1, v26.2.2.2.2.2.2.2.2.1.1.1.2.2.1, v26.2.2.2.2.2.2.2.2.1.1.1.2.2.2.1, v26.2.2.2.2.2.2.2.2.1.1.1.2.2.2.2.1, v26.2.2.2.2.2.2.2.2.1.1.1.2.2.2.2.2.1, ()), ()), (())), v26.2.2.2.2.2.2.2.2.2.1, (((v26.2.2.2.2.2.2.2.2.2.2.1.1.1.1, v26.2.2.2.2.2.2.2.2.2.2.1.1.1.2.1, v26.2.2.2.2.2.2.2.2.2.2.1.1.1.2.2.1, v26.2.2.2.2.2.2.2.2.2.2.1.1.1.2.2.2.1, v26.2.2.2.2.2.2.2.2.2.2.1.1.1.2.2.2.2.1, v26.2.2.2.2.2.2.2.2.2.2.1.1.1.2.2.2.2.2.1, ()), ()), (())), v26.2.2.2.2.2.2.2.2.2.2.2.1, ()) (IntKind.wrap .i64 (v27 + (1 : Int))) vb0_0 vb0_1 vb0_2 vb0_3 vb0_4 vb0_5 vb1_0 vb1_1 vb1_2 vb1_3 vb1_4 vb1_5
    else
    bif v27 == (4 : Int) then
      (F.metric_look_tags n (v26.2.2.2.2.2.2.2.2.1.1.1.1, v26.2.2.2.2.2.2.2.2.1.1.1.2.1, v26.2.2.2.2.2.2.2.2.1.1.1.2.2.1, v26.2.2.2.2.2.2.2.2.1.1.1.2.2.2.1, v26.2.2.2.2.2.2.2.2.1.1.1.2.2.2.2.1, v26.2.2.2.2.2.2.2.2.1.1.1.2.2.2.2.2.1, ())).bind fun y5 =>
        bif !y5 then
          kr v26.2.2.2.2.2.2.2.2.2.1 vb0_0 vb0_1 vb0_2 vb0_3 vb0_4 vb0_5 vb1_0 vb1_1 vb1_2 vb1_3 vb1_4 vb1_5
        else
          rec ((((v26.1.1.1.1, v26.1.1.1.2.1, v26.1.1.1.2.2.1, v26.1.1.1.2.2.2.1, v26.1.1.1.2.2.2.2.1, v26.1.1.1.2.2.2.2.2.1, ()), ()), (())), v26.2.1, (((v26.2.2.1.1.1.1, v26.2.2.1.1.1.2.1, v26.2.2.1.1.1.2.2.1, v26.2.2.1.1.1.2.2.2.1, v26.2.2.1.1.1.2.2.2.2.1, v26.2.2.1.1.1.2.2.2.2.2.1, ()), ()), (())), v26.2.2.2.1, (((v26.2.2.2.2.1.1.1.1, v26.2.2.2.2.1.1.1.2.1, v26.2.2.2.2.1.1.1.2.2.1, v26.2.2.2.2.1.1.1.2.2.2.1, v26.2.2.2.2.1.1.1.2.2.2.2.1, v26.2.2.2.2.1.1.1.2.2.2.2.2.1, ()), ()), (())), v26.2.2.2.2.2.1, (((v26.2.2.2.2.2.2.1.1.1.1, v26.2.2.2.2.2.2.1.1.1.2.1, v26.2.2.2.2.2.2.1.1.1.2.2.1, v26.2.2.2.2.2.2.1.1.1.2.2.2.1, v26.2.2.2.2.2.2.1.1.1.2.2.2.2.1, v26.2.2.2.2.2.2.1.1.1.2.2.2.2.2.1, ()), ()), (())), v26.2.2.2.2.2.2.2.1, (((v26.2.2.2.2.2.2.2.2.1.1.1.1, v26.2.2.2.2.2.2.2.2.1.1.1.2.1, v26.2.2.2.2.2.2.2.2.1.1.1.2.2.1, v26.2.2.2.2.2.2.2.2.1.1.1.2.2.2.1, v26.2.2.2.2.2.2.2.2.1.1.1.2.2.2.2.1, v26.2.2.2.2.2.2.2.2.1.1.1.2.2.2.2.2.1, ()), ()), (())), v26.2.2.2.2.2.2.2.2.2.1, (((v26.2.2.2.2.2.2.2.2.2.2.1.1.1.1, v26.2.2.2.2.2.2.2.2.2.2.1.1.1.2.1, v26.2.2.2.2.2.2.2.2.2.2.1.1.1.2.2.1, v26.2.2.2.2.2.2.2.2.2.2.1.1.1.2.2.2.1, v26.2.2.2.2.2.2.2.2.2.2.1.1.1.2.2.2.2.1, v26.2.2.2.2.2.2.2.2.2.2.1.1.1.2.2.2.2.2.1, ()), ()), (())), v26.2.2.2.2.2.2.2.2.2.2.2.1, ()) (IntKind.wrap .i64 (v27 + (1 : Int))) vb0_0 vb0_1 vb0_2 vb0_3 vb0_4 vb0_5 vb1_0 vb1_1 vb1_2 vb1_3 vb1_4 vb1_5
    else
    bif v27 == (5 : Int) then
      (F.metric_look_time n (v26.2.2.2.2.2.2.2.2.2.2.1.1.1.1, v26.2.2.2.2.2.2.2.2.2.2.1.1.1.2.1, v26.2.2.2.2.2.2.2.2.2.2.1.1.1.2.2.1, v26.2.2.2.2.2.2.2.2.2.2.1.1.1.2.2.2.1, v26.2.2.2.2.2.2.2.2.2.2.1.1.1.2.2.2.2.1, v26.2.2.2.2.2.2.2.2.2.2.1.1.1.2.2.2.2.2.1, ())).bind fun y6 =>
        bif !y6 then
          kr v26.2.2.2.2.2.2.2.2.2.2.2.1 vb0_0 vb0_1 vb0_2 vb0_3 vb0_4 vb0_5 vb1_0 vb1_1 vb1_2 vb1_3 vb1_4 vb1_5
        else
          rec ((((v26.1.1.1.1, v26.1.1.1.2.1, v26.1.1.1.2.2.1, v26.1.1.1.2.2.2.1, v26.1.1.1.2.2.2.2.1, v26.1.1.1.2.2.2.2.2.1, ()), ()), (())), v26.2.1, (((v26.2.2.1.1.1.1, v26.2.2.1.1.1.2.1, v26.2.2.1.1.1.2.2.1, v26.2.2.1.1.1.2.2.2.1, v26.2.2.1.1.1.2.2.2.2.1, v26.2.2.1.1.1.2.2.2.2.2.1, ()), ()), (())), v26.2.2.2.1, (((v26.2.2.2.2.1.1.1.1, v26.2.2.2.2.1.1.1.2.1, v26.2.2.2.2.1.1.1.2.2.1, v26.2.2.2.2.1.1.1.2.2.2.1, v26.2.2.2.2.1.1.1.2.2.2.2.1, v26.2.2.2.2.1.1.1.2.2.2.2.2.1, ()), ()), (())), v26.2.2.2.2.2.1, (((v26.2.2.2.2.2.2.1.1.1.1, v26.2.2.2.2.2.2.1.1.1.2.1, v26.2.2.2.2.2.2.1.1.1.2.2.1, v26.2.2.2.2.2.2.1.1.1.2.2.2.1, v26.2.2.2.2.2.2.1.1.1.2.2.2.2.1, v26.2.2.2.2.2.2.1.1.1.2.2.2.2.2.1, ()), ()), (())), v26.2.2.2.2.2.2.2.1, (((v26.2.2.2.2.2.2.2.2.1.1.1.1, v26.2.2.2.2.2.2.2.2.1.1.1.2.1, v26.2.2.2.2.2.2.2.2.1.1.1.2.2.1, v26.2.2.2.2.2.2.2.2.1.1.1.2.2.2.1, v26.2.2.2.2.2.2.2.2.1.1.1.2.2.2.2.1, v26.2.2.2.2.2.2.2.2.1.1.1.2.2.2.2.2.1, ()), ()), (())), v26.2.2.2.2.2.2.2.2.2.1, (((v26.2.2.2.2.2.2.2.2.2.2.1.1.1.1, v26.2.2.2.2.2.2.2.2.2.2.1.1.1.2.1, v26.2.2.2.2.2.2.2.2.2.2.1.1.1.2.2.1, v26.2.2.2.2.2.2.2.2.2.2.1.1.1.2.2.2.1, v26.2.2.2.2.2.2.2.2.2.2.1.1.1.2.2.2.2.1, v26.2.2.2.2.2.2.2.2.2.2.1.1.1.2.2.2.2.2.1, ()), ()), (())), v26.2.2.2.2.2.2.2.2.2.2.2.1, ()) (IntKind.wrap .i64 (v27 + (1 : Int))) vb0_0 vb0_1 vb0_2 vb0_3 vb0_4 vb0_5 vb1_0 vb1_1 vb1_2 vb1_3 vb1_4 vb1_5
    else
      none
  else
    k0 vb0_0 vb0_1 vb0_2 vb0_3 vb0_4 vb0_5 vb1_0 vb1_1 vb1_2 vb1_3 vb1_4 vb1_5
noncomputable def F.metric_Check.L3 {X : Type} (n : Nat) (k0 : (List UInt8) → Int → (List ((Bool) × (Int) × (Int))) → Int → (List ((List UInt8) × (List UInt8))) → Int → (List UInt8) → Int → (List ((Bool) × (Int) × (Int))) → Int → (List ((List UInt8) × (List UInt8))) → Int → Option X) (kr : Int → (List UInt8) → Int → (List ((Bool) × (Int) × (Int))) → Int → (List ((List UInt8) × (List UInt8))) → Int → (List UInt8) → Int → (List ((Bool) × (Int) × (Int))) → Int → (List ((List UInt8) × (List UInt8))) → Int → Option X) : Nat → (((((List UInt8) × (Int) × (List ((Bool) × (Int) × (Int))) × (Int) × (List ((List UInt8) × (List UInt8))) × (Int) × Unit) × Unit) × (Unit)) × (Int) × ((((List UInt8) × (Int) × (List ((Bool) × (Int) × (Int))) × (Int) × (List ((List UInt8) × (List UInt8))) × (Int) × Unit) × Unit) × (Unit)) × (Int) × ((((List UInt8) × (Int) × (List ((Bool) × (Int) × (Int))) × (Int) × (List ((List UInt8) × (List UInt8))) × (Int) × Unit) × Unit) × (Unit)) × (Int) × ((((List UInt8) × (Int) × (List ((Bool) × (Int) × (Int))) × (Int) × (List ((List UInt8) × (List UInt8))) × (Int) × Unit) × Unit) × (Unit)) × (Int) × ((((List UInt8) × (Int) × (List ((Bool) × (Int) × (Int))) × (Int) × (List ((List UInt8) × (List UInt8))) × (Int) × Unit) × Unit) × (Unit)) × (Int) × ((((List UInt8) × (Int) × (List ((Bool) × (Int) × (Int))) × (Int) × (List ((List UInt8) × (List UInt8))) × (Int) × Unit) × Unit) × (Unit)) × (Int) × Unit) → Int → (List UInt8) → Int → (List ((Bool) × (Int) × (Int))) → Int → (List ((List UInt8) × (List UInt8))) → Int → (List UInt8) → Int → (List ((Bool) × (Int) × (Int))) → Int → (List ((List UInt8) × (List UInt8))) → Int → Option X
  | 0 => fun _ _ _ _ _ _ _ _ _ _ _ _ _ _ => none
  | m + 1 => fun v26 v27 vb0_0 vb0_1 vb0_2 vb0_3 vb0_4 vb0_5 vb1_0 vb1_1 vb1_2 vb1_3 vb1_4 vb1_5 => F.metric_Check.L3.step n (F.metric_Check.L3 n k0 kr m) k0 kr v26 v27 vb0_0 vb0_1 vb0_2 vb0_3 vb0_4 vb0_5 vb1_0 vb1_1 vb1_2 vb1_3 vb1_4 vb1_5
noncomputable def F.metric_Check (n : Nat) (a0 : (List UInt8) × (Int) × (List ((Bool) × (Int) × (Int))) × (Int) × (List ((List UInt8) × (List UInt8))) × (Int) × Unit) : Option (Int) :=
  F.metric_Check.L3 n
    (fun e7_b0_0 e7_b0_1 e7_b0_2 e7_b0_3 e7_b0_4 e7_b0_5 e7_b1_0 e7_b1_1 e7_b1_2 e7_b1_3 e7_b1_4 e7_b1_5 =>
      some ((0 : Int)))
    (fun e8_2 e8_b0_0 e8_b0_1 e8_b0_2 e8_b0_3 e8_b0_4 e8_b0_5 e8_b1_0 e8_b1_1 e8_b1_2 e8_b1_3 e8_b1_4 e8_b1_5 =>
      some (e8_2)) n ((((a0.1, a0.2.1, a0.2.2.1, a0.2.2.2.1, a0.2.2.2.2.1, a0.2.2.2.2.2.1, ()), ()), (())), (15 : Int), (((a0.1, a0.2.1, a0.2.2.1, a0.2.2.2.1, a0.2.2.2.2.1, a0.2.2.2.2.2.1, ()), ()), (())), (16 : Int), (((a0.1, a0.2.1, a0.2.2.1, a0.2.2.2.1, a0.2.2.2.2.1, a0.2.2.2.2.2.1, ()), ()), (())), (17 : Int), (((a0.1, a0.2.1, a0.2.2.1, a0.2.2.2.1, a0.2.2.2.2.1, a0.2.2.2.2.2.1, ()), ()), (())), (18 : Int), (((a0.1, a0.2.1, a0.2.2.1, a0.2.2.2.1, a0.2.2.2.2.1, a0.2.2.2.2.2.1, ()), ()), (())), (19 : Int), (((a0.1, a0.2.1, a0.2.2.1, a0.2.2.2.1, a0.2.2.2.2.1, a0.2.2.2.2.2.1, ()), ()), (())), (20 : Int), ()) (0 : Int) a0.1 a0.2.1 a0.2.2.1 a0.2.2.2.1 a0.2.2.2.2.1 a0.2.2.2.2.2.1 a0.1 a0.2.1 a0.2.2.1 a0.2.2.2.1 a0.2.2.2.2.1 a0.2.2.2.2.2.1
noncomputable def F.expr_said_bare (n : Nat) (a0 : (List UInt8) × (Int) × (List ((Bool) × (Int) × (Int))) × (Int) × (List ((List UInt8) × (List UInt8))) × (Int) × Unit) : Option (Bool) :=
  bif (a0.2.2.1.length : Int) == (1 : Int) then
    some ((a0.2.2.2.2.1.length : Int) == (0 : Int))
  else
    some (false)
noncomputable def F.expr_said_statsd (n : Nat) (a0 : (List UInt8) × (Int) × (List ((Bool) × (Int) × (Int))) × (Int) × (List ((List UInt8) × (List UInt8))) × (Int) × Unit) : Option (Bool) :=
  (F.expr_said_bare n (a0.1, a0.2.1, a0.2.2.1, a0.2.2.2.1, a0.2.2.2.2.1, a0.2.2.2.2.2.1, ())).bind fun y1 =>
    bif !y1 then
      some (false)
    else
    bif !(a0.2.2.2.2.2.1 == (0 : Int)) then
      some (false)
    else
    bif a0.2.1 == (5 : Int) then
      some (false)
    else
    bif !(a0.2.1 == (2 : Int)) then
      some (true)
    else
      (idx a0.2.2.1 (0 : Int)).bind fun x2 =>
        some (!x2.1)
noncomputable def F.expr_said_any (n : Nat) (a0 : (List UInt8) × (Int) × (List ((Bool) × (Int) × (Int))) × (Int) × (List ((List UInt8) × (List UInt8))) × (Int) × Unit) : Option (Bool) :=
  some (true)
noncomputable def F.expr_said_graphite (n : Nat) (a0 : (List UInt8) × (Int) × (List ((Bool) × (Int) × (Int))) × (Int) × (List ((List UInt8) × (List UInt8))) × (Int) × Unit) : Option (Bool) :=
  (F.expr_said_bare n (a0.1, a0.2.1, a0.2.2.1, a0.2.2.2.1, a0.2.2.2.2.1, a0.2.2.2.2.2.1, ())).bind fun y1 =>
    bif y1 then
      bif !(a0.2.2.2.2.2.1 == (0 : Int)) then
        some (a0.2.1 == (2 : Int))
      else
        some (false)
    else
      some (false)
noncomputable def F.expr_Metric (n : Nat) (a0 : (List UInt8) × (Int) × (List ((Bool) × (Int) × (Int))) × (Int) × (List ((List UInt8) × (List UInt8))) × (Int) × Unit) (a1 : Int) : Option (Int) :=
  bif a1 == 1 || (a1 == 2 || (a1 == 3 || a1 == 4)) then
    (F.metric_Check n a0).bind fun y1 =>
      bif !(y1 == 0) then some y1 else
        (if a1 = 1 then F.expr_said_statsd n a0 else if a1 = 3 then F.expr_said_graphite n a0 else F.expr_said_any n a0).bind fun y2 => bif y2 then some 0 else some 26
  else some 29
noncomputable def F.dec_Text (n : Nat) (a0 : (Bool) × (Int) × (Int) × Unit) : Option ((List UInt8) × (Int) × Unit) :=
  (F.dec_Check n (a0.1, a0.2.1, a0.2.2.1, ())).bind fun y1 =>
    bif !(y1 == (0 : Int)) then
      some (([], y1, ()))
    else
      (O.futoa n a0.2.1 (10 : Int)).bind fun y2 =>
        bif decide (a0.2.2.1 ≥ (0 : Int)) then
          (O.repeat' n ([48]) a0.2.2.1).bind fun y3 =>
            bif decide (y2.length + y3.length ≤ strMax) then
              bif a0.1 then
                bif decide (1 + ((y2 ++ y3).length) ≤ strMax) then
                  some ((([45]) ++ (y2 ++ y3), (0 : Int), ()))
                else
                  none
              else
                some ((y2 ++ y3, (0 : Int), ()))
            else
              none
        else
          (O.repeat' n ([48]) (if (IntKind.wrap .i64 ((IntKind.wrap .i64 ((1 : Int) - a0.2.2.1)) - (y2.length : Int))) > (0 : Int) then (IntKind.wrap .i64 ((IntKind.wrap .i64 ((1 : Int) - a0.2.2.1)) - (y2.length : Int))) else (0 : Int))).bind fun y4 =>
            bif decide (y4.length + y2.length ≤ strMax) then
              (sub (y4 ++ y2) (0 : Int) (IntKind.wrap .i64 (((y4 ++ y2).length : Int) + a0.2.2.1))).bind fun x5 =>
                bif decide (x5.length + 1 ≤ strMax) then
                  (sub (y4 ++ y2) (IntKind.wrap .i64 (((y4 ++ y2).length : Int) + a0.2.2.1)) ((y4 ++ y2).length : Int)).bind fun x6 =>
                    bif decide (((x5 ++ ([46])).length) + x6.length ≤ strMax) then
                      bif a0.1 then
                        bif decide (1 + (((x5 ++ ([46])) ++ x6).length) ≤ strMax) then
                          some ((([45]) ++ ((x5 ++ ([46])) ++ x6), (0 : Int), ()))
                        else
                          none
                      else
                        some (((x5 ++ ([46])) ++ x6, (0 : Int), ()))
                    else
                      none
                else
                  none
            else
              none
noncomputable def F.num_Text (n : Nat) (a0 : Int) : Option ((List UInt8) × (Int) × Unit) :=
  bif decide (a0 < (0 : Int)) then
    some (([], (10 : Int), ()))
  else
    (O.itoa n a0).bind fun y1 =>
      some ((y1, (0 : Int), ()))
noncomputable def F.graphite_Line (n : Nat) (a0 : (List UInt8) × (Int) × (List ((Bool) × (Int) × (Int))) × (Int) × (List ((List UInt8) × (List UInt8))) × (Int) × Unit) : Option ((List UInt8) × (Int) × Unit) :=
  (F.expr_Metric n (a0.1, a0.2.1, a0.2.2.1, a0.2.2.2.1, a0.2.2.2.2.1, a0.2.2.2.2.2.1, ()) (3 : Int)).bind fun y1 =>
    bif !(y1 == (0 : Int)) then
      some (([], y1, ()))
    else
      (idx a0.2.2.1 (0 : Int)).bind fun x2 =>
        (F.dec_Text n (x2.1, x2.2.1, x2.2.2, ())).bind fun y3 =>
          bif !(y3.2.1 == (0 : Int)) then
            some (([], y3.2.1, ()))
          else
            (F.num_Text n a0.2.2.2.2.2.1).bind fun y4 =>
              bif !(y4.2.1 == (0 : Int)) then
                some (([], y4.2.1, ()))
              else
              bif decide (a0.1.length + 1 ≤ strMax) then
                bif decide (((a0.1 ++ ([32])).length) + y3.1.length ≤ strMax) then
                  bif decide ((((a0.1 ++ ([32])) ++ y3.1).length) + 1 ≤ strMax) then
                    bif decide (((((a0.1 ++ ([32])) ++ y3.1) ++ ([32])).length) + y4.1.length ≤ strMax) then
                      some (((((a0.1 ++ ([32])) ++ y3.1) ++ ([32])) ++ y4.1, (0 : Int), ()))
                    else
                      none
                  else
                    none
                else
                  none
              else
                none
noncomputable def F.stringslite_HasPrefix (n : Nat) (a0 : List UInt8) (a1 : List UInt8) : Option (Bool) :=
  bif decide ((a0.length : Int) ≥ (a1.length : Int)) then
    (sub a0 (0 : Int) (a1.length : Int)).bind fun x1 =>
      some (x1 == a1)
  else
    some (false)
noncomputable def F.strings_HasPrefix (n : Nat) (a0 : List UInt8) (a1 : List UInt8) : Option (Bool) :=
  (F.stringslite_HasPrefix n a0 a1).bind fun y1 =>
    some (y1)
noncomputable def F.dec_look.L2_dec_look_1.step {X : Type} (n : Nat) (rec : Int → (List UInt8) → Int → Int → Int → Option X) (k0 : Int → (List UInt8) → Int → Int → Int → Option X) (v3 : Int) (vb0_0 : List UInt8) (vb1_0 : Int) (vb1_1 : Int) (vb2_0 : Int) : Option X :=
  bif decide (vb2_0 < (vb0_0.length : Int)) then
    (idx vb0_0 vb2_0).bind fun x2 =>
      bif decide (((x2).toNat) ≥ (48 : Int)) then
        (idx vb0_0 vb2_0).bind fun x3 =>
          bif decide (((x3).toNat) ≤ (57 : Int)) then
            rec v3 vb0_0 vb1_0 vb1_1 (IntKind.wrap .i64 (vb2_0 + (1 : Int)))
          else
            k0 v3 vb0_0 vb1_0 vb1_1 vb2_0
      else
        k0 v3 vb0_0 vb1_0 vb1_1 vb2_0
  else
    k0 v3 vb0_0 vb1_0 vb1_1 vb2_0
noncomputable def F.dec_look.L2_dec_look_1 {X : Type} (n : Nat) (k0 : Int → (List UInt8) → Int → Int → Int → Option X) : Nat → Int → (List UInt8) → Int → Int → Int → Option X
  | 0 => fun _ _ _ _ _ => none
  | m + 1 => fun v3 vb0_0 vb1_0 vb1_1 vb2_0 => F.dec_look.L2_dec_look_1.step n (F.dec_look.L2_dec_look_1 n k0 m) k0 v3 vb0_0 vb1_0 vb1_1 vb2_0
noncomputable def F.dec_look (n : Nat) (a0 : List UInt8) : Option ((Int) × (Int) × Unit) :=
  (F.strings_HasPrefix n a0 ([45])).bind fun y1 =>
    bif y1 then
      F.dec_look.L2_dec_look_1 n
        (fun e4_3 e4_b0_0 e4_b1_0 e4_b1_1 e4_b2_0 =>
          bif decide (e4_b2_0 > e4_3) then
            (sub e4_b0_0 e4_b2_0 (e4_b0_0.length : Int)).bind fun x5 =>
              (F.strings_HasPrefix n x5 ([46])).bind fun y6 =>
                bif y6 then
                  F.dec_look.L2_dec_look_1 n
                    (fun e7_3 e7_b0_0 e7_b1_0 e7_b1_1 e7_b2_0 =>
                      bif decide (e7_b2_0 > e7_3) then
                        bif e7_b2_0 == (e7_b0_0.length : Int) then
                          some (((0 : Int), (0 : Int), ()))
                        else
                        bif e7_b2_0 == (e7_b0_0.length : Int) then
                          some (((11 : Int), e7_b2_0, ()))
                        else
                          some (((14 : Int), e7_b2_0, ()))
                      else
                      bif e7_b2_0 == (e7_b0_0.length : Int) then
                        some (((11 : Int), e7_b2_0, ()))
                      else
                        some (((14 : Int), e7_b2_0, ()))) n (IntKind.wrap .i64 (e4_b2_0 + (1 : Int))) e4_b0_0 e4_b1_0 e4_b1_1 (IntKind.wrap .i64 (e4_b2_0 + (1 : Int)))
                else
                bif decide (e4_b2_0 > e4_3) then
                  bif e4_b2_0 == (e4_b0_0.length : Int) then
                    some (((0 : Int), (0 : Int), ()))
                  else
                  bif e4_b2_0 == (e4_b0_0.length : Int) then
                    some (((11 : Int), e4_b2_0, ()))
                  else
                    some (((14 : Int), e4_b2_0, ()))
                else
                bif e4_b2_0 == (e4_b0_0.length : Int) then
                  some (((11 : Int), e4_b2_0, ()))
                else
                  some (((14 : Int), e4_b2_0, ()))
          else
          bif decide (e4_b2_0 > e4_3) then
            bif e4_b2_0 == (e4_b0_0.length : Int) then
              some (((0 : Int), (0 : Int), ()))
            else
            bif e4_b2_0 == (e4_b0_0.length : Int) then
              some (((11 : Int), e4_b2_0, ()))
            else
              some (((14 : Int), e4_b2_0, ()))
          else
          bif e4_b2_0 == (e4_b0_0.length : Int) then
            some (((11 : Int), e4_b2_0, ()))
          else
            some (((14 : Int), e4_b2_0, ()))) n (1 : Int) a0 (0 : Int) (0 : Int) (1 : Int)
    else
      F.dec_look.L2_dec_look_1 n
        (fun e8_3 e8_b0_0 e8_b1_0 e8_b1_1 e8_b2_0 =>
          bif decide (e8_b2_0 > e8_3) then
            (sub e8_b0_0 e8_b2_0 (e8_b0_0.length : Int)).bind fun x9 =>
              (F.strings_HasPrefix n x9 ([46])).bind fun y10 =>
                bif y10 then
                  F.dec_look.L2_dec_look_1 n
                    (fun e11_3 e11_b0_0 e11_b1_0 e11_b1_1 e11_b2_0 =>
                      bif decide (e11_b2_0 > e11_3) then
                        bif e11_b2_0 == (e11_b0_0.length : Int) then
                          some (((0 : Int), (0 : Int), ()))
                        else
                        bif e11_b2_0 == (e11_b0_0.length : Int) then
                          some (((11 : Int), e11_b2_0, ()))
                        else
                          some (((14 : Int), e11_b2_0, ()))
                      else
                      bif e11_b2_0 == (e11_b0_0.length : Int) then
                        some (((11 : Int), e11_b2_0, ()))
                      else
                        some (((14 : Int), e11_b2_0, ()))) n (IntKind.wrap .i64 (e8_b2_0 + (1 : Int))) e8_b0_0 e8_b1_0 e8_b1_1 (IntKind.wrap .i64 (e8_b2_0 + (1 : Int)))
                else
                bif decide (e8_b2_0 > e8_3) then
                  bif e8_b2_0 == (e8_b0_0.length : Int) then
                    some (((0 : Int), (0 : Int), ()))
                  else
                  bif e8_b2_0 == (e8_b0_0.length : Int) then
                    some (((11 : Int), e8_b2_0, ()))
                  else
                    some (((14 : Int), e8_b2_0, ()))
                else
                bif e8_b2_0 == (e8_b0_0.length : Int) then
                  some (((11 : Int), e8_b2_0, ()))
                else
                  some (((14 : Int), e8_b2_0, ()))
          else
          bif decide (e8_b2_0 > e8_3) then
            bif e8_b2_0 == (e8_b0_0.length : Int) then
              some (((0 : Int), (0 : Int), ()))
            else
            bif e8_b2_0 == (e8_b0_0.length : Int) then
              some (((11 : Int), e8_b2_0, ()))
            else
              some (((14 : Int), e8_b2_0, ()))
          else
          bif e8_b2_0 == (e8_b0_0.length : Int) then
            some (((11 : Int), e8_b2_0, ()))
          else
            some (((14 : Int), e8_b2_0, ()))) n (0 : Int) a0 (0 : Int) (0 : Int) (0 : Int)
noncomputable def F.stringslite_CutPrefix (n : Nat) (a0 : List UInt8) (a1 : List UInt8) : Option ((List UInt8) × (Bool) × Unit) :=
  (F.stringslite_HasPrefix n a0 a1).bind fun y1 =>
    bif !y1 then
      some ((a0, false, ()))
    else
      (sub a0 (a1.length : Int) (a0.length : Int)).bind fun x2 =>
        some ((x2, true, ()))
noncomputable def F.strings_CutPrefix (n : Nat) (a0 : List UInt8) (a1 : List UInt8) : Option ((List UInt8) × (Bool) × Unit) :=
  (F.stringslite_CutPrefix n a0 a1).bind fun y1 =>
    some ((y1.1, y1.2.1, ()))
noncomputable def F.stringslite_Cut (n : Nat) (a0 : List UInt8) (a1 : List UInt8) : Option ((List UInt8) × (List UInt8) × (Bool) × Unit) :=
  (O.index1 n a0 a1).bind fun y1 =>
    bif decide (y1 ≥ (0 : Int)) then
      (sub a0 (0 : Int) y1).bind fun x2 =>
        (sub a0 (IntKind.wrap .i64 (y1 + (a1.length : Int))) (a0.length : Int)).bind fun x3 =>
          some ((x2, x3, true, ()))
    else
      some ((a0, [], false, ()))
noncomputable def F.strings_Cut (n : Nat) (a0 : List UInt8) (a1 : List UInt8) : Option ((List UInt8) × (List UInt8) × (Bool) × Unit) :=
  (F.stringslite_Cut n a0 a1).bind fun y1 =>
    some ((y1.1, y1.2.1, y1.2.2.1, ()))
noncomputable def F.dec_Parse.L14.step {X : Type} (n : Nat) (rec : (List UInt8) → Int → Int → Bool → Int → Int → Int → Int → Int → Int → Bool → Int → Int → Option X) (k0 : Bool → Int → Int → Int → Int → Int → Int → Bool → Int → Int → Option X) (v10 : List UInt8) (v66 : Int) (v67 : Int) (vb0_0 : Bool) (vb0_1 : Int) (vb0_2 : Int) (vb1_0 : Int) (vb1_1 : Int) (vb2_0 : Int) (vb2_1 : Int) (vb3_0 : Bool) (vb3_1 : Int) (vb3_2 : Int) : Option X :=
  bif decide (v67 < v66) then
    (idx v10 v67).bind fun x7 =>
      (F.dec_times n vb3_1 (IntKind.wrap .u64 (IntKind.wrap .u8 (((x7).toNat) - (48 : Int))))).bind fun y8 =>
        bif !y8.2.1 then
          k0 vb0_0 vb0_1 vb0_2 vb1_0 vb1_1 vb2_0 vb2_1 vb3_0 (1 : Int) (-19 : Int)
        else
          rec v10 v66 (IntKind.wrap .i64 (v67 + (1 : Int))) vb0_0 vb0_1 vb0_2 vb1_0 vb1_1 vb2_0 vb2_1 vb3_0 y8.1 vb3_2
  else
    k0 vb0_0 vb0_1 vb0_2 vb1_0 vb1_1 vb2_0 vb2_1 vb3_0 vb3_1 vb3_2
noncomputable def F.dec_Parse.L14 {X : Type} (n : Nat) (k0 : Bool → Int → Int → Int → Int → Int → Int → Bool → Int → Int → Option X) : Nat → (List UInt8) → Int → Int → Bool → Int → Int → Int → Int → Int → Int → Bool → Int → Int → Option X
  | 0 => fun _ _ _ _ _ _ _ _ _ _ _ _ _ => none
  | m + 1 => fun v10 v66 v67 vb0_0 vb0_1 vb0_2 vb1_0 vb1_1 vb2_0 vb2_1 vb3_0 vb3_1 vb3_2 => F.dec_Parse.L14.step n (F.dec_Parse.L14 n k0 m) k0 v10 v66 v67 vb0_0 vb0_1 vb0_2 vb1_0 vb1_1 vb2_0 vb2_1 vb3_0 vb3_1 vb3_2
noncomputable def F.dec_Parse (n : Nat) (a0 : List UInt8) : Option (((Bool) × (Int) × (Int) × Unit) × ((Int) × (Int) × Unit) × Unit) :=
  (F.dec_look n a0).bind fun y1 =>
    bif !((y1.1 == (0 : Int)) && (y1.2.1 == (0 : Int))) then
      some (((false, (0 : Int), (0 : Int), ()), (y1.1, y1.2.1, ()), ()))
    else
      (F.strings_CutPrefix n a0 ([45])).bind fun y2 =>
        (F.strings_Cut n y2.1 ([46])).bind fun y3 =>
          (O.trimR n y3.2.1 ([48])).bind fun y4 =>
            bif decide (y3.1.length + y4.length ≤ strMax) then
              (O.trimL n (y3.1 ++ y4) ([48])).bind fun y5 =>
                (O.trimR n y5 ([48])).bind fun y6 =>
                  bif (IntKind.wrap .i64 (0 - (y4.length : Int))) == (0 : Int) then
                    bif decide ((y6.length : Int) < (y5.length : Int)) then
                      F.dec_Parse.L14 n
                        (fun e9_b0_0 e9_b0_1 e9_b0_2 e9_b1_0 e9_b1_1 e9_b2_0 e9_b2_1 e9_b3_0 e9_b3_1 e9_b3_2 =>
                          (F.dec_Normal n (e9_b3_0, e9_b3_1, e9_b3_2, ())).bind fun y10 =>
                            bif !(y10.2.1 == (0 : Int)) then
                              some (((false, (0 : Int), (0 : Int), ()), (y10.2.1, (0 : Int), ()), ()))
                            else
                              some (((y10.1.1, y10.1.2.1, y10.1.2.2.1, ()), ((0 : Int), (0 : Int), ()), ()))) n y6 (y6.length : Int) (0 : Int) false (0 : Int) (0 : Int) (0 : Int) (0 : Int) y1.1 y1.2.1 y2.2.1 (0 : Int) (IntKind.wrap .i64 ((y5.length : Int) - (y6.length : Int)))
                    else
                      F.dec_Parse.L14 n
                        (fun e11_b0_0 e11_b0_1 e11_b0_2 e11_b1_0 e11_b1_1 e11_b2_0 e11_b2_1 e11_b3_0 e11_b3_1 e11_b3_2 =>
                          (F.dec_Normal n (e11_b3_0, e11_b3_1, e11_b3_2, ())).bind fun y12 =>
                            bif !(y12.2.1 == (0 : Int)) then
                              some (((false, (0 : Int), (0 : Int), ()), (y12.2.1, (0 : Int), ()), ()))
                            else
                              some (((y12.1.1, y12.1.2.1, y12.1.2.2.1, ()), ((0 : Int), (0 : Int), ()), ()))) n y5 (y5.length : Int) (0 : Int) false (0 : Int) (0 : Int) (0 : Int) (0 : Int) y1.1 y1.2.1 y2.2.1 (0 : Int) (IntKind.wrap .i64 (0 - (y4.length : Int)))
                  else
                    F.dec_Parse.L14 n
                      (fun e13_b0_0 e13_b0_1 e13_b0_2 e13_b1_0 e13_b1_1 e13_b2_0 e13_b2_1 e13_b3_0 e13_b3_1 e13_b3_2 =>
                        (F.dec_Normal n (e13_b3_0, e13_b3_1, e13_b3_2, ())).bind fun y14 =>
                          bif !(y14.2.1 == (0 : Int)) then
                            some (((false, (0 : Int), (0 : Int), ()), (y14.2.1, (0 : Int), ()), ()))
                          else
                            some (((y14.1.1, y14.1.2.1, y14.1.2.2.1, ()), ((0 : Int), (0 : Int), ()), ()))) n y5 (y5.length : Int) (0 : Int) false (0 : Int) (0 : Int) (0 : Int) (0 : Int) y1.1 y1.2.1 y2.2.1 (0 : Int) (IntKind.wrap .i64 (0 - (y4.length : Int)))
            else
              none
noncomputable def F.num_fault (n : Nat) (a0 : Int) (a1 : Int) : Option ((Int) × ((Int) × (Int) × Unit) × Unit) :=
  some (((0 : Int), (a0, a1, ()), ()))
noncomputable def F.num_Parse (n : Nat) (a0 : List UInt8) (a1 : Int) (a2 : Int) : Option ((Int) × ((Int) × (Int) × Unit) × Unit) :=
  (F.class_Text n (4 : Int) a0 (1 : Int) (IntKind.wrap .i64 ((a0.length : Int) + (1 : Int)))).bind fun y1 =>
    bif !((y1.1 == (0 : Int)) && (y1.2.1 == (0 : Int))) then
      (F.num_fault n y1.1 y1.2.1).bind fun y2 =>
        some ((y2.1, (y2.2.1.1, y2.2.1.2.1, ()), ()))
    else
      (idx a0 (0 : Int)).bind fun x3 =>
        bif ((x3).toNat) == (48 : Int) then
          bif decide ((a0.length : Int) > (1 : Int)) then
            (F.num_fault n (11 : Int) (0 : Int)).bind fun y4 =>
              some ((y4.1, (y4.2.1.1, y4.2.1.2.1, ()), ()))
          else
            (O.atoi n a0).bind fun y5 =>
              bif y5.2.1 then
                (F.num_fault n (10 : Int) (0 : Int)).bind fun y6 =>
                  some ((y6.1, (y6.2.1.1, y6.2.1.2.1, ()), ()))
              else
              bif decide (y5.1 < a1) then
                (F.num_fault n (10 : Int) (0 : Int)).bind fun y7 =>
                  some ((y7.1, (y7.2.1.1, y7.2.1.2.1, ()), ()))
              else
              bif decide (y5.1 > a2) then
                (F.num_fault n (10 : Int) (0 : Int)).bind fun y8 =>
                  some ((y8.1, (y8.2.1.1, y8.2.1.2.1, ()), ()))
              else
                some ((y5.1, ((0 : Int), (0 : Int), ()), ()))
        else
          (O.atoi n a0).bind fun y9 =>
            bif y9.2.1 then
              (F.num_fault n (10 : Int) (0 : Int)).bind fun y10 =>
                some ((y10.1, (y10.2.1.1, y10.2.1.2.1, ()), ()))
            else
            bif decide (y9.1 < a1) then
              (F.num_fault n (10 : Int) (0 : Int)).bind fun y11 =>
                some ((y11.1, (y11.2.1.1, y11.2.1.2.1, ()), ()))
            else
            bif decide (y9.1 > a2) then
              (F.num_fault n (10 : Int) (0 : Int)).bind fun y12 =>
                some ((y12.1, (y12.2.1.1, y12.2.1.2.1, ()), ()))
            else
              some ((y9.1, ((0 : Int), (0 : Int), ()), ()))
noncomputable def F.num_Time (n : Nat) (a0 : List UInt8) : Option ((Int) × ((Int) × (Int) × Unit) × Unit) :=
  (F.num_Parse n a0 (1 : Int) (1099511627776 : Int)).bind fun y1 =>
    some ((y1.1, (y1.2.1.1, y1.2.1.2.1, ()), ()))
noncomputable def F.graphite_Parse.L2_graphite_cut_1.step {X : Type} (n : Nat) (rec : Int → Int → Bool → (List UInt8) → Int → (List ((Bool) × (Int) × (Int))) → Int → (List ((List UInt8) × (List UInt8))) → Int → Int → Int → (List UInt8) → Int → (List ((Bool) × (Int) × (Int))) → Int → (List ((List UInt8) × (List UInt8))) → Int → Int → Int → (List UInt8) → Nat → Nat → Nat → Nat → Option X) (k0 : (List UInt8) → Int → (List ((Bool) × (Int) × (Int))) → Int → (List ((List UInt8) × (List UInt8))) → Int → Int → Int → (List UInt8) → Int → (List ((Bool) × (Int) × (Int))) → Int → (List ((List UInt8) × (List UInt8))) → Int → Int → Int → (List UInt8) → Nat → Nat → Nat → Nat → Option X) (kr : (List UInt8) → Int → (List ((Bool) × (Int) × (Int))) → Int → (List ((List UInt8) × (List UInt8))) → Int → Int → Int → (List UInt8) → Int → (List ((Bool) × (Int) × (Int))) → Int → (List ((List UInt8) × (List UInt8))) → Int → Int → Int → (List UInt8) → Nat → Nat → Nat → Nat → Option X) (v3 : Int) (v4 : Int) (v5 : Bool) (vb0_0 : List UInt8) (vb0_1 : Int) (vb0_2 : List ((Bool) × (Int) × (Int))) (vb0_3 : Int) (vb0_4 : List ((List UInt8) × (List UInt8))) (vb0_5 : Int) (vb1_0 : Int) (vb1_1 : Int) (vb2_0 : List UInt8) (vb2_1 : Int) (vb2_2 : List ((Bool) × (Int) × (Int))) (vb2_3 : Int) (vb2_4 : List ((List UInt8) × (List UInt8))) (vb2_5 : Int) (vb3_0 : Int) (vb3_1 : Int) (vb4_0 : List UInt8) (vk0 : Nat) (vk1 : Nat) (vk2 : Nat) (vk3 : Nat) : Option X :=
  bif v5 then
    (sub vb4_0 v3 (vb4_0.length : Int)).bind fun x1 =>
      (F.strings_Cut n x1 ([32])).bind fun y2 =>
        bif v4 == (0 : Int) then
          (F.class_Text n (1 : Int) y2.1 (1 : Int) (200 : Int)).bind fun y3 =>
            bif !((y3.1 == (0 : Int)) && (y3.2.1 == (0 : Int))) then
              kr vb0_0 vb0_1 vb0_2 vb0_3 vb0_4 vb0_5 vb1_0 vb1_1 y2.1 vb2_1 vb2_2 vb2_3 vb2_4 vb2_5 (15 : Int) v3 vb4_0 vk0 vk1 vk2 vk3
            else
            bif !(y2.2.2.1 == (decide (v4 < (2 : Int)))) then
              kr vb0_0 vb0_1 vb0_2 vb0_3 vb0_4 vb0_5 vb1_0 vb1_1 y2.1 vb2_1 vb2_2 vb2_3 vb2_4 vb2_5 (11 : Int) (IntKind.wrap .i64 (v3 + (y2.1.length : Int))) vb4_0 vk0 vk1 vk2 vk3
            else
              rec (IntKind.wrap .i64 (v3 + (IntKind.wrap .i64 ((y2.1.length : Int) + (1 : Int))))) (IntKind.wrap .i64 (v4 + (1 : Int))) y2.2.2.1 vb0_0 vb0_1 vb0_2 vb0_3 vb0_4 vb0_5 vb1_0 vb1_1 y2.1 vb2_1 vb2_2 vb2_3 vb2_4 vb2_5 vb3_0 vb3_1 vb4_0 vk0 vk1 vk2 vk3
        else
        bif v4 == (1 : Int) then
          (F.dec_Parse n y2.1).bind fun y4 =>
            bif !((y4.2.1.1 == (0 : Int)) && (y4.2.1.2.1 == (0 : Int))) then
              kr vb0_0 vb0_1 vb0_2 vb0_3 vb0_4 vb0_5 vb1_0 vb1_1 vb2_0 vb2_1 vb2_2 vb2_3 vb2_4 vb2_5 (17 : Int) v3 vb4_0 vk0 vk1 vk2 vk3
            else
            bif !(y2.2.2.1 == (decide (v4 < (2 : Int)))) then
              kr vb0_0 vb0_1 vb0_2 vb0_3 vb0_4 vb0_5 vb1_0 vb1_1 vb2_0 vb2_1 ([(y4.1.1, y4.1.2.1, y4.1.2.2.1)]) vb2_3 vb2_4 vb2_5 (11 : Int) (IntKind.wrap .i64 (v3 + (y2.1.length : Int))) vb4_0 vk0 vk1 1 vk3
            else
              rec (IntKind.wrap .i64 (v3 + (IntKind.wrap .i64 ((y2.1.length : Int) + (1 : Int))))) (IntKind.wrap .i64 (v4 + (1 : Int))) y2.2.2.1 vb0_0 vb0_1 vb0_2 vb0_3 vb0_4 vb0_5 vb1_0 vb1_1 vb2_0 vb2_1 ([(y4.1.1, y4.1.2.1, y4.1.2.2.1)]) vb2_3 vb2_4 vb2_5 vb3_0 vb3_1 vb4_0 vk0 vk1 1 vk3
        else
          (F.num_Time n y2.1).bind fun y5 =>
            bif !((y5.2.1.1 == (0 : Int)) && (y5.2.1.2.1 == (0 : Int))) then
              kr vb0_0 vb0_1 vb0_2 vb0_3 vb0_4 vb0_5 vb1_0 vb1_1 vb2_0 vb2_1 vb2_2 vb2_3 vb2_4 vb2_5 (20 : Int) v3 vb4_0 vk0 vk1 vk2 vk3
            else
            bif !(y2.2.2.1 == (decide (v4 < (2 : Int)))) then
              kr vb0_0 vb0_1 vb0_2 vb0_3 vb0_4 vb0_5 vb1_0 vb1_1 vb2_0 vb2_1 vb2_2 vb2_3 vb2_4 y5.1 (11 : Int) (IntKind.wrap .i64 (v3 + (y2.1.length : Int))) vb4_0 vk0 vk1 vk2 vk3
            else
              rec (IntKind.wrap .i64 (v3 + (IntKind.wrap .i64 ((y2.1.length : Int) + (1 : Int))))) (IntKind.wrap .i64 (v4 + (1 : Int))) y2.2.2.1 vb0_0 vb0_1 vb0_2 vb0_3 vb0_4 vb0_5 vb1_0 vb1_1 vb2_0 vb2_1 vb2_2 vb2_3 vb2_4 y5.1 vb3_0 vb3_1 vb4_0 vk0 vk1 vk2 vk3
  else
    k0 vb0_0 vb0_1 vb0_2 vb0_3 vb0_4 vb0_5 vb1_0 vb1_1 vb2_0 vb2_1 vb2_2 vb2_3 vb2_4 vb2_5 vb3_0 vb3_1 vb4_0 vk0 vk1 vk2 vk3
noncomputable def F.graphite_Parse.L2_graphite_cut_1 {X : Type} (n : Nat) (k0 : (List UInt8) → Int → (List ((Bool) × (Int) × (Int))) → Int → (List ((List UInt8) × (List UInt8))) → Int → Int → Int → (List UInt8) → Int → (List ((Bool) × (Int) × (Int))) → Int → (List ((List UInt8) × (List UInt8))) → Int → Int → Int → (List UInt8) → Nat → Nat → Nat → Nat → Option X) (kr : (List UInt8) → Int → (List ((Bool) × (Int) × (Int))) → Int → (List ((List UInt8) × (List UInt8))) → Int → Int → Int → (List UInt8) → Int → (List ((Bool) × (Int) × (Int))) → Int → (List ((List UInt8) × (List UInt8))) → Int → Int → Int → (List UInt8) → Nat → Nat → Nat → Nat → Option X) : Nat → Int → Int → Bool → (List UInt8) → Int → (List ((Bool) × (Int) × (Int))) → Int → (List ((List UInt8) × (List UInt8))) → Int → Int → Int → (List UInt8) → Int → (List ((Bool) × (Int) × (Int))) → Int → (List ((List UInt8) × (List UInt8))) → Int → Int → Int → (List UInt8) → Nat → Nat → Nat → Nat → Option X
  | 0 => fun _ _ _ _ _ _ _ _ _ _ _ _ _ _ _ _ _ _ _ _ _ _ _ _ => none
  | m + 1 => fun v3 v4 v5 vb0_0 vb0_1 vb0_2 vb0_3 vb0_4 vb0_5 vb1_0 vb1_1 vb2_0 vb2_1 vb2_2 vb2_3 vb2_4 vb2_5 vb3_0 vb3_1 vb4_0 vk0 vk1 vk2 vk3 => F.graphite_Parse.L2_graphite_cut_1.step n (F.graphite_Parse.L2_graphite_cut_1 n k0 kr m) k0 kr v3 v4 v5 vb0_0 vb0_1 vb0_2 vb0_3 vb0_4 vb0_5 vb1_0 vb1_1 vb2_0 vb2_1 vb2_2 vb2_3 vb2_4 vb2_5 vb3_0 vb3_1 vb4_0 vk0 vk1 vk2 vk3
noncomputable def F.graphite_Parse (n : Nat) (a0 : List UInt8) : Option (((List UInt8) × (Int) × (List ((Bool) × (Int) × (Int))) × (Int) × (List ((List UInt8) × (List UInt8))) × (Int) × Unit) × ((Int) × (Int) × Unit) × Unit) :=
  F.graphite_Parse.L2_graphite_cut_1 n
    (fun e6_b0_0 e6_b0_1 e6_b0_2 e6_b0_3 e6_b0_4 e6_b0_5 e6_b1_0 e6_b1_1 e6_b2_0 e6_b2_1 e6_b2_2 e6_b2_3 e6_b2_4 e6_b2_5 e6_b3_0 e6_b3_1 e6_b4_0 e6_k0 e6_k1 e6_k2 e6_k3 =>
      bif !((e6_b3_0 == (0 : Int)) && (e6_b3_1 == (0 : Int))) then
        some ((([], (0 : Int), [], (0 : Int), [], (0 : Int), ()), (e6_b3_0, e6_b3_1, ()), ()))
      else
        some (((e6_b2_0, e6_b2_1, e6_b2_2, e6_b2_3, e6_b2_4, e6_b2_5, ()), (e6_b3_0, e6_b3_1, ()), ())))
    (fun e7_b0_0 e7_b0_1 e7_b0_2 e7_b0_3 e7_b0_4 e7_b0_5 e7_b1_0 e7_b1_1 e7_b2_0 e7_b2_1 e7_b2_2 e7_b2_3 e7_b2_4 e7_b2_5 e7_b3_0 e7_b3_1 e7_b4_0 e7_k0 e7_k1 e7_k2 e7_k3 =>
      bif !((e7_b3_0 == (0 : Int)) && (e7_b3_1 == (0 : Int))) then
        some ((([], (0 : Int), [], (0 : Int), [], (0 : Int), ()), (e7_b3_0, e7_b3_1, ()), ()))
      else
        some (((e7_b2_0, e7_b2_1, e7_b2_2, e7_b2_3, e7_b2_4, e7_b2_5, ()), (e7_b3_0, e7_b3_1, ()), ()))) n (0 : Int) (0 : Int) true [] (0 : Int) [] (0 : Int) [] (0 : Int) (0 : Int) (0 : Int) [] (2 : Int) [] (1000000 : Int) [] (0 : Int) (0 : Int) (0 : Int) a0 0 0 0 0
noncomputable def F.law12_awake (n : Nat) : Option (Bool) :=
  (F.graphite_Parse n ([97, 46, 98, 32, 45, 49, 46, 53, 48, 32, 49, 55, 48, 48, 48, 48, 48, 48, 48, 48])).bind fun y1 =>
    (F.graphite_Line n (y1.1.1, y1.1.2.1, y1.1.2.2.1, y1.1.2.2.2.1, y1.1.2.2.2.2.1, y1.1.2.2.2.2.2.1, ())).bind fun y2 =>
      (F.graphite_Parse n ([97, 32, 49, 32, 48])).bind fun y3 =>
        (F.graphite_Parse n ([97, 32, 32, 49, 32, 53])).bind fun y4 =>
          (F.graphite_Parse n ([97, 32, 49, 32, 53, 32])).bind fun y5 =>
            bif !((y1.2.1.1 == (0 : Int)) && (y1.2.1.2.1 == (0 : Int))) then
              some (false)
            else
            bif !(y1.1.1 == ([97, 46, 98])) then
              some (false)
            else
            bif !(y1.1.2.1 == (2 : Int)) then
              some (false)
            else
            bif !(y1.1.2.2.2.2.2.1 == (1700000000 : Int)) then
              some (false)
            else
            bif !((y1.1.2.2.1.length : Int) == (1 : Int)) then
              some (false)
            else
              (idx y1.1.2.2.1 (0 : Int)).bind fun x6 =>
                bif !((x6.1 == true) && ((x6.2.1 == (15 : Int)) && (x6.2.2 == (-1 : Int)))) then
                  some (false)
                else
                bif y2.1 == ([97, 46, 98, 32, 45, 49, 46, 53, 32, 49, 55, 48, 48, 48, 48, 48, 48, 48, 48]) then
                  bif y2.2.1 == (0 : Int) then
                    bif (y3.2.1.1 == (20 : Int)) && (y3.2.1.2.1 == (4 : Int)) then
                      bif (y4.2.1.1 == (17 : Int)) && (y4.2.1.2.1 == (2 : Int)) then
                        some ((y5.2.1.1 == (11 : Int)) && (y5.2.1.2.1 == (5 : Int)))
                      else
                        some (false)
                    else
                      some (false)
                  else
                    some (false)
                else
                  some (false)
noncomputable def F.ref03_Digits.go (n : Nat) : Nat → (Int) → Option (List UInt8)
  | 0 => fun _ => none
  | m + 1 => fun a0 =>
    bif decide (a0 < (10 : Int)) then
      (sub ([48, 49, 50, 51, 52, 53, 54, 55, 56, 57]) a0 (IntKind.wrap .u64 (a0 + (1 : Int)))).bind fun x1 =>
        some (x1)
    else
      (F.ref03_Digits.go n m (IntKind.wrap .u64 (a0.tdiv (10 : Int)))).bind fun y2 =>
        (sub ([48, 49, 50, 51, 52, 53, 54, 55, 56, 57]) (a0.tmod (10 : Int)) (IntKind.wrap .u64 ((a0.tmod (10 : Int)) + (1 : Int)))).bind fun x3 =>
          bif decide (y2.length + x3.length ≤ strMax) then
            some (y2 ++ x3)
          else
            none
noncomputable def F.ref03_Digits (n : Nat) (a0 : Int) : Option (List UInt8) := F.ref03_Digits.go n n a0
noncomputable def F.ref03_Fits (n : Nat) (a0 : List UInt8) : Option (Bool) :=
  bif decide ((a0.length : Int) < (20 : Int)) then
    some (true)
  else
  bif (a0.length : Int) == (20 : Int) then
    some (Op.bytesLess a0 ([49, 56, 52, 52, 54, 55, 52, 52, 48, 55, 51, 55, 48, 57, 53, 53, 49, 54, 49, 53]) || a0 == ([49, 56, 52, 52, 54, 55, 52, 52, 48, 55, 51, 55, 48, 57, 53, 53, 49, 54, 49, 53]))
  else
    some (false)
noncomputable def F.ref03_Value.L3.step {X : Type} (n : Nat) (rec : (List UInt8) → Int → Int → Option X) (k0 : Int → Option X) (v0 : List UInt8) (v3 : Int) (v4 : Int) : Option X :=
  bif decide (v4 < (v0.length : Int)) then
    (idx v0 v4).bind fun x1 =>
      rec v0 (IntKind.wrap .u64 ((IntKind.wrap .u64 ((10 : Int) * v3)) + (IntKind.wrap .u64 (IntKind.wrap .u8 (((x1).toNat) - (48 : Int)))))) (IntKind.wrap .i64 (v4 + (1 : Int)))
  else
    k0 v3
noncomputable def F.ref03_Value.L3 {X : Type} (n : Nat) (k0 : Int → Option X) : Nat → (List UInt8) → Int → Int → Option X
  | 0 => fun _ _ _ => none
  | m + 1 => fun v0 v3 v4 => F.ref03_Value.L3.step n (F.ref03_Value.L3 n k0 m) k0 v0 v3 v4
noncomputable def F.ref03_Value (n : Nat) (a0 : List UInt8) : Option (Int) :=
  F.ref03_Value.L3 n
    (fun e2_3 =>
      some (e2_3)) n a0 (0 : Int) (0 : Int)
noncomputable def F.ref03_Make.L1.step {X : Type} (n : Nat) (rec : Bool → (List UInt8) → Int → Bool → Int → Int → Option X) (k0 : Bool → (List UInt8) → Int → Bool → Int → Int → Option X) (v0 : Bool) (v1 : List UInt8) (v2 : Int) (vb0_0 : Bool) (vb0_1 : Int) (vb0_2 : Int) : Option X :=
  bif decide ((v1.length : Int) > (0 : Int)) then
    (idx v1 (0 : Int)).bind fun x1 =>
      bif ((x1).toNat) == (48 : Int) then
        (sub v1 (1 : Int) (v1.length : Int)).bind fun x2 =>
          rec v0 x2 v2 vb0_0 vb0_1 vb0_2
      else
        k0 v0 v1 v2 vb0_0 vb0_1 vb0_2
  else
    k0 v0 v1 v2 vb0_0 vb0_1 vb0_2
noncomputable def F.ref03_Make.L1 {X : Type} (n : Nat) (k0 : Bool → (List UInt8) → Int → Bool → Int → Int → Option X) : Nat → Bool → (List UInt8) → Int → Bool → Int → Int → Option X
  | 0 => fun _ _ _ _ _ _ => none
  | m + 1 => fun v0 v1 v2 vb0_0 vb0_1 vb0_2 => F.ref03_Make.L1.step n (F.ref03_Make.L1 n k0 m) k0 v0 v1 v2 vb0_0 vb0_1 vb0_2
noncomputable def F.ref03_Make.L7.step {X : Type} (n : Nat) (rec : Bool → (List UInt8) → Int → Bool → Int → Int → Option X) (k2 : Bool → (List UInt8) → Int → Bool → Int → Int → Option X) (v0 : Bool) (v1 : List UInt8) (v2 : Int) (vb0_0 : Bool) (vb0_1 : Int) (vb0_2 : Int) : Option X :=
  bif decide (v2 < (18 : Int)) then
    (idx v1 (IntKind.wrap .i64 ((v1.length : Int) - (1 : Int)))).bind fun x4 =>
      bif ((x4).toNat) == (48 : Int) then
        (sub v1 (0 : Int) (IntKind.wrap .i64 ((v1.length : Int) - (1 : Int)))).bind fun x5 =>
          rec v0 x5 (IntKind.wrap .i64 (v2 + (1 : Int))) vb0_0 vb0_1 vb0_2
      else
        k2 v0 v1 v2 vb0_0 vb0_1 vb0_2
  else
    k2 v0 v1 v2 vb0_0 vb0_1 vb0_2
noncomputable def F.ref03_Make.L7 {X : Type} (n : Nat) (k2 : Bool → (List UInt8) → Int → Bool → Int → Int → Option X) : Nat → Bool → (List UInt8) → Int → Bool → Int → Int → Option X
  | 0 => fun _ _ _ _ _ _ => none
  | m + 1 => fun v0 v1 v2 vb0_0 vb0_1 vb0_2 => F.ref03_Make.L7.step n (F.ref03_Make.L7 n k2 m) k2 v0 v1 v2 vb0_0 vb0_1 vb0_2
noncomputable def F.ref03_Make.L10.step {X : Type} (n : Nat) (rec : Bool → (List UInt8) → Int → Bool → Int → Int → Option X) (k4 : Bool → (List UInt8) → Int → Bool → Int → Int → Option X) (v0 : Bool) (v1 : List UInt8) (v2 : Int) (vb0_0 : Bool) (vb0_1 : Int) (vb0_2 : Int) : Option X :=
  bif decide (v2 > (18 : Int)) then
    bif decide (v1.length + 1 ≤ strMax) then
      rec v0 (v1 ++ ([48])) (IntKind.wrap .i64 (v2 - (1 : Int))) vb0_0 vb0_1 vb0_2
    else
      none
  else
    k4 v0 v1 v2 vb0_0 vb0_1 vb0_2
noncomputable def F.ref03_Make.L10 {X : Type} (n : Nat) (k4 : Bool → (List UInt8) → Int → Bool → Int → Int → Option X) : Nat → Bool → (List UInt8) → Int → Bool → Int → Int → Option X
  | 0 => fun _ _ _ _ _ _ => none
  | m + 1 => fun v0 v1 v2 vb0_0 vb0_1 vb0_2 => F.ref03_Make.L10.step n (F.ref03_Make.L10 n k4 m) k4 v0 v1 v2 vb0_0 vb0_1 vb0_2
noncomputable def F.ref03_Make (n : Nat) (a0 : Bool) (a1 : List UInt8) (a2 : Int) : Option (((Bool) × (Int) × (Int) × Unit) × (Bool) × Unit) :=
  F.ref03_Make.L1 n
    (fun e3_0 e3_1 e3_2 e3_b0_0 e3_b0_1 e3_b0_2 =>
      bif e3_1 == [] then
        some (((false, (0 : Int), (0 : Int), ()), true, ()))
      else
      bif decide (e3_2 > (1000 : Int)) then
        some (((false, (0 : Int), (0 : Int), ()), false, ()))
      else
      bif decide (e3_2 < (-1000000 : Int)) then
        some (((false, (0 : Int), (0 : Int), ()), false, ()))
      else
        F.ref03_Make.L7 n
          (fun e6_0 e6_1 e6_2 e6_b0_0 e6_b0_1 e6_b0_2 =>
            F.ref03_Make.L10 n
              (fun e7_0 e7_1 e7_2 e7_b0_0 e7_b0_1 e7_b0_2 =>
                bif decide (e7_2 < (-18 : Int)) then
                  some (((false, (0 : Int), (0 : Int), ()), false, ()))
                else
                  (F.ref03_Fits n e7_1).bind fun y8 =>
                    bif !y8 then
                      some (((false, (0 : Int), (0 : Int), ()), false, ()))
                    else
                      (F.ref03_Value n e7_1).bind fun y9 =>
                        some (((e7_0, y9, e7_2, ()), true, ()))) n e6_0 e6_1 e6_2 e6_b0_0 e6_b0_1 e6_b0_2) n e3_0 e3_1 e3_2 e3_b0_0 e3_b0_1 e3_b0_2) n a0 a1 a2 false (0 : Int) (0 : Int)
noncomputable def F.ref03_Check (n : Nat) (a0 : (Bool) × (Int) × (Int) × Unit) : Option (Int) :=
  bif !(a0.2.1 == (0 : Int)) then
    bif decide (a0.2.2.1 < (-18 : Int)) then
      some ((10 : Int))
    else
    bif decide (a0.2.2.1 > (18 : Int)) then
      some ((10 : Int))
    else
      (F.ref03_Digits n a0.2.1).bind fun y1 =>
        (F.ref03_Make n a0.1 y1 a0.2.2.1).bind fun y2 =>
          bif !y2.2.1 then
            some ((21 : Int))
          else
          bif !((y2.1.1 == a0.1) && ((y2.1.2.1 == a0.2.1) && (y2.1.2.2.1 == a0.2.2.1))) then
            some ((21 : Int))
          else
            some ((0 : Int))
  else
    (F.ref03_Digits n a0.2.1).bind fun y3 =>
      (F.ref03_Make n a0.1 y3 a0.2.2.1).bind fun y4 =>
        bif !y4.2.1 then
          some ((21 : Int))
        else
        bif !((y4.1.1 == a0.1) && ((y4.1.2.1 == a0.2.1) && (y4.1.2.2.1 == a0.2.2.1))) then
          some ((21 : Int))
        else
          some ((0 : Int))
noncomputable def F.ref07_Name.L2.step {X : Type} (n : Nat) (rec : (List UInt8) → Int → Option X) (k0 : (List UInt8) → Option X) (kr : Bool → Option X) (v0 : List UInt8) (v3 : Int) : Option X :=
  bif decide (v3 < (v0.length : Int)) then
    (idx v0 v3).bind fun x1 =>
      bif decide (((x1).toNat) ≥ (97 : Int)) then
        bif decide (((x1).toNat) ≤ (122 : Int)) then
          rec v0 (IntKind.wrap .i64 (v3 + (1 : Int)))
        else
        bif decide (((x1).toNat) ≥ (65 : Int)) then
          bif decide (((x1).toNat) ≤ (90 : Int)) then
            rec v0 (IntKind.wrap .i64 (v3 + (1 : Int)))
          else
          bif decide (((x1).toNat) ≥ (48 : Int)) then
            bif decide (((x1).toNat) ≤ (57 : Int)) then
              rec v0 (IntKind.wrap .i64 (v3 + (1 : Int)))
            else
            bif ((x1).toNat) == (95 : Int) then
              rec v0 (IntKind.wrap .i64 (v3 + (1 : Int)))
            else
            bif ((x1).toNat) == (46 : Int) then
              rec v0 (IntKind.wrap .i64 (v3 + (1 : Int)))
            else
            bif !(((x1).toNat) == (45 : Int)) then
              kr false
            else
              rec v0 (IntKind.wrap .i64 (v3 + (1 : Int)))
          else
          bif ((x1).toNat) == (95 : Int) then
            rec v0 (IntKind.wrap .i64 (v3 + (1 : Int)))
          else
          bif ((x1).toNat) == (46 : Int) then
            rec v0 (IntKind.wrap .i64 (v3 + (1 : Int)))
          else
          bif !(((x1).toNat) == (45 : Int)) then
            kr false
          else
            rec v0 (IntKind.wrap .i64 (v3 + (1 : Int)))
        else
        bif decide (((x1).toNat) ≥ (48 : Int)) then
          bif decide (((x1).toNat) ≤ (57 : Int)) then
            rec v0 (IntKind.wrap .i64 (v3 + (1 : Int)))
          else
          bif ((x1).toNat) == (95 : Int) then
            rec v0 (IntKind.wrap .i64 (v3 + (1 : Int)))
          else
          bif ((x1).toNat) == (46 : Int) then
            rec v0 (IntKind.wrap .i64 (v3 + (1 : Int)))
          else
          bif !(((x1).toNat) == (45 : Int)) then
            kr false
          else
            rec v0 (IntKind.wrap .i64 (v3 + (1 : Int)))
        else
        bif ((x1).toNat) == (95 : Int) then
          rec v0 (IntKind.wrap .i64 (v3 + (1 : Int)))
        else
        bif ((x1).toNat) == (46 : Int) then
          rec v0 (IntKind.wrap .i64 (v3 + (1 : Int)))
        else
        bif !(((x1).toNat) == (45 : Int)) then
          kr false
        else
          rec v0 (IntKind.wrap .i64 (v3 + (1 : Int)))
      else
      bif decide (((x1).toNat) ≥ (65 : Int)) then
        bif decide (((x1).toNat) ≤ (90 : Int)) then
          rec v0 (IntKind.wrap .i64 (v3 + (1 : Int)))
        else
        bif decide (((x1).toNat) ≥ (48 : Int)) then
          bif decide (((x1).toNat) ≤ (57 : Int)) then
            rec v0 (IntKind.wrap .i64 (v3 + (1 : Int)))
          else
          bif ((x1).toNat) == (95 : Int) then
            rec v0 (IntKind.wrap .i64 (v3 + (1 : Int)))
          else
          bif ((x1).toNat) == (46 : Int) then
            rec v0 (IntKind.wrap .i64 (v3 + (1 : Int)))
          else
          bif !(((x1).toNat) == (45 : Int)) then
            kr false
          else
            rec v0 (IntKind.wrap .i64 (v3 + (1 : Int)))
        else
        bif ((x1).toNat) == (95 : Int) then
          rec v0 (IntKind.wrap .i64 (v3 + (1 : Int)))
        else
        bif ((x1).toNat) == (46 : Int) then
          rec v0 (IntKind.wrap .i64 (v3 + (1 : Int)))
        else
        bif !(((x1).toNat) == (45 : Int)) then
          kr false
        else
          rec v0 (IntKind.wrap .i64 (v3 + (1 : Int)))
      else
      bif decide (((x1).toNat) ≥ (48 : Int)) then
        bif decide (((x1).toNat) ≤ (57 : Int)) then
          rec v0 (IntKind.wrap .i64 (v3 + (1 : Int)))
        else
        bif ((x1).toNat) == (95 : Int) then
          rec v0 (IntKind.wrap .i64 (v3 + (1 : Int)))
        else
        bif ((x1).toNat) == (46 : Int) then
          rec v0 (IntKind.wrap .i64 (v3 + (1 : Int)))
        else
        bif !(((x1).toNat) == (45 : Int)) then
          kr false
        else
          rec v0 (IntKind.wrap .i64 (v3 + (1 : Int)))
      else
      bif ((x1).toNat) == (95 : Int) then
        rec v0 (IntKind.wrap .i64 (v3 + (1 : Int)))
      else
      bif ((x1).toNat) == (46 : Int) then
        rec v0 (IntKind.wrap .i64 (v3 + (1 : Int)))
      else
      bif !(((x1).toNat) == (45 : Int)) then
        kr false
      else
        rec v0 (IntKind.wrap .i64 (v3 + (1 : Int)))
  else
    k0 v0
noncomputable def F.ref07_Name.L2 {X : Type} (n : Nat) (k0 : (List UInt8) → Option X) (kr : Bool → Option X) : Nat → (List UInt8) → Int → Option X
  | 0 => fun _ _ => none
  | m + 1 => fun v0 v3 => F.ref07_Name.L2.step n (F.ref07_Name.L2 n k0 kr m) k0 kr v0 v3
noncomputable def F.ref07_Name (n : Nat) (a0 : List UInt8) : Option (Bool) :=
  F.ref07_Name.L2 n
    (fun e2_0 =>
      bif decide ((e2_0.length : Int) ≥ (1 : Int)) then
        some (decide ((e2_0.length : Int) ≤ (200 : Int)))
      else
        some (false))
    (fun e3_2 =>
      some (e3_2)) n a0 (0 : Int)
noncomputable def F.ref04_Bytes (n : Nat) (a0 : Int) : Option (List UInt8) :=
  bif decide (52 + 10 ≤ strMax) then
    bif decide (((([65, 66, 67, 68, 69, 70, 71, 72, 73, 74, 75, 76, 77, 78, 79, 80, 81, 82, 83, 84, 85, 86, 87, 88, 89, 90, 97, 98, 99, 100, 101, 102, 103, 104, 105, 106, 107, 108, 109, 110, 111, 112, 113, 114, 115, 116, 117, 118, 119, 120, 121, 122]) ++ ([48, 49, 50, 51, 52, 53, 54, 55, 56, 57])).length) + 3 ≤ strMax) then
      bif a0 == (1 : Int) then
        some ((([65, 66, 67, 68, 69, 70, 71, 72, 73, 74, 75, 76, 77, 78, 79, 80, 81, 82, 83, 84, 85, 86, 87, 88, 89, 90, 97, 98, 99, 100, 101, 102, 103, 104, 105, 106, 107, 108, 109, 110, 111, 112, 113, 114, 115, 116, 117, 118, 119, 120, 121, 122]) ++ ([48, 49, 50, 51, 52, 53, 54, 55, 56, 57])) ++ ([95, 46, 45]))
      else
      bif a0 == (2 : Int) then
        bif decide ((((([65, 66, 67, 68, 69, 70, 71, 72, 73, 74, 75, 76, 77, 78, 79, 80, 81, 82, 83, 84, 85, 86, 87, 88, 89, 90, 97, 98, 99, 100, 101, 102, 103, 104, 105, 106, 107, 108, 109, 110, 111, 112, 113, 114, 115, 116, 117, 118, 119, 120, 121, 122]) ++ ([48, 49, 50, 51, 52, 53, 54, 55, 56, 57])) ++ ([95, 46, 45])).length) + 1 ≤ strMax) then
          some (((([65, 66, 67, 68, 69, 70, 71, 72, 73, 74, 75, 76, 77, 78, 79, 80, 81, 82, 83, 84, 85, 86, 87, 88, 89, 90, 97, 98, 99, 100, 101, 102, 103, 104, 105, 106, 107, 108, 109, 110, 111, 112, 113, 114, 115, 116, 117, 118, 119, 120, 121, 122]) ++ ([48, 49, 50, 51, 52, 53, 54, 55, 56, 57])) ++ ([95, 46, 45])) ++ ([47]))
        else
          none
      else
      bif a0 == (3 : Int) then
        bif decide ((((([65, 66, 67, 68, 69, 70, 71, 72, 73, 74, 75, 76, 77, 78, 79, 80, 81, 82, 83, 84, 85, 86, 87, 88, 89, 90, 97, 98, 99, 100, 101, 102, 103, 104, 105, 106, 107, 108, 109, 110, 111, 112, 113, 114, 115, 116, 117, 118, 119, 120, 121, 122]) ++ ([48, 49, 50, 51, 52, 53, 54, 55, 56, 57])) ++ ([95, 46, 45])).length) + 27 ≤ strMax) then
          some (((([65, 66, 67, 68, 69, 70, 71, 72, 73, 74, 75, 76, 77, 78, 79, 80, 81, 82, 83, 84, 85, 86, 87, 88, 89, 90, 97, 98, 99, 100, 101, 102, 103, 104, 105, 106, 107, 108, 109, 110, 111, 112, 113, 114, 115, 116, 117, 118, 119, 120, 121, 122]) ++ ([48, 49, 50, 51, 52, 53, 54, 55, 56, 57])) ++ ([95, 46, 45])) ++ ([47, 33, 34, 35, 36, 37, 38, 39, 40, 41, 42, 43, 58, 59, 60, 61, 62, 63, 64, 91, 92, 93, 94, 96, 123, 125, 126]))
        else
          none
      else
      bif a0 == (4 : Int) then
        some ([48, 49, 50, 51, 52, 53, 54, 55, 56, 57])
      else
        some ([])
    else
      none
  else
    none
noncomputable def F.ref04_Is.L3.step {X : Type} (n : Nat) (rec : Int → (List UInt8) → Int → Option X) (k0 : Unit → Option X) (kr : Bool → Option X) (v1 : Int) (v5 : List UInt8) (v6 : Int) : Option X :=
  bif decide (v6 < (v5.length : Int)) then
    (idx v5 v6).bind fun x2 =>
      bif ((x2).toNat) == v1 then
        kr true
      else
        rec v1 v5 (IntKind.wrap .i64 (v6 + (1 : Int)))
  else
    k0 ()
noncomputable def F.ref04_Is.L3 {X : Type} (n : Nat) (k0 : Unit → Option X) (kr : Bool → Option X) : Nat → Int → (List UInt8) → Int → Option X
  | 0 => fun _ _ _ => none
  | m + 1 => fun v1 v5 v6 => F.ref04_Is.L3.step n (F.ref04_Is.L3 n k0 kr m) k0 kr v1 v5 v6
noncomputable def F.ref04_Is (n : Nat) (a0 : Int) (a1 : Int) : Option (Bool) :=
  (F.ref04_Bytes n a0).bind fun y1 =>
    F.ref04_Is.L3 n
      (fun (_ : Unit) =>
        some (false))
      (fun e4_4 =>
        some (e4_4)) n a1 y1 (0 : Int)
noncomputable def F.ref04_Bad.L2.step {X : Type} (n : Nat) (rec : Int → (List UInt8) → Int → Option X) (k0 : Unit → Option X) (kr : Int → Option X) (v0 : Int) (v1 : List UInt8) (v5 : Int) : Option X :=
  bif decide (v5 < (v1.length : Int)) then
    (idx v1 v5).bind fun x1 =>
      (F.ref04_Is n v0 ((x1).toNat)).bind fun y2 =>
        bif !y2 then
          kr v5
        else
          rec v0 v1 (IntKind.wrap .i64 (v5 + (1 : Int)))
  else
    k0 ()
noncomputable def F.ref04_Bad.L2 {X : Type} (n : Nat) (k0 : Unit → Option X) (kr : Int → Option X) : Nat → Int → (List UInt8) → Int → Option X
  | 0 => fun _ _ _ => none
  | m + 1 => fun v0 v1 v5 => F.ref04_Bad.L2.step n (F.ref04_Bad.L2 n k0 kr m) k0 kr v0 v1 v5
noncomputable def F.ref04_Bad (n : Nat) (a0 : Int) (a1 : List UInt8) : Option (Int) :=
  F.ref04_Bad.L2 n
    (fun (_ : Unit) =>
      some ((-1 : Int)))
    (fun e4_4 =>
      some (e4_4)) n a0 a1 (0 : Int)
noncomputable def F.ref04_Text (n : Nat) (a0 : Int) (a1 : List UInt8) (a2 : Int) (a3 : Int) : Option ((Int) × (Int) × Unit) :=
  bif decide ((a1.length : Int) < a2) then
    some (((13 : Int), (a1.length : Int), ()))
  else
  bif decide ((a1.length : Int) > a3) then
    some (((12 : Int), a3, ()))
  else
    (F.ref04_Bad n a0 a1).bind fun y1 =>
      bif decide (y1 ≥ (0 : Int)) then
        some (((14 : Int), y1, ()))
      else
        some (((0 : Int), (0 : Int), ()))
noncomputable def F.ref06_Right (n : Nat) (a0 : (List UInt8) × (List UInt8) × Unit) : Option (Bool) :=
  (F.ref04_Text n (2 : Int) a0.1 (1 : Int) (64 : Int)).bind fun y1 =>
    bif (y1.1 == (0 : Int)) && (y1.2.1 == (0 : Int)) then
      (F.ref04_Text n (3 : Int) a0.2.1 (0 : Int) (100 : Int)).bind fun y2 =>
        some ((y2.1 == (0 : Int)) && (y2.2.1 == (0 : Int)))
    else
      some (false)
noncomputable def F.ref06_Check (n : Nat) (a0 : (List UInt8) × (List UInt8) × Unit) : Option (Int) :=
  (F.ref06_Right n (a0.1, a0.2.1, ())).bind fun y1 =>
    bif !y1 then
      some ((19 : Int))
    else
      some ((0 : Int))
noncomputable def F.ref07_Rest.L12.step {X : Type} (n : Nat) (rec : Int → (List UInt8) → Int → (List ((Bool) × (Int) × (Int))) → Int → (List ((List UInt8) × (List UInt8))) → Int → Option X) (k0 : (List UInt8) → Int → (List ((Bool) × (Int) × (Int))) → Int → (List ((List UInt8) × (List UInt8))) → Int → Option X) (kr : Int → (List UInt8) → Int → (List ((Bool) × (Int) × (Int))) → Int → (List ((List UInt8) × (List UInt8))) → Int → Option X) (v5 : Int) (vb0_0 : List UInt8) (vb0_1 : Int) (vb0_2 : List ((Bool) × (Int) × (Int))) (vb0_3 : Int) (vb0_4 : List ((List UInt8) × (List UInt8))) (vb0_5 : Int) : Option X :=
  bif decide (v5 < (vb0_4.length : Int)) then
    (idx vb0_4 v5).bind fun x2 =>
      (F.ref06_Check n (x2.1, x2.2, ())).bind fun y3 =>
        bif !(y3 == (0 : Int)) then
          kr (19 : Int) vb0_0 vb0_1 vb0_2 vb0_3 vb0_4 vb0_5
        else
          rec (IntKind.wrap .i64 (v5 + (1 : Int))) vb0_0 vb0_1 vb0_2 vb0_3 vb0_4 vb0_5
  else
    k0 vb0_0 vb0_1 vb0_2 vb0_3 vb0_4 vb0_5
noncomputable def F.ref07_Rest.L12 {X : Type} (n : Nat) (k0 : (List UInt8) → Int → (List ((Bool) × (Int) × (Int))) → Int → (List ((List UInt8) × (List UInt8))) → Int → Option X) (kr : Int → (List UInt8) → Int → (List ((Bool) × (Int) × (Int))) → Int → (List ((List UInt8) × (List UInt8))) → Int → Option X) : Nat → Int → (List UInt8) → Int → (List ((Bool) × (Int) × (Int))) → Int → (List ((List UInt8) × (List UInt8))) → Int → Option X
  | 0 => fun _ _ _ _ _ _ _ => none
  | m + 1 => fun v5 vb0_0 vb0_1 vb0_2 vb0_3 vb0_4 vb0_5 => F.ref07_Rest.L12.step n (F.ref07_Rest.L12 n k0 kr m) k0 kr v5 vb0_0 vb0_1 vb0_2 vb0_3 vb0_4 vb0_5
noncomputable def F.ref07_Rest (n : Nat) (a0 : (List UInt8) × (Int) × (List ((Bool) × (Int) × (Int))) × (Int) × (List ((List UInt8) × (List UInt8))) × (Int) × Unit) (a1 : Bool) : Option (Int) :=
  (F.ref07_Name n a0.1).bind fun y1 =>
    bif !y1 then
      some ((15 : Int))
    else
    bif decide (a0.2.1 < (1 : Int)) then
      some ((16 : Int))
    else
    bif decide (a0.2.1 > (5 : Int)) then
      some ((16 : Int))
    else
    bif !a1 then
      some ((17 : Int))
    else
    bif decide ((a0.2.2.1.length : Int) < (1 : Int)) then
      some ((17 : Int))
    else
    bif decide ((a0.2.2.1.length : Int) > (64 : Int)) then
      some ((17 : Int))
    else
    bif decide (a0.2.2.2.1 < (1 : Int)) then
      some ((18 : Int))
    else
    bif decide (a0.2.2.2.1 > (1000000 : Int)) then
      some ((18 : Int))
    else
    bif a0.2.1 == (2 : Int) then
      bif !(a0.2.2.2.1 == (1000000 : Int)) then
        some ((18 : Int))
      else
      bif decide ((a0.2.2.2.2.1.length : Int) > (32 : Int)) then
        some ((19 : Int))
      else
        F.ref07_Rest.L12 n
          (fun e4_b0_0 e4_b0_1 e4_b0_2 e4_b0_3 e4_b0_4 e4_b0_5 =>
            bif decide (e4_b0_5 < (0 : Int)) then
              some ((20 : Int))
            else
            bif decide (e4_b0_5 > (1099511627776 : Int)) then
              some ((20 : Int))
            else
              some ((0 : Int)))
          (fun e5_4 e5_b0_0 e5_b0_1 e5_b0_2 e5_b0_3 e5_b0_4 e5_b0_5 =>
            some (e5_4)) n (0 : Int) a0.1 a0.2.1 a0.2.2.1 a0.2.2.2.1 a0.2.2.2.2.1 a0.2.2.2.2.2.1
    else
    bif decide ((a0.2.2.2.2.1.length : Int) > (32 : Int)) then
      some ((19 : Int))
    else
      F.ref07_Rest.L12 n
        (fun e6_b0_0 e6_b0_1 e6_b0_2 e6_b0_3 e6_b0_4 e6_b0_5 =>
          bif decide (e6_b0_5 < (0 : Int)) then
            some ((20 : Int))
          else
          bif decide (e6_b0_5 > (1099511627776 : Int)) then
            some ((20 : Int))
          else
            some ((0 : Int)))
        (fun e7_4 e7_b0_0 e7_b0_1 e7_b0_2 e7_b0_3 e7_b0_4 e7_b0_5 =>
          some (e7_4)) n (0 : Int) a0.1 a0.2.1 a0.2.2.1 a0.2.2.2.1 a0.2.2.2.2.1 a0.2.2.2.2.2.1
noncomputable def F.ref07_Check.L3.step {X : Type} (n : Nat) (rec : Bool → Int → (List UInt8) → Int → (List ((Bool) × (Int) × (Int))) → Int → (List ((List UInt8) × (List UInt8))) → Int → Option X) (k0 : Bool → (List UInt8) → Int → (List ((Bool) × (Int) × (Int))) → Int → (List ((List UInt8) × (List UInt8))) → Int → Option X) (v3 : Bool) (v4 : Int) (vb0_0 : List UInt8) (vb0_1 : Int) (vb0_2 : List ((Bool) × (Int) × (Int))) (vb0_3 : Int) (vb0_4 : List ((List UInt8) × (List UInt8))) (vb0_5 : Int) : Option X :=
  bif decide (v4 < (vb0_2.length : Int)) then
    bif v3 then
      (idx vb0_2 v4).bind fun x1 =>
        (F.ref03_Check n (x1.1, x1.2.1, x1.2.2, ())).bind fun y2 =>
          rec (y2 == (0 : Int)) (IntKind.wrap .i64 (v4 + (1 : Int))) vb0_0 vb0_1 vb0_2 vb0_3 vb0_4 vb0_5
    else
      rec false (IntKind.wrap .i64 (v4 + (1 : Int))) vb0_0 vb0_1 vb0_2 vb0_3 vb0_4 vb0_5
  else
    k0 v3 vb0_0 vb0_1 vb0_2 vb0_3 vb0_4 vb0_5
noncomputable def F.ref07_Check.L3 {X : Type} (n : Nat) (k0 : Bool → (List UInt8) → Int → (List ((Bool) × (Int) × (Int))) → Int → (List ((List UInt8) × (List UInt8))) → Int → Option X) : Nat → Bool → Int → (List UInt8) → Int → (List ((Bool) × (Int) × (Int))) → Int → (List ((List UInt8) × (List UInt8))) → Int → Option X
  | 0 => fun _ _ _ _ _ _ _ _ => none
  | m + 1 => fun v3 v4 vb0_0 vb0_1 vb0_2 vb0_3 vb0_4 vb0_5 => F.ref07_Check.L3.step n (F.ref07_Check.L3 n k0 m) k0 v3 v4 vb0_0 vb0_1 vb0_2 vb0_3 vb0_4 vb0_5
noncomputable def F.ref07_Check (n : Nat) (a0 : (List UInt8) × (Int) × (List ((Bool) × (Int) × (Int))) × (Int) × (List ((List UInt8) × (List UInt8))) × (Int) × Unit) : Option (Int) :=
  F.ref07_Check.L3 n
    (fun e3_3 e3_b0_0 e3_b0_1 e3_b0_2 e3_b0_3 e3_b0_4 e3_b0_5 =>
      (F.ref07_Rest n (e3_b0_0, e3_b0_1, e3_b0_2, e3_b0_3, e3_b0_4, e3_b0_5, ()) e3_3).bind fun y4 =>
        some (y4)) n true (0 : Int) a0.1 a0.2.1 a0.2.2.1 a0.2.2.2.1 a0.2.2.2.2.1 a0.2.2.2.2.2.1
noncomputable def F.ref09_Says (n : Nat) (a0 : (List UInt8) × (Int) × (List ((Bool) × (Int) × (Int))) × (Int) × (List ((List UInt8) × (List UInt8))) × (Int) × Unit) (a1 : Int) : Option (Bool) :=
  bif (a0.2.2.1.length : Int) == (1 : Int) then
    bif a1 == (1 : Int) then
      bif (a0.2.2.2.2.1.length : Int) == (0 : Int) then
        bif a0.2.2.2.2.2.1 == (0 : Int) then
          bif !(a0.2.1 == (5 : Int)) then
            bif a0.2.1 == (2 : Int) then
              (idx a0.2.2.1 (0 : Int)).bind fun x1 =>
                some (!x1.1)
            else
              some (true)
          else
            some (false)
        else
          some (false)
      else
        some (false)
    else
    bif a1 == (3 : Int) then
      bif (a0.2.2.2.2.1.length : Int) == (0 : Int) then
        bif !(a0.2.2.2.2.2.1 == (0 : Int)) then
          some (a0.2.1 == (2 : Int))
        else
          some (false)
      else
        some (false)
    else
      some (true)
  else
  bif a1 == (1 : Int) then
    some (false)
  else
  bif a1 == (3 : Int) then
    some (false)
  else
    some (true)
noncomputable def F.ref09_Metric (n : Nat) (a0 : (List UInt8) × (Int) × (List ((Bool) × (Int) × (Int))) × (Int) × (List ((List UInt8) × (List UInt8))) × (Int) × Unit) (a1 : Int) : Option (Int) :=
  bif decide (a1 < (1 : Int)) then
    some ((29 : Int))
  else
  bif decide (a1 > (4 : Int)) then
    some ((29 : Int))
  else
    (F.ref07_Check n (a0.1, a0.2.1, a0.2.2.1, a0.2.2.2.1, a0.2.2.2.2.1, a0.2.2.2.2.2.1, ())).bind fun y1 =>
      bif y1 == (0 : Int) then
        (F.ref09_Says n (a0.1, a0.2.1, a0.2.2.1, a0.2.2.2.1, a0.2.2.2.2.1, a0.2.2.2.2.2.1, ()) a1).bind fun y2 =>
          bif !y2 then
            some ((26 : Int))
          else
            some (y1)
      else
        some (y1)
noncomputable def F.ref03_Text.L3.step {X : Type} (n : Nat) (rec : (List UInt8) → Int → Bool → Int → Int → Option X) (k0 : (List UInt8) → Bool → Int → Int → Option X) (v3 : List UInt8) (v4 : Int) (vb0_0 : Bool) (vb0_1 : Int) (vb0_2 : Int) : Option X :=
  bif decide (v4 < vb0_2) then
    bif decide (v3.length + 1 ≤ strMax) then
      rec (v3 ++ ([48])) (IntKind.wrap .i64 (v4 + (1 : Int))) vb0_0 vb0_1 vb0_2
    else
      none
  else
    k0 v3 vb0_0 vb0_1 vb0_2
noncomputable def F.ref03_Text.L3 {X : Type} (n : Nat) (k0 : (List UInt8) → Bool → Int → Int → Option X) : Nat → (List UInt8) → Int → Bool → Int → Int → Option X
  | 0 => fun _ _ _ _ _ => none
  | m + 1 => fun v3 v4 vb0_0 vb0_1 vb0_2 => F.ref03_Text.L3.step n (F.ref03_Text.L3 n k0 m) k0 v3 v4 vb0_0 vb0_1 vb0_2
noncomputable def F.ref03_Text.L7.step {X : Type} (n : Nat) (rec : (List UInt8) → Bool → Int → Int → Option X) (k2 : (List UInt8) → Bool → Int → Int → Option X) (v3 : List UInt8) (vb0_0 : Bool) (vb0_1 : Int) (vb0_2 : Int) : Option X :=
  bif decide ((v3.length : Int) ≤ (IntKind.wrap .i64 (0 - vb0_2))) then
    bif decide (1 + v3.length ≤ strMax) then
      rec (([48]) ++ v3) vb0_0 vb0_1 vb0_2
    else
      none
  else
    k2 v3 vb0_0 vb0_1 vb0_2
noncomputable def F.ref03_Text.L7 {X : Type} (n : Nat) (k2 : (List UInt8) → Bool → Int → Int → Option X) : Nat → (List UInt8) → Bool → Int → Int → Option X
  | 0 => fun _ _ _ _ => none
  | m + 1 => fun v3 vb0_0 vb0_1 vb0_2 => F.ref03_Text.L7.step n (F.ref03_Text.L7 n k2 m) k2 v3 vb0_0 vb0_1 vb0_2
noncomputable def F.ref03_Text (n : Nat) (a0 : (Bool) × (Int) × (Int) × Unit) : Option (List UInt8) :=
  (F.ref03_Digits n a0.2.1).bind fun y1 =>
    F.ref03_Text.L3 n
      (fun e2_3 e2_b0_0 e2_b0_1 e2_b0_2 =>
        bif decide (e2_b0_2 < (0 : Int)) then
          F.ref03_Text.L7 n
            (fun e3_3 e3_b0_0 e3_b0_1 e3_b0_2 =>
              (sub e3_3 (0 : Int) (IntKind.wrap .i64 ((e3_3.length : Int) + e3_b0_2))).bind fun x4 =>
                bif decide (x4.length + 1 ≤ strMax) then
                  (sub e3_3 (IntKind.wrap .i64 ((e3_3.length : Int) + e3_b0_2)) (e3_3.length : Int)).bind fun x5 =>
                    bif decide (((x4 ++ ([46])).length) + x5.length ≤ strMax) then
                      bif e3_b0_0 then
                        bif decide (1 + (((x4 ++ ([46])) ++ x5).length) ≤ strMax) then
                          some (([45]) ++ ((x4 ++ ([46])) ++ x5))
                        else
                          none
                      else
                        some ((x4 ++ ([46])) ++ x5)
                    else
                      none
                else
                  none) n e2_3 e2_b0_0 e2_b0_1 e2_b0_2
        else
        bif e2_b0_0 then
          bif decide (1 + e2_3.length ≤ strMax) then
            some (([45]) ++ e2_3)
          else
            none
        else
          some (e2_3)) n y1 (0 : Int) a0.1 a0.2.1 a0.2.2.1
noncomputable def F.ref05_Digits.go (n : Nat) : Nat → (Int) → Option (List UInt8)
  | 0 => fun _ => none
  | m + 1 => fun a0 =>
    bif decide (a0 < (10 : Int)) then
      (sub ([48, 49, 50, 51, 52, 53, 54, 55, 56, 57]) a0 (IntKind.wrap .u64 (a0 + (1 : Int)))).bind fun x1 =>
        some (x1)
    else
      (F.ref05_Digits.go n m (IntKind.wrap .u64 (a0.tdiv (10 : Int)))).bind fun y2 =>
        (sub ([48, 49, 50, 51, 52, 53, 54, 55, 56, 57]) (a0.tmod (10 : Int)) (IntKind.wrap .u64 ((a0.tmod (10 : Int)) + (1 : Int)))).bind fun x3 =>
          bif decide (y2.length + x3.length ≤ strMax) then
            some (y2 ++ x3)
          else
            none
noncomputable def F.ref05_Digits (n : Nat) (a0 : Int) : Option (List UInt8) := F.ref05_Digits.go n n a0
noncomputable def F.ref05_Text (n : Nat) (a0 : Int) : Option (List UInt8) :=
  (F.ref05_Digits n (IntKind.wrap .u64 (a0))).bind fun y1 =>
    some (y1)
noncomputable def F.ref12_Line (n : Nat) (a0 : (List UInt8) × (Int) × (List ((Bool) × (Int) × (Int))) × (Int) × (List ((List UInt8) × (List UInt8))) × (Int) × Unit) : Option (List UInt8) :=
  bif decide (a0.1.length + 1 ≤ strMax) then
    (idx a0.2.2.1 (0 : Int)).bind fun x1 =>
      (F.ref03_Text n (x1.1, x1.2.1, x1.2.2, ())).bind fun y2 =>
        bif decide (((a0.1 ++ ([32])).length) + y2.length ≤ strMax) then
          bif decide ((((a0.1 ++ ([32])) ++ y2).length) + 1 ≤ strMax) then
            (F.ref05_Text n a0.2.2.2.2.2.1).bind fun y3 =>
              bif decide (((((a0.1 ++ ([32])) ++ y2) ++ ([32])).length) + y3.length ≤ strMax) then
                some ((((a0.1 ++ ([32])) ++ y2) ++ ([32])) ++ y3)
              else
                none
          else
            none
        else
          none
  else
    none
noncomputable def F.law12_GraphiteLines (n : Nat) (a0 : (List UInt8) × (Int) × (List ((Bool) × (Int) × (Int))) × (Int) × (List ((List UInt8) × (List UInt8))) × (Int) × Unit) : Option (Bool) :=
  (F.law10_Small n (a0.1, a0.2.1, a0.2.2.1, a0.2.2.2.1, a0.2.2.2.2.1, a0.2.2.2.2.2.1, ())).bind fun y1 =>
    bif !y1 then
      (F.law12_awake n ).bind fun y2 =>
        some (y2)
    else
      (F.graphite_Line n (a0.1, a0.2.1, a0.2.2.1, a0.2.2.2.1, a0.2.2.2.2.1, a0.2.2.2.2.2.1, ())).bind fun y3 =>
        (F.ref09_Metric n (a0.1, a0.2.1, a0.2.2.1, a0.2.2.2.1, a0.2.2.2.2.1, a0.2.2.2.2.2.1, ()) (3 : Int)).bind fun y4 =>
          bif !(y4 == (0 : Int)) then
            bif y3.1 == [] then
              bif y3.2.1 == y4 then
                (F.law12_awake n ).bind fun y5 =>
                  some (y5)
              else
                some (false)
            else
              some (false)
          else
            (F.ref12_Line n (a0.1, a0.2.1, a0.2.2.1, a0.2.2.2.1, a0.2.2.2.2.1, a0.2.2.2.2.2.1, ())).bind fun y6 =>
              bif y3.1 == y6 then
                bif y3.2.1 == (0 : Int) then
                  (F.law12_awake n ).bind fun y7 =>
                    some (y7)
                else
                  some (false)
              else
                some (false)
noncomputable def F.ref10_Find.L2.step {X : Type} (n : Nat) (rec : (List UInt8) → Int → Int → Option X) (k0 : (List UInt8) → Option X) (kr : Int → Option X) (v0 : List UInt8) (v2 : Int) (v7 : Int) : Option X :=
  bif decide (v7 < (v0.length : Int)) then
    (idx v0 v7).bind fun x1 =>
      bif ((x1).toNat) == v2 then
        kr v7
      else
        rec v0 v2 (IntKind.wrap .i64 (v7 + (1 : Int)))
  else
    k0 v0
noncomputable def F.ref10_Find.L2 {X : Type} (n : Nat) (k0 : (List UInt8) → Option X) (kr : Int → Option X) : Nat → (List UInt8) → Int → Int → Option X
  | 0 => fun _ _ _ => none
  | m + 1 => fun v0 v2 v7 => F.ref10_Find.L2.step n (F.ref10_Find.L2 n k0 kr m) k0 kr v0 v2 v7
noncomputable def F.ref10_Find (n : Nat) (a0 : List UInt8) (a1 : Int) (a2 : Int) : Option (Int) :=
  F.ref10_Find.L2 n
    (fun e2_0 =>
      some ((e2_0.length : Int)))
    (fun e3_6 =>
      some (e3_6)) n a0 a2 a1
noncomputable def F.ref10_Name (n : Nat) (a0 : List UInt8) : Option (Bool) :=
  (F.ref04_Text n (1 : Int) a0 (1 : Int) (200 : Int)).bind fun y1 =>
    some ((y1.1 == (0 : Int)) && (y1.2.1 == (0 : Int)))
noncomputable def F.ref12_wrong (n : Nat) (a0 : Int) (a1 : Int) : Option (((List UInt8) × (Int) × (List ((Bool) × (Int) × (Int))) × (Int) × (List ((List UInt8) × (List UInt8))) × (Int) × Unit) × ((Int) × (Int) × Unit) × Unit) :=
  some ((([], (0 : Int), [], (0 : Int), [], (0 : Int), ()), (a0, a1, ()), ()))
noncomputable def F.ref03_digit (n : Nat) (a0 : Int) : Option (Bool) :=
  bif decide (a0 ≥ (48 : Int)) then
    some (decide (a0 ≤ (57 : Int)))
  else
    some (false)
noncomputable def F.ref03_Parse.L8.step {X : Type} (n : Nat) (rec : (List UInt8) → Bool → Int → (List UInt8) → Int → Bool → Bool → Int → Int → Int → Int → Option X) (k0 : (List UInt8) → Bool → (List UInt8) → Int → Bool → Bool → Int → Int → Int → Int → Option X) (kr : Bool → Int → Int → Int → Int → Option X) (v0 : List UInt8) (v4 : Bool) (v5 : Int) (v6 : List UInt8) (v7 : Int) (v8 : Bool) (vb0_0 : Bool) (vb0_1 : Int) (vb0_2 : Int) (vb1_0 : Int) (vb1_1 : Int) : Option X :=
  bif decide (v5 < (v0.length : Int)) then
    (idx v0 v5).bind fun x2 =>
      (F.ref03_digit n ((x2).toNat)).bind fun y3 =>
        bif y3 then
          (sub v0 v5 (IntKind.wrap .i64 (v5 + (1 : Int)))).bind fun x4 =>
            bif decide (v6.length + x4.length ≤ strMax) then
              rec v0 v4 (IntKind.wrap .i64 (v5 + (1 : Int))) (v6 ++ x4) v7 false vb0_0 vb0_1 vb0_2 vb1_0 vb1_1
            else
              none
        else
          (idx v0 v5).bind fun x5 =>
            bif ((x5).toNat) == (46 : Int) then
              bif decide (v7 < (0 : Int)) then
                bif !v8 then
                  rec v0 v4 (IntKind.wrap .i64 (v5 + (1 : Int))) v6 (v6.length : Int) true vb0_0 vb0_1 vb0_2 vb1_0 vb1_1
                else
                  kr false (0 : Int) (0 : Int) (14 : Int) v5
              else
                kr false (0 : Int) (0 : Int) (14 : Int) v5
            else
              kr false (0 : Int) (0 : Int) (14 : Int) v5
  else
    k0 v0 v4 v6 v7 v8 vb0_0 vb0_1 vb0_2 vb1_0 vb1_1
noncomputable def F.ref03_Parse.L8 {X : Type} (n : Nat) (k0 : (List UInt8) → Bool → (List UInt8) → Int → Bool → Bool → Int → Int → Int → Int → Option X) (kr : Bool → Int → Int → Int → Int → Option X) : Nat → (List UInt8) → Bool → Int → (List UInt8) → Int → Bool → Bool → Int → Int → Int → Int → Option X
  | 0 => fun _ _ _ _ _ _ _ _ _ _ _ => none
  | m + 1 => fun v0 v4 v5 v6 v7 v8 vb0_0 vb0_1 vb0_2 vb1_0 vb1_1 => F.ref03_Parse.L8.step n (F.ref03_Parse.L8 n k0 kr m) k0 kr v0 v4 v5 v6 v7 v8 vb0_0 vb0_1 vb0_2 vb1_0 vb1_1
noncomputable def F.ref03_Parse (n : Nat) (a0 : List UInt8) : Option (((Bool) × (Int) × (Int) × Unit) × ((Int) × (Int) × Unit) × Unit) :=
  bif decide ((a0.length : Int) > (0 : Int)) then
    (idx a0 (0 : Int)).bind fun x1 =>
      bif ((x1).toNat) == (45 : Int) then
        F.ref03_Parse.L8 n
          (fun e6_0 e6_4 e6_6 e6_7 e6_8 e6_b0_0 e6_b0_1 e6_b0_2 e6_b1_0 e6_b1_1 =>
            bif e6_8 then
              some (((false, (0 : Int), (0 : Int), ()), ((11 : Int), (e6_0.length : Int), ()), ()))
            else
            bif decide (e6_7 ≥ (0 : Int)) then
              (F.ref03_Make n e6_4 e6_6 (IntKind.wrap .i64 (e6_7 - (e6_6.length : Int)))).bind fun y7 =>
                bif !y7.2.1 then
                  some (((false, (0 : Int), (0 : Int), ()), ((10 : Int), (0 : Int), ()), ()))
                else
                  some (((y7.1.1, y7.1.2.1, y7.1.2.2.1, ()), ((0 : Int), (0 : Int), ()), ()))
            else
              (F.ref03_Make n e6_4 e6_6 (0 : Int)).bind fun y8 =>
                bif !y8.2.1 then
                  some (((false, (0 : Int), (0 : Int), ()), ((10 : Int), (0 : Int), ()), ()))
                else
                  some (((y8.1.1, y8.1.2.1, y8.1.2.2.1, ()), ((0 : Int), (0 : Int), ()), ())))
          (fun e9_b0_0 e9_b0_1 e9_b0_2 e9_b1_0 e9_b1_1 =>
            some (((e9_b0_0, e9_b0_1, e9_b0_2, ()), (e9_b1_0, e9_b1_1, ()), ()))) n a0 (((x1).toNat) == (45 : Int)) (1 : Int) [] (-1 : Int) true false (0 : Int) (0 : Int) (0 : Int) (0 : Int)
      else
        F.ref03_Parse.L8 n
          (fun e10_0 e10_4 e10_6 e10_7 e10_8 e10_b0_0 e10_b0_1 e10_b0_2 e10_b1_0 e10_b1_1 =>
            bif e10_8 then
              some (((false, (0 : Int), (0 : Int), ()), ((11 : Int), (e10_0.length : Int), ()), ()))
            else
            bif decide (e10_7 ≥ (0 : Int)) then
              (F.ref03_Make n e10_4 e10_6 (IntKind.wrap .i64 (e10_7 - (e10_6.length : Int)))).bind fun y11 =>
                bif !y11.2.1 then
                  some (((false, (0 : Int), (0 : Int), ()), ((10 : Int), (0 : Int), ()), ()))
                else
                  some (((y11.1.1, y11.1.2.1, y11.1.2.2.1, ()), ((0 : Int), (0 : Int), ()), ()))
            else
              (F.ref03_Make n e10_4 e10_6 (0 : Int)).bind fun y12 =>
                bif !y12.2.1 then
                  some (((false, (0 : Int), (0 : Int), ()), ((10 : Int), (0 : Int), ()), ()))
                else
                  some (((y12.1.1, y12.1.2.1, y12.1.2.2.1, ()), ((0 : Int), (0 : Int), ()), ())))
          (fun e13_b0_0 e13_b0_1 e13_b0_2 e13_b1_0 e13_b1_1 =>
            some (((e13_b0_0, e13_b0_1, e13_b0_2, ()), (e13_b1_0, e13_b1_1, ()), ()))) n a0 (((x1).toNat) == (45 : Int)) (0 : Int) [] (-1 : Int) true false (0 : Int) (0 : Int) (0 : Int) (0 : Int)
  else
    F.ref03_Parse.L8 n
      (fun e14_0 e14_4 e14_6 e14_7 e14_8 e14_b0_0 e14_b0_1 e14_b0_2 e14_b1_0 e14_b1_1 =>
        bif e14_8 then
          some (((false, (0 : Int), (0 : Int), ()), ((11 : Int), (e14_0.length : Int), ()), ()))
        else
        bif decide (e14_7 ≥ (0 : Int)) then
          (F.ref03_Make n e14_4 e14_6 (IntKind.wrap .i64 (e14_7 - (e14_6.length : Int)))).bind fun y15 =>
            bif !y15.2.1 then
              some (((false, (0 : Int), (0 : Int), ()), ((10 : Int), (0 : Int), ()), ()))
            else
              some (((y15.1.1, y15.1.2.1, y15.1.2.2.1, ()), ((0 : Int), (0 : Int), ()), ()))
        else
          (F.ref03_Make n e14_4 e14_6 (0 : Int)).bind fun y16 =>
            bif !y16.2.1 then
              some (((false, (0 : Int), (0 : Int), ()), ((10 : Int), (0 : Int), ()), ()))
            else
              some (((y16.1.1, y16.1.2.1, y16.1.2.2.1, ()), ((0 : Int), (0 : Int), ()), ())))
      (fun e17_b0_0 e17_b0_1 e17_b0_2 e17_b1_0 e17_b1_1 =>
        some (((e17_b0_0, e17_b0_1, e17_b0_2, ()), (e17_b1_0, e17_b1_1, ()), ()))) n a0 false (0 : Int) [] (-1 : Int) true false (0 : Int) (0 : Int) (0 : Int) (0 : Int)
noncomputable def F.ref05_Value.L3.step {X : Type} (n : Nat) (rec : (List UInt8) → Int → Int → Option X) (k0 : Int → Option X) (kr : Int → Bool → Option X) (v0 : List UInt8) (v4 : Int) (v5 : Int) : Option X :=
  bif decide (v5 < (v0.length : Int)) then
    (idx v0 v5).bind fun x1 =>
      bif decide (v4 > (IntKind.wrap .i64 ((IntKind.wrap .i64 ((9223372036854775807 : Int) - (IntKind.wrap .i64 (IntKind.wrap .u8 (((x1).toNat) - (48 : Int)))))).tdiv (10 : Int)))) then
        kr (0 : Int) false
      else
        rec v0 (IntKind.wrap .i64 ((IntKind.wrap .i64 ((10 : Int) * v4)) + (IntKind.wrap .i64 (IntKind.wrap .u8 (((x1).toNat) - (48 : Int)))))) (IntKind.wrap .i64 (v5 + (1 : Int)))
  else
    k0 v4
noncomputable def F.ref05_Value.L3 {X : Type} (n : Nat) (k0 : Int → Option X) (kr : Int → Bool → Option X) : Nat → (List UInt8) → Int → Int → Option X
  | 0 => fun _ _ _ => none
  | m + 1 => fun v0 v4 v5 => F.ref05_Value.L3.step n (F.ref05_Value.L3 n k0 kr m) k0 kr v0 v4 v5
noncomputable def F.ref05_Value (n : Nat) (a0 : List UInt8) : Option ((Int) × (Bool) × Unit) :=
  F.ref05_Value.L3 n
    (fun e2_4 =>
      some ((e2_4, true, ())))
    (fun e3_2 e3_3 =>
      some ((e3_2, e3_3, ()))) n a0 (0 : Int) (0 : Int)
noncomputable def F.ref05_Parse (n : Nat) (a0 : List UInt8) (a1 : Int) (a2 : Int) : Option ((Int) × ((Int) × (Int) × Unit) × Unit) :=
  bif a0 == [] then
    some (((0 : Int), ((13 : Int), (0 : Int), ()), ()))
  else
    (F.ref04_Bad n (4 : Int) a0).bind fun y1 =>
      bif decide (y1 ≥ (0 : Int)) then
        some (((0 : Int), ((14 : Int), y1, ()), ()))
      else
        (idx a0 (0 : Int)).bind fun x2 =>
          bif ((x2).toNat) == (48 : Int) then
            bif decide ((a0.length : Int) > (1 : Int)) then
              some (((0 : Int), ((11 : Int), (0 : Int), ()), ()))
            else
              (F.ref05_Value n a0).bind fun y3 =>
                bif !y3.2.1 then
                  some (((0 : Int), ((10 : Int), (0 : Int), ()), ()))
                else
                bif decide (y3.1 < a1) then
                  some (((0 : Int), ((10 : Int), (0 : Int), ()), ()))
                else
                bif decide (y3.1 > a2) then
                  some (((0 : Int), ((10 : Int), (0 : Int), ()), ()))
                else
                  some ((y3.1, ((0 : Int), (0 : Int), ()), ()))
          else
            (F.ref05_Value n a0).bind fun y4 =>
              bif !y4.2.1 then
                some (((0 : Int), ((10 : Int), (0 : Int), ()), ()))
              else
              bif decide (y4.1 < a1) then
                some (((0 : Int), ((10 : Int), (0 : Int), ()), ()))
              else
              bif decide (y4.1 > a2) then
                some (((0 : Int), ((10 : Int), (0 : Int), ()), ()))
              else
                some ((y4.1, ((0 : Int), (0 : Int), ()), ()))
noncomputable def F.ref05_Time (n : Nat) (a0 : List UInt8) : Option ((Int) × ((Int) × (Int) × Unit) × Unit) :=
  (F.ref05_Parse n a0 (1 : Int) (1099511627776 : Int)).bind fun y1 =>
    some ((y1.1, (y1.2.1.1, y1.2.1.2.1, ()), ()))
noncomputable def F.ref12_Parse (n : Nat) (a0 : List UInt8) : Option (((List UInt8) × (Int) × (List ((Bool) × (Int) × (Int))) × (Int) × (List ((List UInt8) × (List UInt8))) × (Int) × Unit) × ((Int) × (Int) × Unit) × Unit) :=
  (F.ref10_Find n a0 (0 : Int) (32 : Int)).bind fun y1 =>
    (sub a0 (0 : Int) y1).bind fun x2 =>
      (F.ref10_Name n x2).bind fun y3 =>
        bif !y3 then
          (F.ref12_wrong n (15 : Int) (0 : Int)).bind fun y4 =>
            some (((y4.1.1, y4.1.2.1, y4.1.2.2.1, y4.1.2.2.2.1, y4.1.2.2.2.2.1, y4.1.2.2.2.2.2.1, ()), (y4.2.1.1, y4.2.1.2.1, ()), ()))
        else
        bif y1 == (a0.length : Int) then
          (F.ref12_wrong n (11 : Int) y1).bind fun y5 =>
            some (((y5.1.1, y5.1.2.1, y5.1.2.2.1, y5.1.2.2.2.1, y5.1.2.2.2.2.1, y5.1.2.2.2.2.2.1, ()), (y5.2.1.1, y5.2.1.2.1, ()), ()))
        else
          (F.ref10_Find n a0 (IntKind.wrap .i64 (y1 + (1 : Int))) (32 : Int)).bind fun y6 =>
            (sub a0 (IntKind.wrap .i64 (y1 + (1 : Int))) y6).bind fun x7 =>
              (F.ref03_Parse n x7).bind fun y8 =>
                bif !(y8.2.1.1 == (0 : Int)) then
                  (F.ref12_wrong n (17 : Int) (IntKind.wrap .i64 (y1 + (1 : Int)))).bind fun y9 =>
                    some (((y9.1.1, y9.1.2.1, y9.1.2.2.1, y9.1.2.2.2.1, y9.1.2.2.2.2.1, y9.1.2.2.2.2.2.1, ()), (y9.2.1.1, y9.2.1.2.1, ()), ()))
                else
                bif y6 == (a0.length : Int) then
                  (F.ref12_wrong n (11 : Int) y6).bind fun y10 =>
                    some (((y10.1.1, y10.1.2.1, y10.1.2.2.1, y10.1.2.2.2.1, y10.1.2.2.2.2.1, y10.1.2.2.2.2.2.1, ()), (y10.2.1.1, y10.2.1.2.1, ()), ()))
                else
                  (F.ref10_Find n a0 (IntKind.wrap .i64 (y6 + (1 : Int))) (32 : Int)).bind fun y11 =>
                    (sub a0 (IntKind.wrap .i64 (y6 + (1 : Int))) y11).bind fun x12 =>
                      (F.ref05_Time n x12).bind fun y13 =>
                        bif !(y13.2.1.1 == (0 : Int)) then
                          (F.ref12_wrong n (20 : Int) (IntKind.wrap .i64 (y6 + (1 : Int)))).bind fun y14 =>
                            some (((y14.1.1, y14.1.2.1, y14.1.2.2.1, y14.1.2.2.2.1, y14.1.2.2.2.2.1, y14.1.2.2.2.2.2.1, ()), (y14.2.1.1, y14.2.1.2.1, ()), ()))
                        else
                        bif decide (y11 < (a0.length : Int)) then
                          (F.ref12_wrong n (11 : Int) y11).bind fun y15 =>
                            some (((y15.1.1, y15.1.2.1, y15.1.2.2.1, y15.1.2.2.2.1, y15.1.2.2.2.2.1, y15.1.2.2.2.2.2.1, ()), (y15.2.1.1, y15.2.1.2.1, ()), ()))
                        else
                          (sub a0 (0 : Int) y1).bind fun x16 =>
                            some (((x16, (2 : Int), [(y8.1.1, y8.1.2.1, y8.1.2.2.1)], (1000000 : Int), [], y13.1, ()), ((0 : Int), (0 : Int), ()), ()))
noncomputable def F.ref07_Equal.L4.step {X : Type} (n : Nat) (rec : Int → (List UInt8) → Int → (List ((Bool) × (Int) × (Int))) → Int → (List ((List UInt8) × (List UInt8))) → Int → (List UInt8) → Int → (List ((Bool) × (Int) × (Int))) → Int → (List ((List UInt8) × (List UInt8))) → Int → Option X) (k0 : (List UInt8) → Int → (List ((Bool) × (Int) × (Int))) → Int → (List ((List UInt8) × (List UInt8))) → Int → (List UInt8) → Int → (List ((Bool) × (Int) × (Int))) → Int → (List ((List UInt8) × (List UInt8))) → Int → Option X) (kr : Bool → (List UInt8) → Int → (List ((Bool) × (Int) × (Int))) → Int → (List ((List UInt8) × (List UInt8))) → Int → (List UInt8) → Int → (List ((Bool) × (Int) × (Int))) → Int → (List ((List UInt8) × (List UInt8))) → Int → Option X) (v5 : Int) (vb0_0 : List UInt8) (vb0_1 : Int) (vb0_2 : List ((Bool) × (Int) × (Int))) (vb0_3 : Int) (vb0_4 : List ((List UInt8) × (List UInt8))) (vb0_5 : Int) (vb1_0 : List UInt8) (vb1_1 : Int) (vb1_2 : List ((Bool) × (Int) × (Int))) (vb1_3 : Int) (vb1_4 : List ((List UInt8) × (List UInt8))) (vb1_5 : Int) : Option X :=
  bif decide (v5 < (vb0_2.length : Int)) then
    (idx vb0_2 v5).bind fun x1 =>
      (idx vb1_2 v5).bind fun x2 =>
        bif !((x1.1 == x2.1) && ((x1.2.1 == x2.2.1) && (x1.2.2 == x2.2.2))) then
          kr false vb0_0 vb0_1 vb0_2 vb0_3 vb0_4 vb0_5 vb1_0 vb1_1 vb1_2 vb1_3 vb1_4 vb1_5
        else
          rec (IntKind.wrap .i64 (v5 + (1 : Int))) vb0_0 vb0_1 vb0_2 vb0_3 vb0_4 vb0_5 vb1_0 vb1_1 vb1_2 vb1_3 vb1_4 vb1_5
  else
    k0 vb0_0 vb0_1 vb0_2 vb0_3 vb0_4 vb0_5 vb1_0 vb1_1 vb1_2 vb1_3 vb1_4 vb1_5
noncomputable def F.ref07_Equal.L4 {X : Type} (n : Nat) (k0 : (List UInt8) → Int → (List ((Bool) × (Int) × (Int))) → Int → (List ((List UInt8) × (List UInt8))) → Int → (List UInt8) → Int → (List ((Bool) × (Int) × (Int))) → Int → (List ((List UInt8) × (List UInt8))) → Int → Option X) (kr : Bool → (List UInt8) → Int → (List ((Bool) × (Int) × (Int))) → Int → (List ((List UInt8) × (List UInt8))) → Int → (List UInt8) → Int → (List ((Bool) × (Int) × (Int))) → Int → (List ((List UInt8) × (List UInt8))) → Int → Option X) : Nat → Int → (List UInt8) → Int → (List ((Bool) × (Int) × (Int))) → Int → (List ((List UInt8) × (List UInt8))) → Int → (List UInt8) → Int → (List ((Bool) × (Int) × (Int))) → Int → (List ((List UInt8) × (List UInt8))) → Int → Option X
  | 0 => fun _ _ _ _ _ _ _ _ _ _ _ _ _ => none
  | m + 1 => fun v5 vb0_0 vb0_1 vb0_2 vb0_3 vb0_4 vb0_5 vb1_0 vb1_1 vb1_2 vb1_3 vb1_4 vb1_5 => F.ref07_Equal.L4.step n (F.ref07_Equal.L4 n k0 kr m) k0 kr v5 vb0_0 vb0_1 vb0_2 vb0_3 vb0_4 vb0_5 vb1_0 vb1_1 vb1_2 vb1_3 vb1_4 vb1_5
noncomputable def F.ref07_Equal.L9.step {X : Type} (n : Nat) (rec : Int → (List UInt8) → Int → (List ((Bool) × (Int) × (Int))) → Int → (List ((List UInt8) × (List UInt8))) → Int → (List UInt8) → Int → (List ((Bool) × (Int) × (Int))) → Int → (List ((List UInt8) × (List UInt8))) → Int → Option X) (k2 : (List UInt8) → Int → (List ((Bool) × (Int) × (Int))) → Int → (List ((List UInt8) × (List UInt8))) → Int → (List UInt8) → Int → (List ((Bool) × (Int) × (Int))) → Int → (List ((List UInt8) × (List UInt8))) → Int → Option X) (kr : Bool → (List UInt8) → Int → (List ((Bool) × (Int) × (Int))) → Int → (List ((List UInt8) × (List UInt8))) → Int → (List UInt8) → Int → (List ((Bool) × (Int) × (Int))) → Int → (List ((List UInt8) × (List UInt8))) → Int → Option X) (v6 : Int) (vb0_0 : List UInt8) (vb0_1 : Int) (vb0_2 : List ((Bool) × (Int) × (Int))) (vb0_3 : Int) (vb0_4 : List ((List UInt8) × (List UInt8))) (vb0_5 : Int) (vb1_0 : List UInt8) (vb1_1 : Int) (vb1_2 : List ((Bool) × (Int) × (Int))) (vb1_3 : Int) (vb1_4 : List ((List UInt8) × (List UInt8))) (vb1_5 : Int) : Option X :=
  bif decide (v6 < (vb0_4.length : Int)) then
    (idx vb0_4 v6).bind fun x4 =>
      (idx vb1_4 v6).bind fun x5 =>
        bif !((x4.1 == x5.1) && (x4.2 == x5.2)) then
          kr false vb0_0 vb0_1 vb0_2 vb0_3 vb0_4 vb0_5 vb1_0 vb1_1 vb1_2 vb1_3 vb1_4 vb1_5
        else
          rec (IntKind.wrap .i64 (v6 + (1 : Int))) vb0_0 vb0_1 vb0_2 vb0_3 vb0_4 vb0_5 vb1_0 vb1_1 vb1_2 vb1_3 vb1_4 vb1_5
  else
    k2 vb0_0 vb0_1 vb0_2 vb0_3 vb0_4 vb0_5 vb1_0 vb1_1 vb1_2 vb1_3 vb1_4 vb1_5
noncomputable def F.ref07_Equal.L9 {X : Type} (n : Nat) (k2 : (List UInt8) → Int → (List ((Bool) × (Int) × (Int))) → Int → (List ((List UInt8) × (List UInt8))) → Int → (List UInt8) → Int → (List ((Bool) × (Int) × (Int))) → Int → (List ((List UInt8) × (List UInt8))) → Int → Option X) (kr : Bool → (List UInt8) → Int → (List ((Bool) × (Int) × (Int))) → Int → (List ((List UInt8) × (List UInt8))) → Int → (List UInt8) → Int → (List ((Bool) × (Int) × (Int))) → Int → (List ((List UInt8) × (List UInt8))) → Int → Option X) : Nat → Int → (List UInt8) → Int → (List ((Bool) × (Int) × (Int))) → Int → (List ((List UInt8) × (List UInt8))) → Int → (List UInt8) → Int → (List ((Bool) × (Int) × (Int))) → Int → (List ((List UInt8) × (List UInt8))) → Int → Option X
  | 0 => fun _ _ _ _ _ _ _ _ _ _ _ _ _ => none
  | m + 1 => fun v6 vb0_0 vb0_1 vb0_2 vb0_3 vb0_4 vb0_5 vb1_0 vb1_1 vb1_2 vb1_3 vb1_4 vb1_5 => F.ref07_Equal.L9.step n (F.ref07_Equal.L9 n k2 kr m) k2 kr v6 vb0_0 vb0_1 vb0_2 vb0_3 vb0_4 vb0_5 vb1_0 vb1_1 vb1_2 vb1_3 vb1_4 vb1_5
noncomputable def F.ref07_Equal (n : Nat) (a0 : (List UInt8) × (Int) × (List ((Bool) × (Int) × (Int))) × (Int) × (List ((List UInt8) × (List UInt8))) × (Int) × Unit) (a1 : (List UInt8) × (Int) × (List ((Bool) × (Int) × (Int))) × (Int) × (List ((List UInt8) × (List UInt8))) × (Int) × Unit) : Option (Bool) :=
  bif !(a0.1 == a1.1) then
    some (false)
  else
  bif !(a0.2.1 == a1.2.1) then
    some (false)
  else
  bif !(a0.2.2.2.1 == a1.2.2.2.1) then
    some (false)
  else
  bif !(a0.2.2.2.2.2.1 == a1.2.2.2.2.2.1) then
    some (false)
  else
  bif !((a0.2.2.1.length : Int) == (a1.2.2.1.length : Int)) then
    some (false)
  else
  bif !((a0.2.2.2.2.1.length : Int) == (a1.2.2.2.2.1.length : Int)) then
    some (false)
  else
    F.ref07_Equal.L4 n
      (fun e3_b0_0 e3_b0_1 e3_b0_2 e3_b0_3 e3_b0_4 e3_b0_5 e3_b1_0 e3_b1_1 e3_b1_2 e3_b1_3 e3_b1_4 e3_b1_5 =>
        F.ref07_Equal.L9 n
          (fun e6_b0_0 e6_b0_1 e6_b0_2 e6_b0_3 e6_b0_4 e6_b0_5 e6_b1_0 e6_b1_1 e6_b1_2 e6_b1_3 e6_b1_4 e6_b1_5 =>
            some (true))
          (fun e7_4 e7_b0_0 e7_b0_1 e7_b0_2 e7_b0_3 e7_b0_4 e7_b0_5 e7_b1_0 e7_b1_1 e7_b1_2 e7_b1_3 e7_b1_4 e7_b1_5 =>
            some (e7_4)) n (0 : Int) e3_b0_0 e3_b0_1 e3_b0_2 e3_b0_3 e3_b0_4 e3_b0_5 e3_b1_0 e3_b1_1 e3_b1_2 e3_b1_3 e3_b1_4 e3_b1_5)
      (fun e8_4 e8_b0_0 e8_b0_1 e8_b0_2 e8_b0_3 e8_b0_4 e8_b0_5 e8_b1_0 e8_b1_1 e8_b1_2 e8_b1_3 e8_b1_4 e8_b1_5 =>
        some (e8_4)) n (0 : Int) a0.1 a0.2.1 a0.2.2.1 a0.2.2.2.1 a0.2.2.2.2.1 a0.2.2.2.2.2.1 a1.1 a1.2.1 a1.2.2.1 a1.2.2.2.1 a1.2.2.2.2.1 a1.2.2.2.2.2.1
noncomputable def F.law12_GraphiteParses (n : Nat) (a0 : List UInt8) : Option (Bool) :=
  bif decide ((a0.length : Int) > (600 : Int)) then
    (F.law12_awake n ).bind fun y1 =>
      some (y1)
  else
    (F.graphite_Parse n a0).bind fun y2 =>
      (F.ref12_Parse n a0).bind fun y3 =>
        (F.ref07_Equal n (y2.1.1, y2.1.2.1, y2.1.2.2.1, y2.1.2.2.2.1, y2.1.2.2.2.2.1, y2.1.2.2.2.2.2.1, ()) (y3.1.1, y3.1.2.1, y3.1.2.2.1, y3.1.2.2.2.1, y3.1.2.2.2.2.1, y3.1.2.2.2.2.2.1, ())).bind fun y4 =>
          bif y4 then
            bif (y2.2.1.1 == y3.2.1.1) && (y2.2.1.2.1 == y3.2.1.2.1) then
              (F.law12_awake n ).bind fun y5 =>
                some (y5)
            else
              some (false)
          else
            some (false)
noncomputable def F.law12_GraphiteCut (n : Nat) (a0 : (List UInt8) × (Int) × (List ((Bool) × (Int) × (Int))) × (Int) × (List ((List UInt8) × (List UInt8))) × (Int) × Unit) (a1 : Int) (a2 : List UInt8) : Option (Bool) :=
  (F.law10_Small n (a0.1, a0.2.1, a0.2.2.1, a0.2.2.2.1, a0.2.2.2.2.1, a0.2.2.2.2.2.1, ())).bind fun y1 =>
    bif !y1 then
      (F.law12_awake n ).bind fun y2 =>
        some (y2)
    else
    bif decide ((a2.length : Int) > (100 : Int)) then
      (F.law12_awake n ).bind fun y3 =>
        some (y3)
    else
      (F.graphite_Line n (a0.1, a0.2.1, a0.2.2.1, a0.2.2.2.1, a0.2.2.2.2.1, a0.2.2.2.2.2.1, ())).bind fun y4 =>
        bif !(y4.2.1 == (0 : Int)) then
          bif y4.1 == [] then
            (F.law12_awake n ).bind fun y5 =>
              some (y5)
          else
            some (false)
        else
        bif decide (y4.1.length + 1 ≤ strMax) then
          bif decide (((y4.1 ++ ([32])).length) + a2.length ≤ strMax) then
            (F.graphite_Parse n ((y4.1 ++ ([32])) ++ a2)).bind fun y6 =>
              bif !((y6.2.1.1 == (11 : Int)) && (y6.2.1.2.1 == (y4.1.length : Int))) then
                some (false)
              else
              bif decide (a1 < (0 : Int)) then
                (F.law12_awake n ).bind fun y7 =>
                  some (y7)
              else
              bif decide (a1 ≥ (y4.1.length : Int)) then
                (F.law12_awake n ).bind fun y8 =>
                  some (y8)
              else
                (sub y4.1 (0 : Int) a1).bind fun x9 =>
                  (F.graphite_Parse n x9).bind fun y10 =>
                    bif (y10.2.1.1 == (0 : Int)) && (y10.2.1.2.1 == (0 : Int)) then
                      bif decide (y10.1.2.2.2.2.2.1 ≥ a0.2.2.2.2.2.1) then
                        some (false)
                      else
                      bif !(y10.1.1 == a0.1) then
                        some (false)
                      else
                      bif !((y10.2.1.1 == (0 : Int)) && (y10.2.1.2.1 == (0 : Int))) then
                        bif decide (y10.2.1.2.1 > a1) then
                          some (false)
                        else
                          (sub y4.1 (0 : Int) a1).bind fun x11 =>
                            bif decide (x11.length + 1 ≤ strMax) then
                              (sub y4.1 a1 (y4.1.length : Int)).bind fun x12 =>
                                bif decide (((x11 ++ ([32])).length) + x12.length ≤ strMax) then
                                  (F.graphite_Parse n ((x11 ++ ([32])) ++ x12)).bind fun y13 =>
                                    bif !((y13.2.1.1 == (0 : Int)) && (y13.2.1.2.1 == (0 : Int))) then
                                      (F.law12_awake n ).bind fun y14 =>
                                        some (y14)
                                    else
                                      some (false)
                                else
                                  none
                            else
                              none
                      else
                        (sub y4.1 (0 : Int) a1).bind fun x15 =>
                          bif decide (x15.length + 1 ≤ strMax) then
                            (sub y4.1 a1 (y4.1.length : Int)).bind fun x16 =>
                              bif decide (((x15 ++ ([32])).length) + x16.length ≤ strMax) then
                                (F.graphite_Parse n ((x15 ++ ([32])) ++ x16)).bind fun y17 =>
                                  bif !((y17.2.1.1 == (0 : Int)) && (y17.2.1.2.1 == (0 : Int))) then
                                    (F.law12_awake n ).bind fun y18 =>
                                      some (y18)
                                  else
                                    some (false)
                              else
                                none
                          else
                            none
                    else
                    bif !((y10.2.1.1 == (0 : Int)) && (y10.2.1.2.1 == (0 : Int))) then
                      bif decide (y10.2.1.2.1 > a1) then
                        some (false)
                      else
                        (sub y4.1 (0 : Int) a1).bind fun x19 =>
                          bif decide (x19.length + 1 ≤ strMax) then
                            (sub y4.1 a1 (y4.1.length : Int)).bind fun x20 =>
                              bif decide (((x19 ++ ([32])).length) + x20.length ≤ strMax) then
                                (F.graphite_Parse n ((x19 ++ ([32])) ++ x20)).bind fun y21 =>
                                  bif !((y21.2.1.1 == (0 : Int)) && (y21.2.1.2.1 == (0 : Int))) then
                                    (F.law12_awake n ).bind fun y22 =>
                                      some (y22)
                                  else
                                    some (false)
                              else
                                none
                          else
                            none
                    else
                      (sub y4.1 (0 : Int) a1).bind fun x23 =>
                        bif decide (x23.length + 1 ≤ strMax) then
                          (sub y4.1 a1 (y4.1.length : Int)).bind fun x24 =>
                            bif decide (((x23 ++ ([32])).length) + x24.length ≤ strMax) then
                              (F.graphite_Parse n ((x23 ++ ([32])) ++ x24)).bind fun y25 =>
                                bif !((y25.2.1.1 == (0 : Int)) && (y25.2.1.2.1 == (0 : Int))) then
                                  (F.law12_awake n ).bind fun y26 =>
                                    some (y26)
                                else
                                  some (false)
                            else
                              none
                        else
                          none
          else
            none
        else
          none
noncomputable def F.slices_Equal_api_Dec_api_Dec.L4.step {X : Type} (n : Nat) (rec : (List ((Bool) × (Int) × (Int))) → (List ((Bool) × (Int) × (Int))) → Int → Int → Option X) (k0 : Unit → Option X) (kr : Bool → Option X) (v0 : List ((Bool) × (Int) × (Int))) (v1 : List ((Bool) × (Int) × (Int))) (v12 : Int) (v13 : Int) : Option X :=
  bif decide (v13 < v12) then
    (idx v0 v13).bind fun x1 =>
      (idx v1 v13).bind fun x2 =>
        bif !((x1.1 == x2.1) && ((x1.2.1 == x2.2.1) && (x1.2.2 == x2.2.2))) then
          kr false
        else
          rec v0 v1 v12 (IntKind.wrap .i64 (v13 + (1 : Int)))
  else
    k0 ()
noncomputable def F.slices_Equal_api_Dec_api_Dec.L4 {X : Type} (n : Nat) (k0 : Unit → Option X) (kr : Bool → Option X) : Nat → (List ((Bool) × (Int) × (Int))) → (List ((Bool) × (Int) × (Int))) → Int → Int → Option X
  | 0 => fun _ _ _ _ => none
  | m + 1 => fun v0 v1 v12 v13 => F.slices_Equal_api_Dec_api_Dec.L4.step n (F.slices_Equal_api_Dec_api_Dec.L4 n k0 kr m) k0 kr v0 v1 v12 v13
noncomputable def F.slices_Equal_api_Dec_api_Dec (n : Nat) (a0 : List ((Bool) × (Int) × (Int))) (a1 : List ((Bool) × (Int) × (Int))) : Option (Bool) :=
  bif !((a0.length : Int) == (a1.length : Int)) then
    some (false)
  else
    F.slices_Equal_api_Dec_api_Dec.L4 n
      (fun (_ : Unit) =>
        some (true))
      (fun e4_4 =>
        some (e4_4)) n a0 a1 (a0.length : Int) (0 : Int)
noncomputable def F.metric_equal_api_Dec (n : Nat) (a0 : List ((Bool) × (Int) × (Int))) (a1 : List ((Bool) × (Int) × (Int))) : Option (Bool) :=
  (F.slices_Equal_api_Dec_api_Dec n a0 a1).bind fun y1 =>
    some (y1)
noncomputable def F.slices_Equal_api_Tag_api_Tag.L4.step {X : Type} (n : Nat) (rec : (List ((List UInt8) × (List UInt8))) → (List ((List UInt8) × (List UInt8))) → Int → Int → Option X) (k0 : Unit → Option X) (kr : Bool → Option X) (v0 : List ((List UInt8) × (List UInt8))) (v1 : List ((List UInt8) × (List UInt8))) (v12 : Int) (v13 : Int) : Option X :=
  bif decide (v13 < v12) then
    (idx v0 v13).bind fun x1 =>
      (idx v1 v13).bind fun x2 =>
        bif !((x1.1 == x2.1) && (x1.2 == x2.2)) then
          kr false
        else
          rec v0 v1 v12 (IntKind.wrap .i64 (v13 + (1 : Int)))
  else
    k0 ()
noncomputable def F.slices_Equal_api_Tag_api_Tag.L4 {X : Type} (n : Nat) (k0 : Unit → Option X) (kr : Bool → Option X) : Nat → (List ((List UInt8) × (List UInt8))) → (List ((List UInt8) × (List UInt8))) → Int → Int → Option X
  | 0 => fun _ _ _ _ => none
  | m + 1 => fun v0 v1 v12 v13 => F.slices_Equal_api_Tag_api_Tag.L4.step n (F.slices_Equal_api_Tag_api_Tag.L4 n k0 kr m) k0 kr v0 v1 v12 v13
noncomputable def F.slices_Equal_api_Tag_api_Tag (n : Nat) (a0 : List ((List UInt8) × (List UInt8))) (a1 : List ((List UInt8) × (List UInt8))) : Option (Bool) :=
  bif !((a0.length : Int) == (a1.length : Int)) then
    some (false)
  else
    F.slices_Equal_api_Tag_api_Tag.L4 n
      (fun (_ : Unit) =>
        some (true))
      (fun e4_4 =>
        some (e4_4)) n a0 a1 (a0.length : Int) (0 : Int)
noncomputable def F.metric_equal_api_Tag (n : Nat) (a0 : List ((List UInt8) × (List UInt8))) (a1 : List ((List UInt8) × (List UInt8))) : Option (Bool) :=
  (F.slices_Equal_api_Tag_api_Tag n a0 a1).bind fun y1 =>
    some (y1)
noncomputable def F.metric_Equal (n : Nat) (a0 : (List UInt8) × (Int) × (List ((Bool) × (Int) × (Int))) × (Int) × (List ((List UInt8) × (List UInt8))) × (Int) × Unit) (a1 : (List UInt8) × (Int) × (List ((Bool) × (Int) × (Int))) × (Int) × (List ((List UInt8) × (List UInt8))) × (Int) × Unit) : Option (Bool) :=
  bif a0.1 == a1.1 then
    bif a0.2.1 == a1.2.1 then
      bif a0.2.2.2.1 == a1.2.2.2.1 then
        bif a0.2.2.2.2.2.1 == a1.2.2.2.2.2.1 then
          (F.metric_equal_api_Dec n a0.2.2.1 a1.2.2.1).bind fun y1 =>
            bif y1 then
              (F.metric_equal_api_Tag n a0.2.2.2.2.1 a1.2.2.2.2.1).bind fun y2 =>
                some (y2)
            else
              some (false)
        else
          some (false)
      else
        some (false)
    else
      some (false)
  else
    some (false)
noncomputable def F.law12_GraphiteParts.L7.step {X : Type} (n : Nat) (rec : Int → Int → (List UInt8) → (List UInt8) → (List UInt8) → Option X) (k2 : Int → (List UInt8) → (List UInt8) → (List UInt8) → Option X) (kr : Bool → (List UInt8) → (List UInt8) → (List UInt8) → Option X) (v3 : Int) (v4 : Int) (vb0_0 : List UInt8) (vb0_1 : List UInt8) (vb0_2 : List UInt8) : Option X :=
  bif v3 == (0 : Int) then
    bif decide (v4 < (vb0_0.length : Int)) then
      bif v3 == (0 : Int) then
        (idx vb0_0 v4).bind fun x2 =>
          bif ((x2).toNat) == (32 : Int) then
            (F.law12_awake n ).bind fun y3 =>
              kr y3 vb0_0 vb0_1 vb0_2
          else
            rec v3 (IntKind.wrap .i64 (v4 + (1 : Int))) vb0_0 vb0_1 vb0_2
      else
      bif v3 == (1 : Int) then
        (idx vb0_1 v4).bind fun x4 =>
          bif ((x4).toNat) == (32 : Int) then
            (F.law12_awake n ).bind fun y5 =>
              kr y5 vb0_0 vb0_1 vb0_2
          else
            rec v3 (IntKind.wrap .i64 (v4 + (1 : Int))) vb0_0 vb0_1 vb0_2
      else
      bif v3 == (2 : Int) then
        (idx vb0_2 v4).bind fun x6 =>
          bif ((x6).toNat) == (32 : Int) then
            (F.law12_awake n ).bind fun y7 =>
              kr y7 vb0_0 vb0_1 vb0_2
          else
            rec v3 (IntKind.wrap .i64 (v4 + (1 : Int))) vb0_0 vb0_1 vb0_2
      else
        none
    else
      k2 v3 vb0_0 vb0_1 vb0_2
  else
  bif v3 == (1 : Int) then
    bif decide (v4 < (vb0_1.length : Int)) then
      bif v3 == (0 : Int) then
        (idx vb0_0 v4).bind fun x8 =>
          bif ((x8).toNat) == (32 : Int) then
            (F.law12_awake n ).bind fun y9 =>
              kr y9 vb0_0 vb0_1 vb0_2
          else
            rec v3 (IntKind.wrap .i64 (v4 + (1 : Int))) vb0_0 vb0_1 vb0_2
      else
      bif v3 == (1 : Int) then
        (idx vb0_1 v4).bind fun x10 =>
          bif ((x10).toNat) == (32 : Int) then
            (F.law12_awake n ).bind fun y11 =>
              kr y11 vb0_0 vb0_1 vb0_2
          else
            rec v3 (IntKind.wrap .i64 (v4 + (1 : Int))) vb0_0 vb0_1 vb0_2
      else
      bif v3 == (2 : Int) then
        (idx vb0_2 v4).bind fun x12 =>
          bif ((x12).toNat) == (32 : Int) then
            (F.law12_awake n ).bind fun y13 =>
              kr y13 vb0_0 vb0_1 vb0_2
          else
            rec v3 (IntKind.wrap .i64 (v4 + (1 : Int))) vb0_0 vb0_1 vb0_2
      else
        none
    else
      k2 v3 vb0_0 vb0_1 vb0_2
  else
  bif v3 == (2 : Int) then
    bif decide (v4 < (vb0_2.length : Int)) then
      bif v3 == (0 : Int) then
        (idx vb0_0 v4).bind fun x14 =>
          bif ((x14).toNat) == (32 : Int) then
            (F.law12_awake n ).bind fun y15 =>
              kr y15 vb0_0 vb0_1 vb0_2
          else
            rec v3 (IntKind.wrap .i64 (v4 + (1 : Int))) vb0_0 vb0_1 vb0_2
      else
      bif v3 == (1 : Int) then
        (idx vb0_1 v4).bind fun x16 =>
          bif ((x16).toNat) == (32 : Int) then
            (F.law12_awake n ).bind fun y17 =>
              kr y17 vb0_0 vb0_1 vb0_2
          else
            rec v3 (IntKind.wrap .i64 (v4 + (1 : Int))) vb0_0 vb0_1 vb0_2
      else
      bif v3 == (2 : Int) then
        (idx vb0_2 v4).bind fun x18 =>
          bif ((x18).toNat) == (32 : Int) then
            (F.law12_awake n ).bind fun y19 =>
              kr y19 vb0_0 vb0_1 vb0_2
          else
            rec v3 (IntKind.wrap .i64 (v4 + (1 : Int))) vb0_0 vb0_1 vb0_2
      else
        none
    else
      k2 v3 vb0_0 vb0_1 vb0_2
  else
    none
noncomputable def F.law12_GraphiteParts.L7 {X : Type} (n : Nat) (k2 : Int → (List UInt8) → (List UInt8) → (List UInt8) → Option X) (kr : Bool → (List UInt8) → (List UInt8) → (List UInt8) → Option X) : Nat → Int → Int → (List UInt8) → (List UInt8) → (List UInt8) → Option X
  | 0 => fun _ _ _ _ _ => none
  | m + 1 => fun v3 v4 vb0_0 vb0_1 vb0_2 => F.law12_GraphiteParts.L7.step n (F.law12_GraphiteParts.L7 n k2 kr m) k2 kr v3 v4 vb0_0 vb0_1 vb0_2
noncomputable def F.law12_GraphiteParts.L2.step {X : Type} (n : Nat) (rec : Int → (List UInt8) → (List UInt8) → (List UInt8) → Option X) (k0 : (List UInt8) → (List UInt8) → (List UInt8) → Option X) (kr : Bool → (List UInt8) → (List UInt8) → (List UInt8) → Option X) (v3 : Int) (vb0_0 : List UInt8) (vb0_1 : List UInt8) (vb0_2 : List UInt8) : Option X :=
  bif decide (v3 < (3 : Int)) then
    bif v3 == (0 : Int) then
      bif decide ((vb0_0.length : Int) > (250 : Int)) then
        (F.law12_awake n ).bind fun y1 =>
          kr y1 vb0_0 vb0_1 vb0_2
      else
        F.law12_GraphiteParts.L7 n
          (fun e20_3 e20_b0_0 e20_b0_1 e20_b0_2 =>
            rec (IntKind.wrap .i64 (e20_3 + (1 : Int))) e20_b0_0 e20_b0_1 e20_b0_2)
          (fun e21_2 e21_b0_0 e21_b0_1 e21_b0_2 =>
            kr e21_2 e21_b0_0 e21_b0_1 e21_b0_2) n v3 (0 : Int) vb0_0 vb0_1 vb0_2
    else
    bif v3 == (1 : Int) then
      bif decide ((vb0_1.length : Int) > (250 : Int)) then
        (F.law12_awake n ).bind fun y22 =>
          kr y22 vb0_0 vb0_1 vb0_2
      else
        F.law12_GraphiteParts.L7 n
          (fun e23_3 e23_b0_0 e23_b0_1 e23_b0_2 =>
            rec (IntKind.wrap .i64 (e23_3 + (1 : Int))) e23_b0_0 e23_b0_1 e23_b0_2)
          (fun e24_2 e24_b0_0 e24_b0_1 e24_b0_2 =>
            kr e24_2 e24_b0_0 e24_b0_1 e24_b0_2) n v3 (0 : Int) vb0_0 vb0_1 vb0_2
    else
    bif v3 == (2 : Int) then
      bif decide ((vb0_2.length : Int) > (250 : Int)) then
        (F.law12_awake n ).bind fun y25 =>
          kr y25 vb0_0 vb0_1 vb0_2
      else
        F.law12_GraphiteParts.L7 n
          (fun e26_3 e26_b0_0 e26_b0_1 e26_b0_2 =>
            rec (IntKind.wrap .i64 (e26_3 + (1 : Int))) e26_b0_0 e26_b0_1 e26_b0_2)
          (fun e27_2 e27_b0_0 e27_b0_1 e27_b0_2 =>
            kr e27_2 e27_b0_0 e27_b0_1 e27_b0_2) n v3 (0 : Int) vb0_0 vb0_1 vb0_2
    else
      none
  else
    k0 vb0_0 vb0_1 vb0_2
noncomputable def F.law12_GraphiteParts.L2 {X : Type} (n : Nat) (k0 : (List UInt8) → (List UInt8) → (List UInt8) → Option X) (kr : Bool → (List UInt8) → (List UInt8) → (List UInt8) → Option X) : Nat → Int → (List UInt8) → (List UInt8) → (List UInt8) → Option X
  | 0 => fun _ _ _ _ => none
  | m + 1 => fun v3 vb0_0 vb0_1 vb0_2 => F.law12_GraphiteParts.L2.step n (F.law12_GraphiteParts.L2 n k0 kr m) k0 kr v3 vb0_0 vb0_1 vb0_2
noncomputable def F.law12_GraphiteParts (n : Nat) (a0 : (List UInt8) × (List UInt8) × (List UInt8) × Unit) : Option (Bool) :=
  F.law12_GraphiteParts.L2 n
    (fun e28_b0_0 e28_b0_1 e28_b0_2 =>
      bif decide (e28_b0_0.length + 1 ≤ strMax) then
        bif decide (((e28_b0_0 ++ ([32])).length) + e28_b0_1.length ≤ strMax) then
          bif decide ((((e28_b0_0 ++ ([32])) ++ e28_b0_1).length) + 1 ≤ strMax) then
            bif decide (((((e28_b0_0 ++ ([32])) ++ e28_b0_1) ++ ([32])).length) + e28_b0_2.length ≤ strMax) then
              (F.graphite_Parse n ((((e28_b0_0 ++ ([32])) ++ e28_b0_1) ++ ([32])) ++ e28_b0_2)).bind fun y29 =>
                (F.dec_Parse n e28_b0_1).bind fun y30 =>
                  (F.num_Time n e28_b0_2).bind fun y31 =>
                    (F.metric_Check n (e28_b0_0, (2 : Int), [(false, 0, 0)], (1000000 : Int), [], (0 : Int), ())).bind fun y32 =>
                      bif !(y32 == (0 : Int)) then
                        bif (y29.2.1.1 == (15 : Int)) && (y29.2.1.2.1 == (0 : Int)) then
                          (F.law12_awake n ).bind fun y33 =>
                            some (y33)
                        else
                          some (false)
                      else
                      bif !((y30.2.1.1 == (0 : Int)) && (y30.2.1.2.1 == (0 : Int))) then
                        bif (y29.2.1.1 == (17 : Int)) && (y29.2.1.2.1 == (IntKind.wrap .i64 ((e28_b0_0.length : Int) + (1 : Int)))) then
                          (F.law12_awake n ).bind fun y34 =>
                            some (y34)
                        else
                          some (false)
                      else
                      bif !((y31.2.1.1 == (0 : Int)) && (y31.2.1.2.1 == (0 : Int))) then
                        bif (y29.2.1.1 == (20 : Int)) && (y29.2.1.2.1 == (IntKind.wrap .i64 ((IntKind.wrap .i64 ((e28_b0_0.length : Int) + (e28_b0_1.length : Int))) + (2 : Int)))) then
                          (F.law12_awake n ).bind fun y35 =>
                            some (y35)
                        else
                          some (false)
                      else
                      bif (y29.2.1.1 == (0 : Int)) && (y29.2.1.2.1 == (0 : Int)) then
                        (F.metric_Equal n (y29.1.1, y29.1.2.1, y29.1.2.2.1, y29.1.2.2.2.1, y29.1.2.2.2.2.1, y29.1.2.2.2.2.2.1, ()) (e28_b0_0, (2 : Int), [(y30.1.1, y30.1.2.1, y30.1.2.2.1)], (1000000 : Int), [], y31.1, ())).bind fun y36 =>
                          bif y36 then
                            (F.law12_awake n ).bind fun y37 =>
                              some (y37)
                          else
                            some (false)
                      else
                        some (false)
            else
              none
          else
            none
        else
          none
      else
        none)
    (fun e38_2 e38_b0_0 e38_b0_1 e38_b0_2 =>
      some (e38_2)) n (0 : Int) a0.1 a0.2.1 a0.2.2.1
noncomputable def F.tag_Less (n : Nat) (a0 : (List UInt8) × (List UInt8) × Unit) (a1 : (List UInt8) × (List UInt8) × Unit) : Option (Bool) :=
  bif !(a0.1 == a1.1) then
    some (Op.bytesLess a0.1 a1.1)
  else
    some (Op.bytesLess a0.2.1 a1.2.1)
noncomputable def F.tag_Is.L2.step {X : Type} (n : Nat) (rec : (List ((List UInt8) × (List UInt8))) → Int → Option X) (k0 : Unit → Option X) (kr : Bool → Option X) (v0 : List ((List UInt8) × (List UInt8))) (v3 : Int) : Option X :=
  bif decide (v3 < (v0.length : Int)) then
    (idx v0 (IntKind.wrap .i64 (v3 - (1 : Int)))).bind fun x1 =>
      (idx v0 v3).bind fun x2 =>
        (F.tag_Less n (x1.1, x1.2, ()) (x2.1, x2.2, ())).bind fun y3 =>
          bif !y3 then
            kr false
          else
            rec v0 (IntKind.wrap .i64 (v3 + (1 : Int)))
  else
    k0 ()
noncomputable def F.tag_Is.L2 {X : Type} (n : Nat) (k0 : Unit → Option X) (kr : Bool → Option X) : Nat → (List ((List UInt8) × (List UInt8))) → Int → Option X
  | 0 => fun _ _ => none
  | m + 1 => fun v0 v3 => F.tag_Is.L2.step n (F.tag_Is.L2 n k0 kr m) k0 kr v0 v3
noncomputable def F.tag_Is (n : Nat) (a0 : List ((List UInt8) × (List UInt8))) : Option (Bool) :=
  F.tag_Is.L2 n
    (fun (_ : Unit) =>
      some (true))
    (fun e5_2 =>
      some (e5_2)) n a0 (1 : Int)
noncomputable def F.metric_Is (n : Nat) (a0 : (List UInt8) × (Int) × (List ((Bool) × (Int) × (Int))) × (Int) × (List ((List UInt8) × (List UInt8))) × (Int) × Unit) : Option (Bool) :=
  (F.metric_Check n (a0.1, a0.2.1, a0.2.2.1, a0.2.2.2.1, a0.2.2.2.2.1, a0.2.2.2.2.2.1, ())).bind fun y1 =>
    bif y1 == (0 : Int) then
      (F.tag_Is n a0.2.2.2.2.1).bind fun y2 =>
        some (y2)
    else
      some (false)
noncomputable def F.law12_GraphiteBack.C10 {X : Type} (n : Nat) (kr : Bool → Option X) (c1 : List UInt8) : Option X :=
  (F.graphite_Parse n c1).bind fun y15 =>
    bif !((y15.2.1.1 == (0 : Int)) && (y15.2.1.2.1 == (0 : Int))) then
      (F.metric_Equal n (y15.1.1, y15.1.2.1, y15.1.2.2.1, y15.1.2.2.2.1, y15.1.2.2.2.2.1, y15.1.2.2.2.2.2.1, ()) ([], (0 : Int), [], (0 : Int), [], (0 : Int), ())).bind fun y16 =>
        bif y16 then
          bif !(y15.2.1.1 == (0 : Int)) then
            bif decide (y15.2.1.2.1 ≥ (0 : Int)) then
              bif decide (y15.2.1.2.1 ≤ (c1.length : Int)) then
                (F.law12_awake n ).bind fun y17 =>
                  kr y17
              else
                kr false
            else
              kr false
          else
            kr false
        else
          kr false
    else
      (F.graphite_Line n (y15.1.1, y15.1.2.1, y15.1.2.2.1, y15.1.2.2.2.1, y15.1.2.2.2.2.1, y15.1.2.2.2.2.2.1, ())).bind fun y18 =>
        (F.graphite_Parse n y18.1).bind fun y19 =>
          (F.metric_Is n (y15.1.1, y15.1.2.1, y15.1.2.2.1, y15.1.2.2.2.1, y15.1.2.2.2.2.1, y15.1.2.2.2.2.2.1, ())).bind fun y20 =>
            bif y20 then
              (F.expr_Metric n (y15.1.1, y15.1.2.1, y15.1.2.2.1, y15.1.2.2.2.1, y15.1.2.2.2.2.1, y15.1.2.2.2.2.2.1, ()) (3 : Int)).bind fun y21 =>
                bif y21 == (0 : Int) then
                  bif y18.2.1 == (0 : Int) then
                    bif (y19.2.1.1 == y15.2.1.1) && (y19.2.1.2.1 == y15.2.1.2.1) then
                      (F.metric_Equal n (y15.1.1, y15.1.2.1, y15.1.2.2.1, y15.1.2.2.2.1, y15.1.2.2.2.2.1, y15.1.2.2.2.2.2.1, ()) (y19.1.1, y19.1.2.1, y19.1.2.2.1, y19.1.2.2.2.1, y19.1.2.2.2.2.1, y19.1.2.2.2.2.2.1, ())).bind fun y22 =>
                        bif y22 then
                          bif decide ((y18.1.length : Int) ≤ (c1.length : Int)) then
                            (F.law12_awake n ).bind fun y23 =>
                              kr y23
                          else
                            kr false
                        else
                          kr false
                    else
                      kr false
                  else
                    kr false
                else
                  kr false
            else
              kr false
noncomputable def F.law12_GraphiteBack (n : Nat) (a0 : (List UInt8) × (Int) × (List ((Bool) × (Int) × (Int))) × (Int) × (List ((List UInt8) × (List UInt8))) × (Int) × Unit) (a1 : List UInt8) : Option (Bool) :=
  (F.law10_Small n (a0.1, a0.2.1, a0.2.2.1, a0.2.2.2.1, a0.2.2.2.2.1, a0.2.2.2.2.2.1, ())).bind fun y1 =>
    bif !y1 then
      (F.law12_awake n ).bind fun y2 =>
        some (y2)
    else
    bif decide ((a1.length : Int) > (600 : Int)) then
      (F.law12_awake n ).bind fun y3 =>
        some (y3)
    else
      (F.graphite_Line n (a0.1, a0.2.1, a0.2.2.1, a0.2.2.2.1, a0.2.2.2.2.1, a0.2.2.2.2.2.1, ())).bind fun y4 =>
        bif !(y4.2.1 == (0 : Int)) then
          bif !(y4.1 == []) then
            some (false)
          else
            (F.expr_Metric n (a0.1, a0.2.1, a0.2.2.1, a0.2.2.2.1, a0.2.2.2.2.1, a0.2.2.2.2.2.1, ()) (3 : Int)).bind fun y5 =>
              bif !(y5 == y4.2.1) then
                some (false)
              else
                F.law12_GraphiteBack.C10 n
                  (fun e24_4 =>
                    some (e24_4)) a1
        else
          (F.graphite_Parse n y4.1).bind fun y25 =>
            bif !((y25.2.1.1 == (0 : Int)) && (y25.2.1.2.1 == (0 : Int))) then
              some (false)
            else
              (F.metric_Equal n (y25.1.1, y25.1.2.1, y25.1.2.2.1, y25.1.2.2.2.1, y25.1.2.2.2.2.1, y25.1.2.2.2.2.2.1, ()) (a0.1, a0.2.1, a0.2.2.1, a0.2.2.2.1, a0.2.2.2.2.1, a0.2.2.2.2.2.1, ())).bind fun y26 =>
                bif !y26 then
                  some (false)
                else
                  F.law12_GraphiteBack.C10 n
                    (fun e27_4 =>
                      some (e27_4)) a1
end Go.AM
namespace Go.Proofs
open Go.Shelf
def Tryz.lays161_ren : Go.Shelf.Ren := ⟨fun | 161 => 39 | 231 => 75 | 227 => 72 | 233 => 76 | 235 => 77 | 228 => 110 | 197 => 113 | 151 => 112 | 260 => 137 | 152 => 136 | 137 => 154 | 119 => 155 | 224 => 133 | 225 => 132 | 217 => 131 | 266 => 152 | n => n, fun | 9 => 9 | 4 => 4 | 3 => 3 | 5 => 5 | 117 => 105 | 116 => 104 | 0 => 0 | 124 => 108 | 105 => 141 | 21 => 21 | 119 => 178 | 46 => 124 | 139 => 181 | 138 => 180 | n => n, fun | 3 => 2 | 4 => 3 | n => n⟩
theorem Tryz.lays161 : Go.Proofs.Lays.n161 Tryz.prog Tryz.lays161_ren := {
  mixed := by kernel_rfl
  f119 := Tryz.func155.trans (congrArg some (by kernel_rfl))
  f137 := Tryz.func154.trans (congrArg some (by kernel_rfl))
  f151 := Tryz.func112.trans (congrArg some (by kernel_rfl))
  f152 := Tryz.func136.trans (congrArg some (by kernel_rfl))
  f161 := Tryz.func39.trans (congrArg some (by kernel_rfl))
  f197 := Tryz.func113.trans (congrArg some (by kernel_rfl))
  f217 := Tryz.func131.trans (congrArg some (by kernel_rfl))
  f224 := Tryz.func133.trans (congrArg some (by kernel_rfl))
  f225 := Tryz.func132.trans (congrArg some (by kernel_rfl))
  f227 := Tryz.func72.trans (congrArg some (by kernel_rfl))
  f228 := Tryz.func110.trans (congrArg some (by kernel_rfl))
  f231 := Tryz.func75.trans (congrArg some (by kernel_rfl))
  f233 := Tryz.func76.trans (congrArg some (by kernel_rfl))
  f235 := Tryz.func77.trans (congrArg some (by kernel_rfl))
  f260 := Tryz.func137.trans (congrArg some (by kernel_rfl))
  f266 := Tryz.func152.trans (congrArg some (by kernel_rfl))
  t0 := Tryz.underlying0
  a0 := Tryz.isAgg0
  z0 := Tryz.sizeOf0
  v0 := Tryz.zeroValue0
  t3 := Tryz.underlying3
  a3 := Tryz.isAgg3
  z3 := Tryz.sizeOf3
  v3 := Tryz.zeroValue3
  t4 := Tryz.underlying4
  a4 := Tryz.isAgg4
  z4 := Tryz.sizeOf4
  v4 := Tryz.zeroValue4
  t5 := Tryz.underlying5
  a5 := Tryz.isAgg5
  z5 := Tryz.sizeOf5
  v5 := Tryz.zeroValue5
  t9 := Tryz.underlying9
  a9 := Tryz.isAgg9
  z9 := Tryz.sizeOf9
  v9 := Tryz.zeroValue9
  t21 := Tryz.underlying21
  a21 := Tryz.isAgg21
  z21 := Tryz.sizeOf21
  v21 := Tryz.zeroValue21
  t46 := Tryz.underlying124
  a46 := Tryz.isAgg124
  z46 := Tryz.sizeOf124
  v46 := Tryz.zeroValue124
  t105 := Tryz.underlying141
  a105 := Tryz.isAgg141
  z105 := Tryz.sizeOf141
  v105 := Tryz.zeroValue141
  t116 := Tryz.underlying104
  a116 := Tryz.isAgg104
  z116 := Tryz.sizeOf104
  t117 := Tryz.underlying105
  a117 := Tryz.isAgg105
  z117 := Tryz.sizeOf105
  v117 := Tryz.zeroValue105
  t119 := Tryz.underlying178
  a119 := Tryz.isAgg178
  z119 := Tryz.sizeOf178
  t124 := Tryz.underlying108
  a124 := Tryz.isAgg108
  z124 := Tryz.sizeOf108
  v124 := Tryz.zeroValue108
  t138 := Tryz.underlying180
  a138 := Tryz.isAgg180
  z138 := Tryz.sizeOf180
  v138 := Tryz.zeroValue180
  t139 := Tryz.underlying181
  a139 := Tryz.isAgg181
  z139 := Tryz.sizeOf181
  v139 := Tryz.zeroValue181
  g3 := by kernel_rfl
  g4 := by kernel_rfl }
open Go.RowKit in
theorem Tryz.strings_TrimLeft_one (s : ByteArray) (c : UInt8) (hc : c.toNat < 128) (w : World) :
    Calls Tryz.prog 39 #[.string s, .string ⟨#[c]⟩] w fun e w' => e = .returned (.string ⟨(Lib.trimLeftB s.data.toList c).toArray⟩) ∧ w' = w := Any.strings_TrimLeft_one Tryz.lays161 s c hc w
def Tryz.lays162_ren : Go.Shelf.Ren := ⟨fun | 162 => 38 | 232 => 71 | 227 => 72 | 234 => 73 | 236 => 74 | 228 => 110 | 271 => 111 | 151 => 112 | 120 => 135 | 197 => 113 | 152 => 136 | 260 => 137 | 137 => 154 | 119 => 155 | 224 => 133 | 225 => 132 | 217 => 131 | 266 => 152 | n => n, fun | 9 => 9 | 4 => 4 | 3 => 3 | 5 => 5 | 117 => 105 | 116 => 104 | 0 => 0 | 124 => 108 | 21 => 21 | 105 => 141 | 46 => 124 | 119 => 178 | 139 => 181 | 138 => 180 | n => n, fun | 3 => 2 | 4 => 3 | n => n⟩
theorem Tryz.lays162 : Go.Proofs.Lays.n162 Tryz.prog Tryz.lays162_ren := {
  mixed := by kernel_rfl
  f119 := Tryz.func155.trans (congrArg some (by kernel_rfl))
  f120 := Tryz.func135.trans (congrArg some (by kernel_rfl))
  f137 := Tryz.func154.trans (congrArg some (by kernel_rfl))
  f151 := Tryz.func112.trans (congrArg some (by kernel_rfl))
  f152 := Tryz.func136.trans (congrArg some (by kernel_rfl))
  f162 := Tryz.func38.trans (congrArg some (by kernel_rfl))
  f197 := Tryz.func113.trans (congrArg some (by kernel_rfl))
  f217 := Tryz.func131.trans (congrArg some (by kernel_rfl))
  f224 := Tryz.func133.trans (congrArg some (by kernel_rfl))
  f225 := Tryz.func132.trans (congrArg some (by kernel_rfl))
  f227 := Tryz.func72.trans (congrArg some (by kernel_rfl))
  f228 := Tryz.func110.trans (congrArg some (by kernel_rfl))
  f232 := Tryz.func71.trans (congrArg some (by kernel_rfl))
  f234 := Tryz.func73.trans (congrArg some (by kernel_rfl))
  f236 := Tryz.func74.trans (congrArg some (by kernel_rfl))
  f260 := Tryz.func137.trans (congrArg some (by kernel_rfl))
  f266 := Tryz.func152.trans (congrArg some (by kernel_rfl))
  f271 := Tryz.func111.trans (congrArg some (by kernel_rfl))
  t0 := Tryz.underlying0
  a0 := Tryz.isAgg0
  z0 := Tryz.sizeOf0
  v0 := Tryz.zeroValue0
  t3 := Tryz.underlying3
  a3 := Tryz.isAgg3
  z3 := Tryz.sizeOf3
  v3 := Tryz.zeroValue3
  t4 := Tryz.underlying4
  a4 := Tryz.isAgg4
  z4 := Tryz.sizeOf4
  v4 := Tryz.zeroValue4
  t5 := Tryz.underlying5
  a5 := Tryz.isAgg5
  z5 := Tryz.sizeOf5
  v5 := Tryz.zeroValue5
  t9 := Tryz.underlying9
  a9 := Tryz.isAgg9
  z9 := Tryz.sizeOf9
  v9 := Tryz.zeroValue9
  t21 := Tryz.underlying21
  a21 := Tryz.isAgg21
  z21 := Tryz.sizeOf21
  v21 := Tryz.zeroValue21
  t46 := Tryz.underlying124
  a46 := Tryz.isAgg124
  z46 := Tryz.sizeOf124
  v46 := Tryz.zeroValue124
  t105 := Tryz.underlying141
  a105 := Tryz.isAgg141
  z105 := Tryz.sizeOf141
  v105 := Tryz.zeroValue141
  t116 := Tryz.underlying104
  a116 := Tryz.isAgg104
  z116 := Tryz.sizeOf104
  t117 := Tryz.underlying105
  a117 := Tryz.isAgg105
  z117 := Tryz.sizeOf105
  v117 := Tryz.zeroValue105
  t119 := Tryz.underlying178
  a119 := Tryz.isAgg178
  z119 := Tryz.sizeOf178
  t124 := Tryz.underlying108
  a124 := Tryz.isAgg108
  z124 := Tryz.sizeOf108
  v124 := Tryz.zeroValue108
  t138 := Tryz.underlying180
  a138 := Tryz.isAgg180
  z138 := Tryz.sizeOf180
  v138 := Tryz.zeroValue180
  t139 := Tryz.underlying181
  a139 := Tryz.isAgg181
  z139 := Tryz.sizeOf181
  v139 := Tryz.zeroValue181
  g3 := by kernel_rfl
  g4 := by kernel_rfl }
open Go.RowKit in
theorem Tryz.strings_TrimRight_one (s : ByteArray) (c : UInt8) (hc : c.toNat < 128) (w : World) (hs : s.size ≤ 9223372036854775807) :
    Calls Tryz.prog 38 #[.string s, .string ⟨#[c]⟩] w fun e w' => e = .returned (.string ⟨(Lib.trimRightB s.data.toList c).toArray⟩) ∧ w' = w := Any.strings_TrimRight_one Tryz.lays162 s c hc w hs
def Tryz.lays283_ren : Go.Shelf.Ren := ⟨fun | 283 => 119 | n => n, fun | 3 => 3 | 9 => 9 | 4 => 4 | n => n, fun | n => n⟩
theorem Tryz.lays283 : Go.Proofs.Lays.n283 Tryz.prog Tryz.lays283_ren := {
  mixed := by kernel_rfl
  f283 := Tryz.func119.trans (congrArg some (by kernel_rfl))
  t3 := Tryz.underlying3
  a3 := Tryz.isAgg3
  z3 := Tryz.sizeOf3
  v3 := Tryz.zeroValue3
  t4 := Tryz.underlying4
  a4 := Tryz.isAgg4
  z4 := Tryz.sizeOf4
  v4 := Tryz.zeroValue4
  t9 := Tryz.underlying9
  a9 := Tryz.isAgg9
  z9 := Tryz.sizeOf9
  v9 := Tryz.zeroValue9 }
open Go.Lib in
theorem Tryz.internal_strconv_small (i : Nat) (h : i < 100) (w : World) :
    Calls Tryz.prog 119 #[.int .i64 i] w fun e w' => e = .returned (.string ⟨(Lib.decDigits i).toArray⟩) ∧ w' = w := Any.internal_strconv_small Tryz.lays283 i h w
def Tryz.laysM284_ren : Go.Shelf.Ren := ⟨fun | 284 => 120 | 129 => 144 | 317 => 143 | 318 => 145 | n => n, fun | 53 => 41 | 3 => 3 | 212 => 169 | 0 => 0 | 4 => 4 | 46 => 124 | 5 => 5 | 9 => 9 | n => n, fun | 17 => 1 | n => n⟩
theorem Tryz.laysM284 : Go.Proofs.LaysM.n284 Tryz.prog Tryz.laysM284_ren := {
  mixed := by kernel_rfl
  f129 := Tryz.func144.trans (congrArg some (by kernel_rfl))
  f284 := Tryz.func120.trans (congrArg some (by kernel_rfl))
  f317 := Tryz.func143.trans (congrArg some (by kernel_rfl))
  f318 := Tryz.func145.trans (congrArg some (by kernel_rfl))
  t0 := Tryz.underlying0
  a0 := Tryz.isAgg0
  z0 := Tryz.sizeOf0
  v0 := Tryz.zeroValue0
  t3 := Tryz.underlying3
  a3 := Tryz.isAgg3
  z3 := Tryz.sizeOf3
  v3 := Tryz.zeroValue3
  t4 := Tryz.underlying4
  a4 := Tryz.isAgg4
  z4 := Tryz.sizeOf4
  v4 := Tryz.zeroValue4
  t5 := Tryz.underlying5
  a5 := Tryz.isAgg5
  z5 := Tryz.sizeOf5
  v5 := Tryz.zeroValue5
  t9 := Tryz.underlying9
  a9 := Tryz.isAgg9
  z9 := Tryz.sizeOf9
  v9 := Tryz.zeroValue9
  t46 := Tryz.underlying124
  a46 := Tryz.isAgg124
  z46 := Tryz.sizeOf124
  v46 := Tryz.zeroValue124
  t53 := Tryz.underlying41
  a53 := Tryz.isAgg41
  z53 := Tryz.sizeOf41
  v53 := Tryz.zeroValue41
  t212 := Tryz.underlying169
  a212 := Tryz.isAgg169
  z212 := Tryz.sizeOf169
  v212 := Tryz.zeroValue169
  g17 := by kernel_rfl
  i0 := by kernel_rfl
  i3 := by kernel_rfl
  i4 := by kernel_rfl
  i5 := by kernel_rfl
  i9 := by kernel_rfl
  i46 := by kernel_rfl
  i53 := by kernel_rfl
  i212 := by kernel_rfl
  m17 := by kernel_rfl }
open Go.Lib in
theorem Tryz.internal_strconv_numDigits (u : Nat) (h1 : 1 ≤ u) (h2 : u < 18446744073709551616) (w : World) (htab : Lib.TabIs Tryz.prog w "internal/strconv.uint64pow10" .u64 Lib.pow10Tab) :
    Calls Tryz.prog 120 #[.int .u64 u] w fun e w' => e = .returned (.int .i64 (Lib.nDigits u)) ∧ w' = w := Any.internal_strconv_numDigits Tryz.laysM284 u h1 h2 w htab
def Tryz.lays285_ren : Go.Shelf.Ren := ⟨fun | 285 => 121 | n => n, fun | 37 => 128 | 53 => 41 | 3 => 3 | 4 => 4 | 51 => 152 | 9 => 9 | 5 => 5 | 0 => 0 | n => n, fun | n => n⟩
theorem Tryz.lays285 : Go.Proofs.Lays.n285 Tryz.prog Tryz.lays285_ren := {
  mixed := by kernel_rfl
  f285 := Tryz.func121.trans (congrArg some (by kernel_rfl))
  t0 := Tryz.underlying0
  a0 := Tryz.isAgg0
  z0 := Tryz.sizeOf0
  v0 := Tryz.zeroValue0
  t3 := Tryz.underlying3
  a3 := Tryz.isAgg3
  z3 := Tryz.sizeOf3
  v3 := Tryz.zeroValue3
  t4 := Tryz.underlying4
  a4 := Tryz.isAgg4
  z4 := Tryz.sizeOf4
  v4 := Tryz.zeroValue4
  t5 := Tryz.underlying5
  a5 := Tryz.isAgg5
  z5 := Tryz.sizeOf5
  v5 := Tryz.zeroValue5
  t9 := Tryz.underlying9
  a9 := Tryz.isAgg9
  z9 := Tryz.sizeOf9
  v9 := Tryz.zeroValue9
  t37 := Tryz.underlying128
  a37 := Tryz.isAgg128
  z37 := Tryz.sizeOf128
  v37 := Tryz.zeroValue128
  t51 := Tryz.underlying152
  a51 := Tryz.isAgg152
  z51 := Tryz.sizeOf152
  v51 := Tryz.zeroValue152
  t53 := Tryz.underlying41
  a53 := Tryz.isAgg41
  z53 := Tryz.sizeOf41
  v53 := Tryz.zeroValue41 }
open Go.RowKit Go.Sort Go.Lib in
theorem Tryz.internal_strconv_formatBase10 (blk off cap : Nat) (u : Nat) (d : Array UInt8) (w : World) (hH : Holds (fun (b : UInt8) => Value.int .u8 (b.toNat : Int)) w blk off d) (hu : u < 10 ^ d.size) (hu64 : u < 18446744073709551616) (hsz : d.size < 4611686018427387904) :
    Calls Tryz.prog 121 #[.slice (some ⟨blk, off, none⟩) d.size cap, .int .u64 u] w fun e w' =>
      e = .returned (.tuple #[]) ∧ ∃ (n v' : Nat) (dk : Array UInt8), w' = (putRow (fun (b : UInt8) => Value.int .u8 (b.toNat : Int)) w blk off dk).drewN n ∧ FmtInv d.size u 0 v' dk := Any.internal_strconv_formatBase10 Tryz.lays285 blk off cap u d w hH hu hu64 hsz
def Tryz.laysM171_ren : Go.Shelf.Ren := ⟨fun | 171 => 56 | 243 => 100 | 246 => 126 | 283 => 119 | 284 => 120 | 285 => 121 | 286 => 122 | 129 => 144 | 317 => 143 | 318 => 145 | 319 => 146 | 320 => 147 | 337 => 159 | 338 => 160 | n => n, fun | 3 => 3 | 9 => 9 | 2 => 2 | 4 => 4 | 171 => 147 | 0 => 0 | 53 => 41 | 37 => 128 | 5 => 5 | 173 => 150 | 212 => 169 | 51 => 152 | 20 => 20 | 213 => 170 | 46 => 124 | 232 => 193 | 233 => 194 | n => n, fun | 17 => 1 | 18 => 6 | 19 => 7 | n => n⟩
theorem Tryz.laysM171 : Go.Proofs.LaysM.n171 Tryz.prog Tryz.laysM171_ren := {
  mixed := by kernel_rfl
  f129 := Tryz.func144.trans (congrArg some (by kernel_rfl))
  f171 := Tryz.func56.trans (congrArg some (by kernel_rfl))
  f243 := Tryz.func100.trans (congrArg some (by kernel_rfl))
  f246 := Tryz.func126.trans (congrArg some (by kernel_rfl))
  f283 := Tryz.func119.trans (congrArg some (by kernel_rfl))
  f284 := Tryz.func120.trans (congrArg some (by kernel_rfl))
  f285 := Tryz.func121.trans (congrArg some (by kernel_rfl))
  f286 := Tryz.func122.trans (congrArg some (by kernel_rfl))
  f317 := Tryz.func143.trans (congrArg some (by kernel_rfl))
  f318 := Tryz.func145.trans (congrArg some (by kernel_rfl))
  f319 := Tryz.func146.trans (congrArg some (by kernel_rfl))
  f320 := Tryz.func147.trans (congrArg some (by kernel_rfl))
  f337 := Tryz.func159.trans (congrArg some (by kernel_rfl))
  f338 := Tryz.func160.trans (congrArg some (by kernel_rfl))
  t0 := Tryz.underlying0
  a0 := Tryz.isAgg0
  z0 := Tryz.sizeOf0
  v0 := Tryz.zeroValue0
  t2 := Tryz.underlying2
  a2 := Tryz.isAgg2
  z2 := Tryz.sizeOf2
  v2 := Tryz.zeroValue2
  t3 := Tryz.underlying3
  a3 := Tryz.isAgg3
  z3 := Tryz.sizeOf3
  v3 := Tryz.zeroValue3
  t4 := Tryz.underlying4
  a4 := Tryz.isAgg4
  z4 := Tryz.sizeOf4
  v4 := Tryz.zeroValue4
  t5 := Tryz.underlying5
  a5 := Tryz.isAgg5
  z5 := Tryz.sizeOf5
  v5 := Tryz.zeroValue5
  t9 := Tryz.underlying9
  a9 := Tryz.isAgg9
  z9 := Tryz.sizeOf9
  v9 := Tryz.zeroValue9
  t20 := Tryz.underlying20
  a20 := Tryz.isAgg20
  z20 := Tryz.sizeOf20
  v20 := Tryz.zeroValue20
  t37 := Tryz.underlying128
  a37 := Tryz.isAgg128
  z37 := Tryz.sizeOf128
  v37 := Tryz.zeroValue128
  t46 := Tryz.underlying124
  a46 := Tryz.isAgg124
  z46 := Tryz.sizeOf124
  v46 := Tryz.zeroValue124
  t51 := Tryz.underlying152
  a51 := Tryz.isAgg152
  z51 := Tryz.sizeOf152
  v51 := Tryz.zeroValue152
  t53 := Tryz.underlying41
  a53 := Tryz.isAgg41
  z53 := Tryz.sizeOf41
  v53 := Tryz.zeroValue41
  t171 := Tryz.underlying147
  a171 := Tryz.isAgg147
  z171 := Tryz.sizeOf147
  v171 := Tryz.zeroValue147
  t173 := Tryz.underlying150
  a173 := Tryz.isAgg150
  z173 := Tryz.sizeOf150
  v173 := Tryz.zeroValue150
  t212 := Tryz.underlying169
  a212 := Tryz.isAgg169
  z212 := Tryz.sizeOf169
  v212 := Tryz.zeroValue169
  t213 := Tryz.underlying170
  a213 := Tryz.isAgg170
  z213 := Tryz.sizeOf170
  t232 := Tryz.underlying193
  a232 := Tryz.isAgg193
  z232 := Tryz.sizeOf193
  v232 := Tryz.zeroValue193
  t233 := Tryz.underlying194
  a233 := Tryz.isAgg194
  z233 := Tryz.sizeOf194
  v233 := Tryz.zeroValue194
  g17 := by kernel_rfl
  g18 := by kernel_rfl
  g19 := by kernel_rfl
  i0 := by kernel_rfl
  i2 := by kernel_rfl
  i3 := by kernel_rfl
  i4 := by kernel_rfl
  i5 := by kernel_rfl
  i9 := by kernel_rfl
  i20 := by kernel_rfl
  i37 := by kernel_rfl
  i46 := by kernel_rfl
  i51 := by kernel_rfl
  i53 := by kernel_rfl
  i171 := by kernel_rfl
  i173 := by kernel_rfl
  i212 := by kernel_rfl
  i232 := by kernel_rfl
  i233 := by kernel_rfl
  m17 := by kernel_rfl
  m18 := by kernel_rfl
  m19 := by kernel_rfl }
open Go.RowKit Go.Sort Go.Lib in
theorem Tryz.strconv_Itoa (n : Int) (h0 : -9223372036854775808 ≤ n) (h1 : n ≤ 9223372036854775807) (w : World) (htab : Lib.TabIs Tryz.prog w "internal/strconv.uint64pow10" .u64 Lib.pow10Tab) :
    Calls Tryz.prog 56 #[.int .i64 n] w fun e w' => e = .returned (.string ⟨(Lib.itoa n).toArray⟩) ∧ ∃ k os, w' = grow (w.drewN k) os := Any.strconv_Itoa Tryz.laysM171 n h0 h1 w htab
def Tryz.laysC172_ren : Go.Shelf.Ren := ⟨fun | 172 => 81 | 244 => 114 | 245 => 115 | 247 => 138 | 279 => 139 | 280 => 140 | 281 => 141 | 282 => 142 | 287 => 156 | 316 => 157 | 171 => 56 | 205 => 158 | 321 => 161 | 322 => 162 | 243 => 100 | 246 => 126 | 283 => 119 | 284 => 120 | 285 => 121 | 286 => 122 | 129 => 144 | 317 => 143 | 318 => 145 | 319 => 146 | 320 => 147 | 337 => 159 | 338 => 160 | n => n, fun | 9 => 9 | 3 => 3 | 75 => 114 | 76 => 115 | 4 => 4 | 5 => 5 | 167 => 162 | 37 => 128 | 0 => 0 | 85 => 163 | 2 => 2 | 168 => 165 | 53 => 41 | 175 => 182 | 46 => 124 | 210 => 186 | 127 => 155 | 145 => 192 | 143 => 190 | 21 => 21 | 171 => 147 | 173 => 150 | 212 => 169 | 51 => 152 | 20 => 20 | 213 => 170 | 232 => 193 | 233 => 194 | 80 => 133 | n => n, fun | 15 => 4 | 16 => 5 | 17 => 1 | 18 => 6 | 19 => 7 | n => n⟩
theorem Tryz.laysC172 : Go.Proofs.LaysC.n172 Tryz.prog Tryz.laysC172_ren := {
  mixed := by kernel_rfl
  f129 := Tryz.func144.trans (congrArg some (by kernel_rfl))
  f171 := Tryz.func56.trans (congrArg some (by kernel_rfl))
  f172 := Tryz.func81.trans (congrArg some (by kernel_rfl))
  f205 := Tryz.func158.trans (congrArg some (by kernel_rfl))
  f243 := Tryz.func100.trans (congrArg some (by kernel_rfl))
  f244 := Tryz.func114.trans (congrArg some (by kernel_rfl))
  f245 := Tryz.func115.trans (congrArg some (by kernel_rfl))
  f246 := Tryz.func126.trans (congrArg some (by kernel_rfl))
  f247 := Tryz.func138.trans (congrArg some (by kernel_rfl))
  f279 := Tryz.func139.trans (congrArg some (by kernel_rfl))
  f280 := Tryz.func140.trans (congrArg some (by kernel_rfl))
  f281 := Tryz.func141.trans (congrArg some (by kernel_rfl))
  f282 := Tryz.func142.trans (congrArg some (by kernel_rfl))
  f283 := Tryz.func119.trans (congrArg some (by kernel_rfl))
  f284 := Tryz.func120.trans (congrArg some (by kernel_rfl))
  f285 := Tryz.func121.trans (congrArg some (by kernel_rfl))
  f286 := Tryz.func122.trans (congrArg some (by kernel_rfl))
  f287 := Tryz.func156.trans (congrArg some (by kernel_rfl))
  f316 := Tryz.func157.trans (congrArg some (by kernel_rfl))
  f317 := Tryz.func143.trans (congrArg some (by kernel_rfl))
  f318 := Tryz.func145.trans (congrArg some (by kernel_rfl))
  f319 := Tryz.func146.trans (congrArg some (by kernel_rfl))
  f320 := Tryz.func147.trans (congrArg some (by kernel_rfl))
  f321 := Tryz.func161.trans (congrArg some (by kernel_rfl))
  f322 := Tryz.func162.trans (congrArg some (by kernel_rfl))
  f337 := Tryz.func159.trans (congrArg some (by kernel_rfl))
  f338 := Tryz.func160.trans (congrArg some (by kernel_rfl))
  t0 := Tryz.underlying0
  a0 := Tryz.isAgg0
  z0 := Tryz.sizeOf0
  v0 := Tryz.zeroValue0
  t2 := Tryz.underlying2
  a2 := Tryz.isAgg2
  z2 := Tryz.sizeOf2
  v2 := Tryz.zeroValue2
  t3 := Tryz.underlying3
  a3 := Tryz.isAgg3
  z3 := Tryz.sizeOf3
  v3 := Tryz.zeroValue3
  t4 := Tryz.underlying4
  a4 := Tryz.isAgg4
  z4 := Tryz.sizeOf4
  v4 := Tryz.zeroValue4
  t5 := Tryz.underlying5
  a5 := Tryz.isAgg5
  z5 := Tryz.sizeOf5
  v5 := Tryz.zeroValue5
  t9 := Tryz.underlying9
  a9 := Tryz.isAgg9
  z9 := Tryz.sizeOf9
  v9 := Tryz.zeroValue9
  t20 := Tryz.underlying20
  a20 := Tryz.isAgg20
  z20 := Tryz.sizeOf20
  v20 := Tryz.zeroValue20
  t21 := Tryz.underlying21
  a21 := Tryz.isAgg21
  z21 := Tryz.sizeOf21
  v21 := Tryz.zeroValue21
  t37 := Tryz.underlying128
  a37 := Tryz.isAgg128
  z37 := Tryz.sizeOf128
  v37 := Tryz.zeroValue128
  t46 := Tryz.underlying124
  a46 := Tryz.isAgg124
  z46 := Tryz.sizeOf124
  v46 := Tryz.zeroValue124
  t51 := Tryz.underlying152
  a51 := Tryz.isAgg152
  z51 := Tryz.sizeOf152
  v51 := Tryz.zeroValue152
  t53 := Tryz.underlying41
  a53 := Tryz.isAgg41
  z53 := Tryz.sizeOf41
  v53 := Tryz.zeroValue41
  t75 := Tryz.underlying114
  a75 := Tryz.isAgg114
  z75 := Tryz.sizeOf114
  v75 := Tryz.zeroValue114
  t76 := Tryz.underlying115
  a76 := Tryz.isAgg115
  z76 := Tryz.sizeOf115
  v76 := Tryz.zeroValue115
  t85 := Tryz.underlying163
  a85 := Tryz.isAgg163
  z85 := Tryz.sizeOf163
  v85 := Tryz.zeroValue163
  t127 := Tryz.underlying155
  a127 := Tryz.isAgg155
  z127 := Tryz.sizeOf155
  v127 := Tryz.zeroValue155
  t143 := Tryz.underlying190
  a143 := Tryz.isAgg190
  z143 := Tryz.sizeOf190
  v143 := Tryz.zeroValue190
  t145 := Tryz.underlying192
  a145 := Tryz.isAgg192
  z145 := Tryz.sizeOf192
  v145 := Tryz.zeroValue192
  t167 := Tryz.underlying162
  a167 := Tryz.isAgg162
  z167 := Tryz.sizeOf162
  v167 := Tryz.zeroValue162
  t168 := Tryz.underlying165
  a168 := Tryz.isAgg165
  z168 := Tryz.sizeOf165
  v168 := Tryz.zeroValue165
  t171 := Tryz.underlying147
  a171 := Tryz.isAgg147
  z171 := Tryz.sizeOf147
  v171 := Tryz.zeroValue147
  t173 := Tryz.underlying150
  a173 := Tryz.isAgg150
  z173 := Tryz.sizeOf150
  v173 := Tryz.zeroValue150
  t175 := Tryz.underlying182
  a175 := Tryz.isAgg182
  z175 := Tryz.sizeOf182
  v175 := Tryz.zeroValue182
  t210 := Tryz.underlying186
  a210 := Tryz.isAgg186
  z210 := Tryz.sizeOf186
  v210 := Tryz.zeroValue186
  t212 := Tryz.underlying169
  a212 := Tryz.isAgg169
  z212 := Tryz.sizeOf169
  v212 := Tryz.zeroValue169
  t213 := Tryz.underlying170
  a213 := Tryz.isAgg170
  z213 := Tryz.sizeOf170
  t232 := Tryz.underlying193
  a232 := Tryz.isAgg193
  z232 := Tryz.sizeOf193
  v232 := Tryz.zeroValue193
  t233 := Tryz.underlying194
  a233 := Tryz.isAgg194
  z233 := Tryz.sizeOf194
  v233 := Tryz.zeroValue194
  g15 := by kernel_rfl
  g16 := by kernel_rfl
  g17 := by kernel_rfl
  g18 := by kernel_rfl
  g19 := by kernel_rfl
  t80 := Tryz.underlying133
  a80 := Tryz.isAgg133
  z80 := Tryz.sizeOf133
  v80 := Tryz.zeroValue133
  i0 := by kernel_rfl
  i2 := by kernel_rfl
  i3 := by kernel_rfl
  i4 := by kernel_rfl
  i5 := by kernel_rfl
  i9 := by kernel_rfl
  i20 := by kernel_rfl
  i21 := by kernel_rfl
  i37 := by kernel_rfl
  i46 := by kernel_rfl
  i51 := by kernel_rfl
  i53 := by kernel_rfl
  i75 := by kernel_rfl
  i76 := by kernel_rfl
  i80 := by kernel_rfl
  i85 := by kernel_rfl
  i127 := by kernel_rfl
  i143 := by kernel_rfl
  i145 := by kernel_rfl
  i167 := by kernel_rfl
  i168 := by kernel_rfl
  i171 := by kernel_rfl
  i173 := by kernel_rfl
  i175 := by kernel_rfl
  i210 := by kernel_rfl
  i212 := by kernel_rfl
  i232 := by kernel_rfl
  i233 := by kernel_rfl
  m15 := by kernel_rfl
  m16 := by kernel_rfl
  m17 := by kernel_rfl
  m18 := by kernel_rfl
  m19 := by kernel_rfl
  c0 := by kernel_rfl
  c2 := by kernel_rfl
  c3 := by kernel_rfl
  c4 := by kernel_rfl
  c5 := by kernel_rfl
  c9 := by kernel_rfl
  c20 := by kernel_rfl
  c21 := by kernel_rfl
  c37 := by kernel_rfl
  c46 := by kernel_rfl
  c51 := by kernel_rfl
  c53 := by kernel_rfl
  c75 := by kernel_rfl
  c76 := by kernel_rfl
  c80 := by kernel_rfl
  c85 := by kernel_rfl
  c127 := by kernel_rfl
  c143 := by kernel_rfl
  c145 := by kernel_rfl
  c167 := by kernel_rfl
  c168 := by kernel_rfl
  c171 := by kernel_rfl
  c173 := by kernel_rfl
  c175 := by kernel_rfl
  c210 := by kernel_rfl
  c212 := by kernel_rfl
  c213 := by kernel_rfl
  c232 := by kernel_rfl
  c233 := by kernel_rfl }
open Go.RowKit in
theorem Tryz.strconv_Atoi_ok (s : ByteArray) (hmax : s.size ≤ 9223372036854775806) (v : Int) (h : Lib.atoiAll s.data.toList = .ok v) (w : World) :
    Calls Tryz.prog 81 #[.string s] w fun e w' => e = .returned (.tuple #[.int .i64 v, .nilIface]) ∧ (w' = w ∨ ∃ t, w' = Lib.bytesWorld w 5 t) := Any.strconv_Atoi_ok Tryz.laysC172 s hmax v h w
def Tryz.lays219_ren : Go.Shelf.Ren := ⟨fun | 219 => 109 | 217 => 131 | 225 => 132 | 224 => 133 | 267 => 134 | 266 => 152 | 314 => 153 | n => n, fun | 9 => 9 | 3 => 3 | 4 => 4 | 5 => 5 | 46 => 124 | 146 => 153 | 51 => 152 | n => n, fun | 1 => 0 | n => n⟩
theorem Tryz.lays219 : Go.Proofs.Lays.n219 Tryz.prog Tryz.lays219_ren := {
  mixed := by kernel_rfl
  f217 := Tryz.func131.trans (congrArg some (by kernel_rfl))
  f219 := Tryz.func109.trans (congrArg some (by kernel_rfl))
  f224 := Tryz.func133.trans (congrArg some (by kernel_rfl))
  f225 := Tryz.func132.trans (congrArg some (by kernel_rfl))
  f266 := Tryz.func152.trans (congrArg some (by kernel_rfl))
  f267 := Tryz.func134.trans (congrArg some (by kernel_rfl))
  f314 := Tryz.func153.trans (congrArg some (by kernel_rfl))
  t3 := Tryz.underlying3
  a3 := Tryz.isAgg3
  z3 := Tryz.sizeOf3
  v3 := Tryz.zeroValue3
  t4 := Tryz.underlying4
  a4 := Tryz.isAgg4
  z4 := Tryz.sizeOf4
  v4 := Tryz.zeroValue4
  t5 := Tryz.underlying5
  a5 := Tryz.isAgg5
  z5 := Tryz.sizeOf5
  v5 := Tryz.zeroValue5
  t9 := Tryz.underlying9
  a9 := Tryz.isAgg9
  z9 := Tryz.sizeOf9
  v9 := Tryz.zeroValue9
  t46 := Tryz.underlying124
  a46 := Tryz.isAgg124
  z46 := Tryz.sizeOf124
  v46 := Tryz.zeroValue124
  t51 := Tryz.underlying152
  a51 := Tryz.isAgg152
  z51 := Tryz.sizeOf152
  v51 := Tryz.zeroValue152
  t146 := Tryz.underlying153
  a146 := Tryz.isAgg153
  z146 := Tryz.sizeOf153
  v146 := Tryz.zeroValue153
  g1 := by kernel_rfl }
open Go.RowKit Go.Lib in
theorem Tryz.stringslite_Index_one (s : ByteArray) (c : UInt8) (w : World) :
    Calls Tryz.prog 109 #[.string s, .string ⟨#[c]⟩] w fun e w' => e = .returned (.int .i64 (Lib.indexByte s.data.toList c)) ∧ w' = w := Any.stringslite_Index_one Tryz.lays219 s c w
def Tryz.lays264_ren : Go.Shelf.Ren := ⟨fun | 264 => 78 | n => n, fun | 53 => 41 | 46 => 124 | n => n, fun | n => n⟩
theorem Tryz.lays264 : Go.Proofs.Lays.n264 Tryz.prog Tryz.lays264_ren := {
  mixed := by kernel_rfl
  f264 := Tryz.func78.trans (congrArg some (by kernel_rfl))
  t46 := Tryz.underlying124
  a46 := Tryz.isAgg124
  z46 := Tryz.sizeOf124
  v46 := Tryz.zeroValue124
  t53 := Tryz.underlying41
  a53 := Tryz.isAgg41
  z53 := Tryz.sizeOf41
  v53 := Tryz.zeroValue41 }
open Go.RowKit Go.Lib in
theorem Tryz.bits_Mul64 (x y : Nat) (hx : x < 18446744073709551616) (hy : y < 18446744073709551616) (w : World) :
    Calls Tryz.prog 78 #[.int .u64 x, .int .u64 y] w fun e w' => e = .returned (.tuple #[.int .u64 ((x * y / 18446744073709551616 : Nat) : Int), .int .u64 ((x * y % 18446744073709551616 : Nat) : Int)]) ∧ w' = w := Any.bits_Mul64 Tryz.lays264 x y hx hy w
def Tryz.lays105_ren : Go.Shelf.Ren := ⟨fun | 105 => 55 | 212 => 95 | 99 => 68 | 165 => 96 | 166 => 97 | 170 => 98 | 169 => 99 | 263 => 123 | 264 => 78 | 206 => 108 | 240 => 124 | 241 => 125 | 276 => 148 | 277 => 149 | n => n, fun | 9 => 9 | 3 => 3 | 4 => 4 | 20 => 20 | 0 => 0 | 46 => 124 | 109 => 125 | 5 => 5 | 72 => 130 | 76 => 115 | 51 => 152 | 146 => 153 | 53 => 41 | 148 => 109 | 70 => 127 | 37 => 128 | 75 => 114 | 127 => 155 | 164 => 172 | 80 => 133 | n => n, fun | n => n⟩
theorem Tryz.lays105 : Go.Proofs.Lays.n105 Tryz.prog Tryz.lays105_ren := {
  mixed := by kernel_rfl
  f99 := Tryz.func68.trans (congrArg some (by kernel_rfl))
  f105 := Tryz.func55.trans (congrArg some (by kernel_rfl))
  f165 := Tryz.func96.trans (congrArg some (by kernel_rfl))
  f166 := Tryz.func97.trans (congrArg some (by kernel_rfl))
  f169 := Tryz.func99.trans (congrArg some (by kernel_rfl))
  f170 := Tryz.func98.trans (congrArg some (by kernel_rfl))
  f206 := Tryz.func108.trans (congrArg some (by kernel_rfl))
  f212 := Tryz.func95.trans (congrArg some (by kernel_rfl))
  f240 := Tryz.func124.trans (congrArg some (by kernel_rfl))
  f241 := Tryz.func125.trans (congrArg some (by kernel_rfl))
  f263 := Tryz.func123.trans (congrArg some (by kernel_rfl))
  f264 := Tryz.func78.trans (congrArg some (by kernel_rfl))
  f276 := Tryz.func148.trans (congrArg some (by kernel_rfl))
  f277 := Tryz.func149.trans (congrArg some (by kernel_rfl))
  t0 := Tryz.underlying0
  a0 := Tryz.isAgg0
  z0 := Tryz.sizeOf0
  v0 := Tryz.zeroValue0
  t3 := Tryz.underlying3
  a3 := Tryz.isAgg3
  z3 := Tryz.sizeOf3
  v3 := Tryz.zeroValue3
  t4 := Tryz.underlying4
  a4 := Tryz.isAgg4
  z4 := Tryz.sizeOf4
  v4 := Tryz.zeroValue4
  t5 := Tryz.underlying5
  a5 := Tryz.isAgg5
  z5 := Tryz.sizeOf5
  v5 := Tryz.zeroValue5
  t9 := Tryz.underlying9
  a9 := Tryz.isAgg9
  z9 := Tryz.sizeOf9
  v9 := Tryz.zeroValue9
  t20 := Tryz.underlying20
  a20 := Tryz.isAgg20
  z20 := Tryz.sizeOf20
  v20 := Tryz.zeroValue20
  t37 := Tryz.underlying128
  a37 := Tryz.isAgg128
  z37 := Tryz.sizeOf128
  v37 := Tryz.zeroValue128
  t46 := Tryz.underlying124
  a46 := Tryz.isAgg124
  z46 := Tryz.sizeOf124
  v46 := Tryz.zeroValue124
  t51 := Tryz.underlying152
  a51 := Tryz.isAgg152
  z51 := Tryz.sizeOf152
  v51 := Tryz.zeroValue152
  t53 := Tryz.underlying41
  a53 := Tryz.isAgg41
  z53 := Tryz.sizeOf41
  v53 := Tryz.zeroValue41
  t70 := Tryz.underlying127
  a70 := Tryz.isAgg127
  z70 := Tryz.sizeOf127
  v70 := Tryz.zeroValue127
  t72 := Tryz.underlying130
  a72 := Tryz.isAgg130
  z72 := Tryz.sizeOf130
  v72 := Tryz.zeroValue130
  t75 := Tryz.underlying114
  a75 := Tryz.isAgg114
  z75 := Tryz.sizeOf114
  v75 := Tryz.zeroValue114
  t76 := Tryz.underlying115
  a76 := Tryz.isAgg115
  z76 := Tryz.sizeOf115
  v76 := Tryz.zeroValue115
  t109 := Tryz.underlying125
  a109 := Tryz.isAgg125
  z109 := Tryz.sizeOf125
  v109 := Tryz.zeroValue125
  t127 := Tryz.underlying155
  a127 := Tryz.isAgg155
  z127 := Tryz.sizeOf155
  v127 := Tryz.zeroValue155
  t146 := Tryz.underlying153
  a146 := Tryz.isAgg153
  z146 := Tryz.sizeOf153
  v146 := Tryz.zeroValue153
  t148 := Tryz.underlying109
  a148 := Tryz.isAgg109
  z148 := Tryz.sizeOf109
  v148 := Tryz.zeroValue109
  t164 := Tryz.underlying172
  a164 := Tryz.isAgg172
  z164 := Tryz.sizeOf172
  v164 := Tryz.zeroValue172 }
theorem Tryz.Builder_Extra_105 : Builder.Extra Tryz.prog Tryz.lays105_ren := {
  sizeBuilder := by kernel_rfl
  liesBuilder := by kernel_rfl
  t5 := Tryz.underlying5
  a5 := Tryz.isAgg5
  z5 := Tryz.sizeOf5
  v5 := Tryz.zeroValue5
  infoByte := by kernel_rfl
  cellsByte := by kernel_rfl
  sizeByte := by kernel_rfl
  neB5 := by decide }
open Go.RowKit Go.Lib in
theorem Tryz.strings_Repeat (s : ByteArray) (c : Nat) (w : World) (hc : c ≤ 9223372036854775807) (hlen : s.size * c ≤ 140737488355328) :
    Calls Tryz.prog 55 #[.string s, .int .i64 c] w fun e w' => e = .returned (.string ⟨(Lib.repeatL s.data.toList c).toArray⟩) ∧ Below w.heap.size w w' := Any.strings_Repeat Tryz.lays105 Tryz.Builder_Extra_105 s c w hc hlen
end Go.Proofs
set_option linter.unusedVariables false
set_option linter.unusedSimpArgs false
namespace Go.Proofs
open Go.RowKit Go.Sort Go.Lib
set_option maxHeartbeats 6400000 in
set_option maxRecDepth 100000 in
theorem Tryz.internal_strconv_FormatUint_10 (u : Nat) (hu64 : u < 18446744073709551616) (w : World) (htab : Lib.TabIs Tryz.prog w "internal/strconv.uint64pow10" .u64 Lib.pow10Tab) :
    Calls Tryz.prog 94 #[.int .u64 u, .int .i64 10] w fun e w' => e = .returned (.string ⟨(Lib.decDigits u).toArray⟩) ∧ ∃ k os, w' = grow (w.drewN k) os := by
  have mixed : Tryz.prog.follows .mixedOrders := by kernel_rfl
  have e283 : ∀ args w, (callFunc 119 args).run Tryz.prog w = .ok (.enter 119 args) w := enters_of Tryz.func119 (by kernel_rfl) rfl
  have e284 : ∀ args w, (callFunc 120 args).run Tryz.prog w = .ok (.enter 120 args) w := enters_of Tryz.func120 (by kernel_rfl) rfl
  have e285 : ∀ args w, (callFunc 121 args).run Tryz.prog w = .ok (.enter 121 args) w := enters_of Tryz.func121 (by kernel_rfl) rfl
  by_cases hs : u < 100
  · have hcv : IntKind.wrap .i64 (u : Int) = u := by rw [IntKind.wrap_i64]; omega
    go_enter Tryz.func94, Tryz.ntmps94
    go_wp2_with (go_at_fn 119; refine (Tryz.internal_strconv_small u hs _).mono ?_; rintro e w' ⟨rfl, rfl⟩)
    go_ret
    exact ⟨rfl, 0, #[], by simp [World.drewN_zero]⟩
  · have hu1 : 1 ≤ u := by omega
    have hnd20 : Lib.nDigits u ≤ 20 := by have := Lib.numDigits_eq u hu1 hu64; split at this <;> omega
    have hb3 : Lib.nDigits u ≤ 24 := by omega
    have hal : Tryz.prog.arrayLen 147 = 24 := by simp [Program.arrayLen, Tryz.underlying147]
    have hsl1 : ∀ W, (Instr.sliceAt 147 (.pointer (some ⟨w.heap.size, 0, none⟩)) none (some (.int .i64 (Lib.nDigits u : Int))) none).run Tryz.prog W = .ok (.slice (some ⟨w.heap.size, 0, none⟩) (Lib.nDigits u) 24) W := fun W => by
      rw [run_sliceAt_array_h W 147 ⟨w.heap.size, 0, none⟩ (by simp [Program.arrayLen, Program.elem, Tryz.underlying147]) .i64 (Lib.nDigits u : Int) (by omega) (by rw [hal]; omega)]
      go_simp
      all_goals omega
    have hH0 := Lib.holds_zero0 w 147 (Lib.nDigits u) (by omega)
    have hfmt := Tryz.internal_strconv_formatBase10 w.heap.size 0 24 u (Array.replicate (Lib.nDigits u) 0) (w.alloc (.cells Lib.zeros24 147)) hH0 (by rw [Array.size_replicate]; exact Lib.lt_pow_nDigits u) hu64 (by rw [Array.size_replicate]; omega)
    rw [Array.size_replicate] at hfmt
    have HH0 := Lib.hid hH0
    clear hH0 hal
    go_enter Tryz.func94, Tryz.ntmps94
    go_wp2_with (first
      | (go_at_fn 120; refine (Tryz.internal_strconv_numDigits u hu1 hu64 _ (Lib.tabIs_alloc htab _)).mono ?_; rintro e w' ⟨rfl, rfl⟩))
    go_at_fn 121
    refine hfmt.mono ?_
    rintro e w' ⟨rfl, k, v', dk, rfl, hF⟩
    have hcv : (convert 128 9 (.slice (some ⟨w.heap.size, 0, none⟩) (Lib.nDigits u) 24)).run Tryz.prog ((putRow (fun (b : UInt8) => Value.int .u8 (b.toNat : Int)) (w.alloc (.cells Lib.zeros24 147)) w.heap.size 0 dk).drewN k) = .ok (.string ⟨(Lib.decDigits u).toArray⟩) ((putRow (fun (b : UInt8) => Value.int .u8 (b.toNat : Int)) (w.alloc (.cells Lib.zeros24 147)) w.heap.size 0 dk).drewN k) := by
      have h := run_convert_bytes_back (P := Tryz.prog) ((putRow (fun (b : UInt8) => Value.int .u8 (b.toNat : Int)) (w.alloc (.cells Lib.zeros24 147)) w.heap.size 0 dk).drewN k) 128 9 5 ⟨w.heap.size, 0, none⟩ 24 (Lib.decDigits u) Tryz.underlying128 Tryz.underlying5 Tryz.underlying9 (fun j hj => by
        rw [Lib.row_is_numeral hF j hj, Lib.add_plain, World.cell?_drewN]
        exact cell?_putRow (fun (b : UInt8) => Value.int .u8 (b.toNat : Int)) _ w.heap.size 0 _ dk HH0.out (by rw [hF.size, Array.size_replicate]) j (by rw [hF.size]; rw [Lib.decDigits_length] at hj; exact hj))
      rw [Lib.decDigits_length] at h
      exact h
    go_wp2
    go_ret
    obtain ⟨os, eo⟩ := Lib.fin_at w (.cells Lib.zeros24 147) dk k 0
    exact ⟨rfl, k, os, eo⟩
set_option maxRecDepth 100000 in
theorem Tryz.strconv_FormatUint_10 (u : Nat) (hu64 : u < 18446744073709551616) (w : World) (htab : Lib.TabIs Tryz.prog w "internal/strconv.uint64pow10" .u64 Lib.pow10Tab) :
    Calls Tryz.prog 54 #[.int .u64 u, .int .i64 10] w fun e w' => e = .returned (.string ⟨(Lib.decDigits u).toArray⟩) ∧ ∃ k os, w' = grow (w.drewN k) os := by
  have e51 : ∀ args w, (callFunc 94 args).run Tryz.prog w = .ok (.enter 94 args) w := enters_of Tryz.func94 (by kernel_rfl) rfl
  go_enter Tryz.func54, Tryz.ntmps54
  go_wp2_with (go_at_fn 94; refine (Tryz.internal_strconv_FormatUint_10 u hu64 _ htab).mono ?_; rintro e w' ⟨rfl, k, os, rfl⟩)
  go_ret
  exact ⟨rfl, k, os, rfl⟩
end Go.Proofs
