/- Part 4 of a proof by the abstract machine. -/
import Derived.Test.YtjnmlfffiibeiaaGreatDoorQ3
import Derived.Shelf.Strings.Builder1
import Derived.Shelf.Strings.Builder2
import Derived.Shelf.Strings.OnBuilder
import Derived.Shelf.Strings.Trim
import Derived.Shelf.Small.Utf8
import Derived.Shelf.Small.Bits
import Derived.Shelf.Small.Strs
import Derived.Shelf.Strings.BuilderF
import Derived.Shelf.Strings.BuilderK
import Derived.Shelf.Utf8.RuneCount
import Derived.Shelf.Strings.Builder2Cap
import Derived.Shelf.Strconv.Atoi
import Derived.Shelf.Strconv.Itoa0
import Derived.Shelf.Strconv.Itoa1
import Derived.Shelf.LaysM
import Derived.Shelf.Strconv.Itoa2
import Derived.Shelf.Strconv.Itoa3
import Derived.Shelf.Strconv.AtoiErrFast
import Derived.Shelf.Strconv.ParseIntEmpty
import Derived.Shelf.Strconv.AtoiFail
import Derived.Shelf.Strconv.Clone
import Derived.Shelf.Strconv.SyntaxError
import Derived.Shelf.LaysC
import Derived.Shelf.Strconv.ToError
import Derived.Shelf.Strconv.Lower
import Derived.Shelf.Strconv.ParseUint10Empty
import Derived.Shelf.Strconv.RangeError
import Derived.Shelf.Strconv.ToErrorRange
import Derived.Shelf.Strings.Search1
import Derived.Shelf.Strings.Search2
import Derived.Shelf.Strings.Search3
import Derived.Shelf.Strings.Cut
import Derived.Shelf.Strings.Count
import Derived.Shelf.Strings.Shaped
import Derived.Shelf.Strings.Prefix
import Derived.Shelf.Strings.Split
import Derived.Shelf.Strings.SplitShaped
import Derived.Shelf.Unicode.Decode
import Derived.Shelf.Strings.Runes
import Derived.Shelf.Strings.RuneCount
import Derived.Shelf.Strings.AsciiSet
import Derived.Shelf.Strings.Explode
import Derived.Shelf.Bits.Mul64
import Derived.Shelf.Strings.Repeat
import Derived.Shelf.Unicode.DecodeSlow
import Derived.Shelf.Unicode.DecodeAny
import Derived.Shelf.Unicode.DecodeLast
import Derived.Shelf.Strings.BuilderCap
import Derived.Shelf.Bytes.SlSearch0
import Derived.Shelf.Bytes.Small
import Derived.Shelf.SlGeneric
import Derived.Ground.SlsfProg
import Derived.Shelf.SlSortCmp.WholeK
import Derived.Test.YtjnmlfffiibeiaaGreatDoorProg
import Derived.Lib.AppendIntMem
import Derived.Lib.ItoaMem
import Derived.Lib.Walk
import Derived.WalkKit
import Derived.BigCall
import Derived.BigGuard
import Derived.Shelf.Strings.BuilderX
import Derived.Lib.Builder
import Derived.Lib.UnsafeStr
import Derived.Laws.Externs
import Derived.Shelf.RegionOpenPlain
import Derived.Deep.RegionHeld2
import Derived.LoopN
import Derived.KernelRfl
set_option linter.unusedVariables false
namespace Go.AM
abbrev Y0 : Ty := .int .u64
abbrev Y1 : Ty := .int .i64
abbrev Y2 : Ty := .agg [.bool, Y0, Y1]
abbrev Y3 : Ty := .agg [.str, .str]
abbrev Y4 : Ty := .sl Y2
abbrev Y5 : Ty := .sl Y3
abbrev Y6 : Ty := .agg [.str, Y1, Y4, Y1, Y5, Y1]
abbrev Y7 : Ty := .sl Y6
abbrev Y8 : Ty := .agg [Y1, Y1]
abbrev Y9 : Ty := .agg [Y6]
abbrev Y10 : Ty := .agg [.u8, .u8]
abbrev Y11 : Ty := .agg [.str, .str, .str, .str, .str, .str]
abbrev Z0 : Type := List UInt8
abbrev Z1 : Type := (Bool) × (Int) × (Int)
abbrev Z2 : Type := List (Z1)
abbrev Z3 : Type := (Z0) × (Z0)
abbrev Z4 : Type := List (Z3)
abbrev Z5 : Type := (Z0) × (Int) × (Z2) × (Int) × (Z4) × (Int)
abbrev Z6 : Type := List (Z5)
abbrev Z7 : Type := (Z0) × (Int) × (Z2) × (Int) × (Z4) × (Int) × Unit
abbrev Z8 : Type := List (Bool)
abbrev Z9 : Type := ((Z7) × Unit) × (Unit)
abbrev Z10 : Type := (Z9) × (Int) × (Z9) × (Int) × (Z9) × (Int) × (Z9) × (Int) × (Z9) × (Int) × (Z9) × (Int) × Unit
abbrev Z11 : Type := (Int) × (Int) × Unit
abbrev Z12 : Type := (Bool) × (Int) × (Int) × Unit
abbrev Z13 : Type := (Z0) × (Z0) × Unit
abbrev Z14 : Type := List (UInt8)
abbrev Z15 : Type := Nat × Nat
abbrev Z16 : Type := Nat × List (Z1)
abbrev Z17 : Type := Nat × List (Z3)
abbrev Z18 : Type := List (Z0)
abbrev Z19 : Type := Nat × List (UInt8)
abbrev Z20 : Type := (Z0) × (Z0) × (Z0) × (Z0) × (Z0) × (Z0) × Unit
noncomputable def F.law10_Small.L2.step {X : Type} (n : Nat) (rec : Int → Z0 → Int → Z2 → Int → Z4 → Int → Option X) (k0 : Z0 → Int → Z2 → Int → Z4 → Int → Option X) (kr : Bool → Z0 → Int → Z2 → Int → Z4 → Int → Option X) (v3 : Int) (ab0 : Z0) (ab1 : Int) (ab2 : Z2) (ab3 : Int) (ab4 : Z4) (ab5 : Int) : Option X :=
 bif decide (v3 < (ab4.length : Int)) then
  bif decide (v3 < (51 : Int)) then
   (idx ab4 v3).bind fun x1 =>
    bif decide ((x1.1.length : Int) > (200 : Int)) then
     kr false ab0 ab1 ab2 ab3 ab4 ab5
    else
     (idx ab4 v3).bind fun x2 =>
      bif decide ((x2.2.length : Int) > (200 : Int)) then
       kr false ab0 ab1 ab2 ab3 ab4 ab5
      else
       rec (IntKind.wrap .i64 (v3 + (1 : Int))) ab0 ab1 ab2 ab3 ab4 ab5
  else
   k0 ab0 ab1 ab2 ab3 ab4 ab5
 else
  k0 ab0 ab1 ab2 ab3 ab4 ab5
noncomputable def F.law10_Small.L2 {X : Type} (n : Nat) (k0 : Z0 → Int → Z2 → Int → Z4 → Int → Option X) (kr : Bool → Z0 → Int → Z2 → Int → Z4 → Int → Option X) : Nat → Int → Z0 → Int → Z2 → Int → Z4 → Int → Option X
 | 0 => fun _ _ _ _ _ _ _ => none
 | m + 1 => fun v3 ab0 ab1 ab2 ab3 ab4 ab5 => F.law10_Small.L2.step n (F.law10_Small.L2 n k0 kr m) k0 kr v3 ab0 ab1 ab2 ab3 ab4 ab5
noncomputable def F.law10_Small (n : Nat) (a0 : Z7) : Option (Bool) :=
 F.law10_Small.L2 n
  (fun g0 g1 g2 g3 g4 g5 =>
   bif decide ((g0.length : Int) ≤ (300 : Int)) then
    bif decide ((g2.length : Int) ≤ (80 : Int)) then
     some (decide ((g4.length : Int) ≤ (50 : Int)))
    else
     some (false)
   else
    some (false))
  (fun e2 g0 g1 g2 g3 g4 g5 =>
   some (e2)) n (0 : Int) a0.1 a0.2.1 a0.2.2.1 a0.2.2.2.1 a0.2.2.2.2.1 a0.2.2.2.2.2.1
noncomputable def F.law13_Few.L2.step {X : Type} (n : Nat) (rec : Z6 → Int → Option X) (k0 : Z6 → Option X) (kr : Bool → Option X) (v0 : Z6) (v3 : Int) : Option X :=
 bif decide (v3 < (v0.length : Int)) then
  bif decide (v3 < (41 : Int)) then
   (idx v0 v3).bind fun x1 =>
    (F.law10_Small n (x1.1, x1.2.1, x1.2.2.1, x1.2.2.2.1, x1.2.2.2.2.1, x1.2.2.2.2.2, ())).bind fun y2 =>
     bif !y2 then
      kr false
     else
      rec v0 (IntKind.wrap .i64 (v3 + (1 : Int)))
  else
   k0 v0
 else
  k0 v0
noncomputable def F.law13_Few.L2 {X : Type} (n : Nat) (k0 : Z6 → Option X) (kr : Bool → Option X) : Nat → Z6 → Int → Option X
 | 0 => fun _ _ => none
 | m + 1 => fun v0 v3 => F.law13_Few.L2.step n (F.law13_Few.L2 n k0 kr m) k0 kr v0 v3
noncomputable def F.law13_Few (n : Nat) (a0 : Z6) : Option (Bool) :=
 F.law13_Few.L2 n
  (fun e0 =>
   some (decide ((e0.length : Int) ≤ (40 : Int))))
  (fun e2 =>
   some (e2)) n a0 (0 : Int)
noncomputable def F.class_may (n : Nat) (a0 : Int) : Option (Bool) :=
 bif decide (a0 ≥ (1 : Int)) then
  some (decide (a0 ≤ (4 : Int)))
 else
  some (false)
noncomputable def F.class_between (n : Nat) (a0 : Int) (a1 : Int) (a2 : Int) : Option (Bool) :=
 bif decide (a0 ≥ a1) then
  some (decide (a0 ≤ a2))
 else
  some (false)
noncomputable def F.class_Is (n : Nat) (a0 : Int) (a1 : Int) : Option (Bool) :=
 bif a0 == (3 : Int) then
  (F.class_between n a1 (33 : Int) (126 : Int)).bind fun y1 =>
   bif y1 then
    bif !(a1 == (44 : Int)) then
     some (!(a1 == (124 : Int)))
    else
     some (false)
   else
    some (false)
 else
 bif a0 == (2 : Int) then
  bif a1 == (47 : Int) then
   some (true)
  else
   (F.class_between n a1 (65 : Int) (90 : Int)).bind fun y2 =>
    bif y2 then
     some (true)
    else
     (F.class_between n a1 (97 : Int) (122 : Int)).bind fun y3 =>
      bif y3 then
       some (true)
      else
      bif a1 == (95 : Int) then
       some (true)
      else
      bif a1 == (46 : Int) then
       some (true)
      else
      bif a1 == (45 : Int) then
       some (true)
      else
       (F.class_between n a1 (48 : Int) (57 : Int)).bind fun y4 =>
        some (y4)
 else
 bif a0 == (1 : Int) then
  (F.class_between n a1 (65 : Int) (90 : Int)).bind fun y5 =>
   bif y5 then
    some (true)
   else
    (F.class_between n a1 (97 : Int) (122 : Int)).bind fun y6 =>
     bif y6 then
      some (true)
     else
     bif a1 == (95 : Int) then
      some (true)
     else
     bif a1 == (46 : Int) then
      some (true)
     else
     bif a1 == (45 : Int) then
      some (true)
     else
      (F.class_between n a1 (48 : Int) (57 : Int)).bind fun y7 =>
       some (y7)
 else
 bif a0 == (4 : Int) then
  (F.class_between n a1 (48 : Int) (57 : Int)).bind fun y8 =>
   some (y8)
 else
  some (false)
noncomputable def F.class_Bad.L4.step {X : Type} (n : Nat) (rec : Int → Z0 → Int → Int → Option X) (k0 : Unit → Option X) (kr : Int → Int → Option X) (v0 : Int) (v1 : Z0) (v11 : Int) (v12 : Int) : Option X :=
 bif decide (v12 < v11) then
  (idx v1 v12).bind fun x2 =>
   (F.class_Is n v0 ((x2).toNat)).bind fun y3 =>
    bif !y3 then
     kr v12 (0 : Int)
    else
     rec v0 v1 v11 (IntKind.wrap .i64 (v12 + (1 : Int)))
 else
  k0 ()
noncomputable def F.class_Bad.L4 {X : Type} (n : Nat) (k0 : Unit → Option X) (kr : Int → Int → Option X) : Nat → Int → Z0 → Int → Int → Option X
 | 0 => fun _ _ _ _ => none
 | m + 1 => fun v0 v1 v11 v12 => F.class_Bad.L4.step n (F.class_Bad.L4 n k0 kr m) k0 kr v0 v1 v11 v12
noncomputable def F.class_Bad (n : Nat) (a0 : Int) (a1 : Z0) : Option ((Int) × (Int) × Unit) :=
 (F.class_may n a0).bind fun y1 =>
  bif !y1 then
   some (((0 : Int), (1 : Int), ()))
  else
   F.class_Bad.L4 n
    (fun (_ : Unit) =>
     some (((-1 : Int), (0 : Int), ())))
    (fun e4 e5 =>
     some ((e4, e5, ()))) n a0 a1 (a1.length : Int) (0 : Int)
noncomputable def F.class_Text (n : Nat) (a0 : Int) (a1 : Z0) (a2 : Int) (a3 : Int) : Option (Z11) :=
 (F.class_Bad n a0 a1).bind fun y1 =>
  bif !(y1.2.1 == (0 : Int)) then
   some (((1 : Int), (0 : Int), ()))
  else
  bif decide (a2 < (0 : Int)) then
   some (((1 : Int), (0 : Int), ()))
  else
  bif decide (a3 < a2) then
   some (((1 : Int), (0 : Int), ()))
  else
  bif decide ((a1.length : Int) < a2) then
   some (((13 : Int), (a1.length : Int), ()))
  else
  bif decide ((a1.length : Int) > a3) then
   some (((12 : Int), a3, ()))
  else
  bif decide (y1.1 ≥ (0 : Int)) then
   some (((14 : Int), y1.1, ()))
  else
   some (((0 : Int), (0 : Int), ()))
noncomputable def F.metric_look_name (n : Nat) (a0 : Z7) : Option (Bool) :=
 (F.class_Text n (1 : Int) a0.1 (1 : Int) (200 : Int)).bind fun y1 =>
  some ((y1.1 == (0 : Int)) && (y1.2.1 == (0 : Int)))
noncomputable def F.metric_between (n : Nat) (a0 : Int) (a1 : Int) (a2 : Int) : Option (Bool) :=
 bif decide (a0 ≥ a1) then
  some (decide (a0 ≤ a2))
 else
  some (false)
noncomputable def F.metric_look_kind (n : Nat) (a0 : Z7) : Option (Bool) :=
 (F.metric_between n a0.2.1 (1 : Int) (5 : Int)).bind fun y1 =>
  some (y1)
noncomputable def F.dec_times (n : Nat) (a0 : Int) (a1 : Int) : Option ((Int) × (Bool) × Unit) :=
 (O.mul64 n a0 (10 : Int)).bind fun y1 =>
  (O.add64 n y1.2.1 a1 (0 : Int)).bind fun y2 =>
   bif y1.1 == (0 : Int) then
    some ((y2.1, y2.2.1 == (0 : Int), ()))
   else
    some ((y2.1, false, ()))
noncomputable def F.dec_Normal.L3.step {X : Type} (n : Nat) (rec : Bool → Int → Int → Bool → Int → Int → Option X) (k0 : Bool → Int → Int → Bool → Int → Int → Option X) (ab0 : Bool) (ab1 : Int) (ab2 : Int) (bb0 : Bool) (bb1 : Int) (bb2 : Int) : Option X :=
 bif (ab1.tmod (10 : Int)) == (0 : Int) then
  bif decide (ab2 < (18 : Int)) then
   rec ab0 (IntKind.wrap .u64 (ab1.tdiv (10 : Int))) (IntKind.wrap .i64 (ab2 + (1 : Int))) bb0 bb1 bb2
  else
   k0 ab0 ab1 ab2 bb0 bb1 bb2
 else
  k0 ab0 ab1 ab2 bb0 bb1 bb2
noncomputable def F.dec_Normal.L3 {X : Type} (n : Nat) (k0 : Bool → Int → Int → Bool → Int → Int → Option X) : Nat → Bool → Int → Int → Bool → Int → Int → Option X
 | 0 => fun _ _ _ _ _ _ => none
 | m + 1 => fun ab0 ab1 ab2 bb0 bb1 bb2 => F.dec_Normal.L3.step n (F.dec_Normal.L3 n k0 m) k0 ab0 ab1 ab2 bb0 bb1 bb2
noncomputable def F.dec_Normal.L5.step {X : Type} (n : Nat) (rec : Bool → Int → Int → Bool → Int → Int → Option X) (k2 : Bool → Int → Int → Bool → Int → Int → Option X) (kr : Int → Bool → Int → Int → Bool → Int → Int → Option X) (ab0 : Bool) (ab1 : Int) (ab2 : Int) (bb0 : Bool) (bb1 : Int) (bb2 : Int) : Option X :=
 bif decide (ab2 > (18 : Int)) then
  (F.dec_times n ab1 (0 : Int)).bind fun y2 =>
   bif !y2.2.1 then
    kr (10 : Int) ab0 ab1 ab2 false (0 : Int) (0 : Int)
   else
    rec ab0 y2.1 (IntKind.wrap .i64 (ab2 - (1 : Int))) bb0 bb1 bb2
 else
  k2 ab0 ab1 ab2 bb0 bb1 bb2
noncomputable def F.dec_Normal.L5 {X : Type} (n : Nat) (k2 : Bool → Int → Int → Bool → Int → Int → Option X) (kr : Int → Bool → Int → Int → Bool → Int → Int → Option X) : Nat → Bool → Int → Int → Bool → Int → Int → Option X
 | 0 => fun _ _ _ _ _ _ => none
 | m + 1 => fun ab0 ab1 ab2 bb0 bb1 bb2 => F.dec_Normal.L5.step n (F.dec_Normal.L5 n k2 kr m) k2 kr ab0 ab1 ab2 bb0 bb1 bb2
noncomputable def F.dec_Normal (n : Nat) (a0 : Z12) : Option ((Z12) × (Int) × Unit) :=
 bif a0.2.1 == (0 : Int) then
  some (((false, (0 : Int), (0 : Int), ()), (0 : Int), ()))
 else
  F.dec_Normal.L3 n
   (fun g0 g1 g2 h0 h1 h2 =>
    F.dec_Normal.L5 n
     (fun g0 g1 g2 h0 h1 h2 =>
      bif decide (g2 < (-18 : Int)) then
       some (((false, (0 : Int), (0 : Int), ()), (10 : Int), ()))
      else
       some (((g0, g1, g2, ()), (0 : Int), ())))
     (fun e3 g0 g1 g2 h0 h1 h2 =>
      some (((h0, h1, h2, ()), e3, ()))) n g0 g1 g2 h0 h1 h2) n a0.1 a0.2.1 a0.2.2.1 false (0 : Int) (0 : Int)
noncomputable def F.dec_Check (n : Nat) (a0 : Z12) : Option (Int) :=
 bif !(a0.2.1 == (0 : Int)) then
  bif decide (a0.2.2.1 < (-18 : Int)) then
   some ((10 : Int))
  else
  bif decide (a0.2.2.1 > (18 : Int)) then
   some ((10 : Int))
  else
   (F.dec_Normal n (a0.1, a0.2.1, a0.2.2.1, ())).bind fun y1 =>
    bif !(y1.2.1 == (0 : Int)) then
     some ((21 : Int))
    else
    bif !((y1.1.1 == a0.1) && ((y1.1.2.1 == a0.2.1) && (y1.1.2.2.1 == a0.2.2.1))) then
     some ((21 : Int))
    else
     some ((0 : Int))
 else
  (F.dec_Normal n (a0.1, a0.2.1, a0.2.2.1, ())).bind fun y2 =>
   bif !(y2.2.1 == (0 : Int)) then
    some ((21 : Int))
   else
   bif !((y2.1.1 == a0.1) && ((y2.1.2.1 == a0.2.1) && (y2.1.2.2.1 == a0.2.2.1))) then
    some ((21 : Int))
   else
    some ((0 : Int))
noncomputable def F.metric_look_values_1 (n : Nat) (a0 : Z12) : Option (Bool) :=
 (F.dec_Check n (a0.1, a0.2.1, a0.2.2.1, ())).bind fun y1 =>
  some (!(y1 == (0 : Int)))
noncomputable def F.metric_look_values.L2_slices_IndexFunc_api_Dec_api_Dec.step {X : Type} (n : Nat) (rec : Z2 → Int → Int → Z0 → Int → Z2 → Int → Z4 → Int → Option X) (k0 : Z0 → Int → Z2 → Int → Z4 → Int → Option X) (kr : Int → Z0 → Int → Z2 → Int → Z4 → Int → Option X) (v0 : Z2) (v7 : Int) (v8 : Int) (ab0 : Z0) (ab1 : Int) (ab2 : Z2) (ab3 : Int) (ab4 : Z4) (ab5 : Int) : Option X :=
 bif decide (v8 < v7) then
  (idx v0 v8).bind fun x2 =>
   (F.metric_look_values_1 n (x2.1, x2.2.1, x2.2.2, ())).bind fun y3 =>
    bif y3 then
     kr v8 ab0 ab1 ab2 ab3 ab4 ab5
    else
     rec v0 v7 (IntKind.wrap .i64 (v8 + (1 : Int))) ab0 ab1 ab2 ab3 ab4 ab5
 else
  k0 ab0 ab1 ab2 ab3 ab4 ab5
noncomputable def F.metric_look_values.L2_slices_IndexFunc_api_Dec_api_Dec {X : Type} (n : Nat) (k0 : Z0 → Int → Z2 → Int → Z4 → Int → Option X) (kr : Int → Z0 → Int → Z2 → Int → Z4 → Int → Option X) : Nat → Z2 → Int → Int → Z0 → Int → Z2 → Int → Z4 → Int → Option X
 | 0 => fun _ _ _ _ _ _ _ _ _ => none
 | m + 1 => fun v0 v7 v8 ab0 ab1 ab2 ab3 ab4 ab5 => F.metric_look_values.L2_slices_IndexFunc_api_Dec_api_Dec.step n (F.metric_look_values.L2_slices_IndexFunc_api_Dec_api_Dec n k0 kr m) k0 kr v0 v7 v8 ab0 ab1 ab2 ab3 ab4 ab5
noncomputable def F.metric_look_values (n : Nat) (a0 : Z7) : Option (Bool) :=
 (F.metric_between n (a0.2.2.1.length : Int) (1 : Int) (64 : Int)).bind fun y1 =>
  bif y1 then
   F.metric_look_values.L2_slices_IndexFunc_api_Dec_api_Dec n
    (fun g0 g1 g2 g3 g4 g5 =>
     some (true))
    (fun e4 g0 g1 g2 g3 g4 g5 =>
     some (!(decide (e4 ≥ (0 : Int))))) n a0.2.2.1 (a0.2.2.1.length : Int) (0 : Int) a0.1 a0.2.1 a0.2.2.1 a0.2.2.2.1 a0.2.2.2.2.1 a0.2.2.2.2.2.1
  else
   some (false)
noncomputable def F.metric_look_rate (n : Nat) (a0 : Z7) : Option (Bool) :=
 (F.metric_between n a0.2.2.2.1 (1 : Int) (1000000 : Int)).bind fun y1 =>
  bif y1 then
   bif !(a0.2.1 == (2 : Int)) then
    some (true)
   else
    some (a0.2.2.2.1 == (1000000 : Int))
  else
   some (false)
noncomputable def F.tag_Check (n : Nat) (a0 : Z13) : Option (Int) :=
 (F.class_Text n (2 : Int) a0.1 (1 : Int) (64 : Int)).bind fun y1 =>
  bif !((y1.1 == (0 : Int)) && (y1.2.1 == (0 : Int))) then
   some ((19 : Int))
  else
   (F.class_Text n (3 : Int) a0.2.1 (0 : Int) (100 : Int)).bind fun y2 =>
    bif !((y2.1 == (0 : Int)) && (y2.2.1 == (0 : Int))) then
     some ((19 : Int))
    else
     some ((0 : Int))
noncomputable def F.metric_look_tags_1 (n : Nat) (a0 : Z13) : Option (Bool) :=
 (F.tag_Check n (a0.1, a0.2.1, ())).bind fun y1 =>
  some (!(y1 == (0 : Int)))
noncomputable def F.metric_look_tags.L2_slices_IndexFunc_api_Tag_api_Tag.step {X : Type} (n : Nat) (rec : Z4 → Int → Int → Z0 → Int → Z2 → Int → Z4 → Int → Option X) (k0 : Z0 → Int → Z2 → Int → Z4 → Int → Option X) (kr : Int → Z0 → Int → Z2 → Int → Z4 → Int → Option X) (v0 : Z4) (v7 : Int) (v8 : Int) (ab0 : Z0) (ab1 : Int) (ab2 : Z2) (ab3 : Int) (ab4 : Z4) (ab5 : Int) : Option X :=
 bif decide (v8 < v7) then
  (idx v0 v8).bind fun x1 =>
   (F.metric_look_tags_1 n (x1.1, x1.2, ())).bind fun y2 =>
    bif y2 then
     kr v8 ab0 ab1 ab2 ab3 ab4 ab5
    else
     rec v0 v7 (IntKind.wrap .i64 (v8 + (1 : Int))) ab0 ab1 ab2 ab3 ab4 ab5
 else
  k0 ab0 ab1 ab2 ab3 ab4 ab5
noncomputable def F.metric_look_tags.L2_slices_IndexFunc_api_Tag_api_Tag {X : Type} (n : Nat) (k0 : Z0 → Int → Z2 → Int → Z4 → Int → Option X) (kr : Int → Z0 → Int → Z2 → Int → Z4 → Int → Option X) : Nat → Z4 → Int → Int → Z0 → Int → Z2 → Int → Z4 → Int → Option X
 | 0 => fun _ _ _ _ _ _ _ _ _ => none
 | m + 1 => fun v0 v7 v8 ab0 ab1 ab2 ab3 ab4 ab5 => F.metric_look_tags.L2_slices_IndexFunc_api_Tag_api_Tag.step n (F.metric_look_tags.L2_slices_IndexFunc_api_Tag_api_Tag n k0 kr m) k0 kr v0 v7 v8 ab0 ab1 ab2 ab3 ab4 ab5
noncomputable def F.metric_look_tags (n : Nat) (a0 : Z7) : Option (Bool) :=
 bif decide ((a0.2.2.2.2.1.length : Int) ≤ (32 : Int)) then
  F.metric_look_tags.L2_slices_IndexFunc_api_Tag_api_Tag n
   (fun g0 g1 g2 g3 g4 g5 =>
    some (true))
   (fun e4 g0 g1 g2 g3 g4 g5 =>
    some (!(decide (e4 ≥ (0 : Int))))) n a0.2.2.2.2.1 (a0.2.2.2.2.1.length : Int) (0 : Int) a0.1 a0.2.1 a0.2.2.1 a0.2.2.2.1 a0.2.2.2.2.1 a0.2.2.2.2.2.1
 else
  some (false)
noncomputable def F.metric_look_time (n : Nat) (a0 : Z7) : Option (Bool) :=
 (F.metric_between n a0.2.2.2.2.2.1 (0 : Int) (1099511627776 : Int)).bind fun y1 =>
  some (y1)
noncomputable def F.metric_Check.L3.step {X : Type} (n : Nat) (rec : Z10 → Int → Z0 → Int → Z2 → Int → Z4 → Int → Z0 → Int → Z2 → Int → Z4 → Int → Option X) (k0 : Z0 → Int → Z2 → Int → Z4 → Int → Z0 → Int → Z2 → Int → Z4 → Int → Option X) (kr : Int → Z0 → Int → Z2 → Int → Z4 → Int → Z0 → Int → Z2 → Int → Z4 → Int → Option X) (v26 : Z10) (v27 : Int) (ab0 : Z0) (ab1 : Int) (ab2 : Z2) (ab3 : Int) (ab4 : Z4) (ab5 : Int) (bb0 : Z0) (bb1 : Int) (bb2 : Z2) (bb3 : Int) (bb4 : Z4) (bb5 : Int) : Option X :=
 bif decide (v27 < (6 : Int)) then
  bif v27 == (0 : Int) then
   (F.metric_look_name n (v26.1.1.1.1, v26.1.1.1.2.1, v26.1.1.1.2.2.1, v26.1.1.1.2.2.2.1, v26.1.1.1.2.2.2.2.1, v26.1.1.1.2.2.2.2.2.1, ())).bind fun y1 =>
    bif !y1 then
     kr v26.2.1 ab0 ab1 ab2 ab3 ab4 ab5 bb0 bb1 bb2 bb3 bb4 bb5
    else
     rec ((((v26.1.1.1.1, v26.1.1.1.2.1, v26.1.1.1.2.2.1, v26.1.1.1.2.2.2.1, v26.1.1.1.2.2.2.2.1, v26.1.1.1.2.2.2.2.2.1, ()), ()), (())), v26.2.1, (((v26.2.2.1.1.1.1, v26.2.2.1.1.1.2.1, v26.2.2.1.1.1.2.2.1, v26.2.2.1.1.1.2.2.2.1, v26.2.2.1.1.1.2.2.2.2.1, v26.2.2.1.1.1.2.2.2.2.2.1, ()), ()), (())), v26.2.2.2.1, (((v26.2.2.2.2.1.1.1.1, v26.2.2.2.2.1.1.1.2.1, v26.2.2.2.2.1.1.1.2.2.1, v26.2.2.2.2.1.1.1.2.2.2.1, v26.2.2.2.2.1.1.1.2.2.2.2.1, v26.2.2.2.2.1.1.1.2.2.2.2.2.1, ()), ()), (())), v26.2.2.2.2.2.1, (((v26.2.2.2.2.2.2.1.1.1.1, v26.2.2.2.2.2.2.1.1.1.2.1, v26.2.2.2.2.2.2.1.1.1.2.2.1, v26.2.2.2.2.2.2.1.1.1.2.2.2.1, v26.2.2.2.2.2.2.1.1.1.2.2.2.2.1, v26.2.2.2.2.2.2.1.1.1.2.2.2.2.2.1, ()), ()), (())), v26.2.2.2.2.2.2.2.1, (((v26.2.2.2.2.2.2.2.2.1.1.1.1, v26.2.2.2.2.2.2.2.2.1.1.1.2.1, v26.2.2.2.2.2.2.2.2.1.1.1.2.2.1, v26.2.2.2.2.2.2.2.2.1.1.1.2.2.2.1, v26.2.2.2.2.2.2.2.2.1.1.1.2.2.2.2.1, v26.2.2.2.2.2.2.2.2.1.1.1.2.2.2.2.2.1, ()), ()), (())), v26.2.2.2.2.2.2.2.2.2.1, (((v26.2.2.2.2.2.2.2.2.2.2.1.1.1.1, v26.2.2.2.2.2.2.2.2.2.2.1.1.1.2.1, v26.2.2.2.2.2.2.2.2.2.2.1.1.1.2.2.1, v26.2.2.2.2.2.2.2.2.2.2.1.1.1.2.2.2.1, v26.2.2.2.2.2.2.2.2.2.2.1.1.1.2.2.2.2.1, v26.2.2.2.2.2.2.2.2.2.2.1.1.1.2.2.2.2.2.1, ()), ()), (())), v26.2.2.2.2.2.2.2.2.2.2.2.1, ()) (IntKind.wrap .i64 (v27 + (1 : Int))) ab0 ab1 ab2 ab3 ab4 ab5 bb0 bb1 bb2 bb3 bb4 bb5
  else
  bif v27 == (1 : Int) then
   (F.metric_look_kind n (v26.2.2.1.1.1.1, v26.2.2.1.1.1.2.1, v26.2.2.1.1.1.2.2.1, v26.2.2.1.1.1.2.2.2.1, v26.2.2.1.1.1.2.2.2.2.1, v26.2.2.1.1.1.2.2.2.2.2.1, ())).bind fun y2 =>
    bif !y2 then
     kr v26.2.2.2.1 ab0 ab1 ab2 ab3 ab4 ab5 bb0 bb1 bb2 bb3 bb4 bb5
    else
     rec ((((v26.1.1.1.1, v26.1.1.1.2.1, v26.1.1.1.2.2.1, v26.1.1.1.2.2.2.1, v26.1.1.1.2.2.2.2.1, v26.1.1.1.2.2.2.2.2.1, ()), ()), (())), v26.2.1, (((v26.2.2.1.1.1.1, v26.2.2.1.1.1.2.1, v26.2.2.1.1.1.2.2.1, v26.2.2.1.1.1.2.2.2.1, v26.2.2.1.1.1.2.2.2.2.1, v26.2.2.1.1.1.2.2.2.2.2.1, ()), ()), (())), v26.2.2.2.1, (((v26.2.2.2.2.1.1.1.1, v26.2.2.2.2.1.1.1.2.1, v26.2.2.2.2.1.1.1.2.2.1, v26.2.2.2.2.1.1.1.2.2.2.1, v26.2.2.2.2.1.1.1.2.2.2.2.1, v26.2.2.2.2.1.1.1.2.2.2.2.2.1, ()), ()), (())), v26.2.2.2.2.2.1, (((v26.2.2.2.2.2.2.1.1.1.1, v26.2.2.2.2.2.2.1.1.1.2.1, v26.2.2.2.2.2.2.1.1.1.2.2.1, v26.2.2.2.2.2.2.1.1.1.2.2.2.1, v26.2.2.2.2.2.2.1.1.1.2.2.2.2.1, v26.2.2.2.2.2.2.1.1.1.2.2.2.2.2.1, ()), ()), (())), v26.2.2.2.2.2.2.2.1, (((v26.2.2.2.2.2.2.2.2.1.1.1.1, v26.2.2.2.2.2.2.2.2.1.1.1.2.1, v26.2.2.2.2.2.2.2.2.1.1.1.2.2.1, v26.2.2.2.2.2.2.2.2.1.1.1.2.2.2.1, v26.2.2.2.2.2.2.2.2.1.1.1.2.2.2.2.1, v26.2.2.2.2.2.2.2.2.1.1.1.2.2.2.2.2.1, ()), ()), (())), v26.2.2.2.2.2.2.2.2.2.1, (((v26.2.2.2.2.2.2.2.2.2.2.1.1.1.1, v26.2.2.2.2.2.2.2.2.2.2.1.1.1.2.1, v26.2.2.2.2.2.2.2.2.2.2.1.1.1.2.2.1, v26.2.2.2.2.2.2.2.2.2.2.1.1.1.2.2.2.1, v26.2.2.2.2.2.2.2.2.2.2.1.1.1.2.2.2.2.1, v26.2.2.2.2.2.2.2.2.2.2.1.1.1.2.2.2.2.2.1, ()), ()), (())), v26.2.2.2.2.2.2.2.2.2.2.2.1, ()) (IntKind.wrap .i64 (v27 + (1 : Int))) ab0 ab1 ab2 ab3 ab4 ab5 bb0 bb1 bb2 bb3 bb4 bb5
  else
  bif v27 == (2 : Int) then
   (F.metric_look_values n (v26.2.2.2.2.1.1.1.1, v26.2.2.2.2.1.1.1.2.1, v26.2.2.2.2.1.1.1.2.2.1, v26.2.2.2.2.1.1.1.2.2.2.1, v26.2.2.2.2.1.1.1.2.2.2.2.1, v26.2.2.2.2.1.1.1.2.2.2.2.2.1, ())).bind fun y3 =>
    bif !y3 then
     kr v26.2.2.2.2.2.1 ab0 ab1 ab2 ab3 ab4 ab5 bb0 bb1 bb2 bb3 bb4 bb5
    else
     rec ((((v26.1.1.1.1, v26.1.1.1.2.1, v26.1.1.1.2.2.1, v26.1.1.1.2.2.2.1, v26.1.1.1.2.2.2.2.1, v26.1.1.1.2.2.2.2.2.1, ()), ()), (())), v26.2.1, (((v26.2.2.1.1.1.1, v26.2.2.1.1.1.2.1, v26.2.2.1.1.1.2.2.1, v26.2.2.1.1.1.2.2.2.1, v26.2.2.1.1.1.2.2.2.2.1, v26.2.2.1.1.1.2.2.2.2.2.1, ()), ()), (())), v26.2.2.2.1, (((v26.2.2.2.2.1.1.1.1, v26.2.2.2.2.1.1.1.2.1, v26.2.2.2.2.1.1.1.2.2.1, v26.2.2.2.2.1.1.1.2.2.2.1, v26.2.2.2.2.1.1.1.2.2.2.2.1, v26.2.2.2.2.1.1.1.2.2.2.2.2.1, ()), ()), (())), v26.2.2.2.2.2.1, (((v26.2.2.2.2.2.2.1.1.1.1, v26.2.2.2.2.2.2.1.1.1.2.1, v26.2.2.2.2.2.2.1.1.1.2.2.1, v26.2.2.2.2.2.2.1.1.1.2.2.2.1, v26.2.2.2.2.2.2.1.1.1.2.2.2.2.1, v26.2.2.2.2.2.2.1.1.1.2.2.2.2.2.1, ()), ()), (())), v26.2.2.2.2.2.2.2.1, (((v26.2.2.2.2.2.2.2.2.1.1.1.1, v26.2.2.2.2.2.2.2.2.1.1.1.2.1, v26.2.2.2.2.2.2.2.2.1.1.1.2.2.1, v26.2.2.2.2.2.2.2.2.1.1.1.2.2.2.1, v26.2.2.2.2.2.2.2.2.1.1.1.2.2.2.2.1, v26.2.2.2.2.2.2.2.2.1.1.1.2.2.2.2.2.1, ()), ()), (())), v26.2.2.2.2.2.2.2.2.2.1, (((v26.2.2.2.2.2.2.2.2.2.2.1.1.1.1, v26.2.2.2.2.2.2.2.2.2.2.1.1.1.2.1, v26.2.2.2.2.2.2.2.2.2.2.1.1.1.2.2.1, v26.2.2.2.2.2.2.2.2.2.2.1.1.1.2.2.2.1, v26.2.2.2.2.2.2.2.2.2.2.1.1.1.2.2.2.2.1, v26.2.2.2.2.2.2.2.2.2.2.1.1.1.2.2.2.2.2.1, ()), ()), (())), v26.2.2.2.2.2.2.2.2.2.2.2.1, ()) (IntKind.wrap .i64 (v27 + (1 : Int))) ab0 ab1 ab2 ab3 ab4 ab5 bb0 bb1 bb2 bb3 bb4 bb5
  else
  bif v27 == (3 : Int) then
   (F.metric_look_rate n (v26.2.2.2.2.2.2.1.1.1.1, v26.2.2.2.2.2.2.1.1.1.2.1, v26.2.2.2.2.2.2.1.1.1.2.2.1, v26.2.2.2.2.2.2.1.1.1.2.2.2.1, v26.2.2.2.2.2.2.1.1.1.2.2.2.2.1, v26.2.2.2.2.2.2.1.1.1.2.2.2.2.2.1, ())).bind fun y4 =>
    bif !y4 then
     kr v26.2.2.2.2.2.2.2.1 ab0 ab1 ab2 ab3 ab4 ab5 bb0 bb1 bb2 bb3 bb4 bb5
    else
     rec ((((v26.1.1.1.1, v26.1.1.1.2.1, v26.1.1.1.2.2.1, v26.1.1.1.2.2.2.1, v26.1.1.1.2.2.2.2.1, v26.1.1.1.2.2.2.2.2.1, ()), ()), (())), v26.2.1, (((v26.2.2.1.1.1.1, v26.2.2.1.1.1.2.1, v26.2.2.1.1.1.2.2.1, v26.2.2.1.1.1.2.2.2.1, v26.2.2.1.1.1.2.2.2.2.1, v26.2.2.1.1.1.2.2.2.2.2.1, ()), ()), (())), v26.2.2.2.1, (((v26.2.2.2.2.1.1.1.1, v26.2.2.2.2.1.1.1.2.1, v26.2.2.2.2.1.1.1.2.2.1, v26.2.2.2.2.1.1.1.2.2.2.1, v26.2.2.2.2.1.1.1.2.2.2.2.1, v26.2.2.2.2.1.1.1.2.2.2.2.2.1, ()), ()), (())), v26.2.2.2.2.2.1, (((v26.2.2.2.2.2.2.1.1.1.1, v26.2.2.2.2.2.2.1.1.1.2.1, v26.2.2.2.2.2.2.1.1.1.2.2.1, v26.2.2.2.2.2.2.1.1.1.2.2.2.1, v26.2.2.2.2.2.2.1.1.1.2.2.2.2.1, v26.2.2.2.2.2.2.1.1.1.2.2.2.2.2.1, ()), ()), (())), v26.2.2.2.2.2.2.2.1, (((v26.2.2.2.2.2.2.2.2.1.1.1.1, v26.2.2.2.2.2.2.2.2.1.1.1.2.1, v26.2.2.2.2.2.2.2.2.1.1.1.2.2.1, v26.2.2.2.2.2.2.2.2.1.1.1.2.2.2.1, v26.2.2.2.2.2.2.2.2.1.1.1.2.2.2.2.1, v26.2.2.2.2.2.2.2.2.1.1.1.2.2.2.2.2.1, ()), ()), (())), v26.2.2.2.2.2.2.2.2.2.1, (((v26.2.2.2.2.2.2.2.2.2.2.1.1.1.1, v26.2.2.2.2.2.2.2.2.2.2.1.1.1.2.1, v26.2.2.2.2.2.2.2.2.2.2.1.1.1.2.2.1, v26.2.2.2.2.2.2.2.2.2.2.1.1.1.2.2.2.1, v26.2.2.2.2.2.2.2.2.2.2.1.1.1.2.2.2.2.1, v26.2.2.2.2.2.2.2.2.2.2.1.1.1.2.2.2.2.2.1, ()), ()), (())), v26.2.2.2.2.2.2.2.2.2.2.2.1, ()) (IntKind.wrap .i64 (v27 + (1 : Int))) ab0 ab1 ab2 ab3 ab4 ab5 bb0 bb1 bb2 bb3 bb4 bb5
  else
  bif v27 == (4 : Int) then
   (F.metric_look_tags n (v26.2.2.2.2.2.2.2.2.1.1.1.1, v26.2.2.2.2.2.2.2.2.1.1.1.2.1, v26.2.2.2.2.2.2.2.2.1.1.1.2.2.1, v26.2.2.2.2.2.2.2.2.1.1.1.2.2.2.1, v26.2.2.2.2.2.2.2.2.1.1.1.2.2.2.2.1, v26.2.2.2.2.2.2.2.2.1.1.1.2.2.2.2.2.1, ())).bind fun y5 =>
    bif !y5 then
     kr v26.2.2.2.2.2.2.2.2.2.1 ab0 ab1 ab2 ab3 ab4 ab5 bb0 bb1 bb2 bb3 bb4 bb5
    else
     rec ((((v26.1.1.1.1, v26.1.1.1.2.1, v26.1.1.1.2.2.1, v26.1.1.1.2.2.2.1, v26.1.1.1.2.2.2.2.1, v26.1.1.1.2.2.2.2.2.1, ()), ()), (())), v26.2.1, (((v26.2.2.1.1.1.1, v26.2.2.1.1.1.2.1, v26.2.2.1.1.1.2.2.1, v26.2.2.1.1.1.2.2.2.1, v26.2.2.1.1.1.2.2.2.2.1, v26.2.2.1.1.1.2.2.2.2.2.1, ()), ()), (())), v26.2.2.2.1, (((v26.2.2.2.2.1.1.1.1, v26.2.2.2.2.1.1.1.2.1, v26.2.2.2.2.1.1.1.2.2.1, v26.2.2.2.2.1.1.1.2.2.2.1, v26.2.2.2.2.1.1.1.2.2.2.2.1, v26.2.2.2.2.1.1.1.2.2.2.2.2.1, ()), ()), (())), v26.2.2.2.2.2.1, (((v26.2.2.2.2.2.2.1.1.1.1, v26.2.2.2.2.2.2.1.1.1.2.1, v26.2.2.2.2.2.2.1.1.1.2.2.1, v26.2.2.2.2.2.2.1.1.1.2.2.2.1, v26.2.2.2.2.2.2.1.1.1.2.2.2.2.1, v26.2.2.2.2.2.2.1.1.1.2.2.2.2.2.1, ()), ()), (())), v26.2.2.2.2.2.2.2.1, (((v26.2.2.2.2.2.2.2.2.1.1.1.1, v26.2.2.2.2.2.2.2.2.1.1.1.2.1, v26.2.2.2.2.2.2.2.2.1.1.1.2.2.1, v26.2.2.2.2.2.2.2.2.1.1.1.2.2.2.1, v26.2.2.2.2.2.2.2.2.1.1.1.2.2.2.2.1, v26.2.2.2.2.2.2.2.2.1.1.1.2.2.2.2.2.1, ()), ()), (())), v26.2.2.2.2.2.2.2.2.2.1, (((v26.2.2.2.2.2.2.2.2.2.2.1.1.1.1, v26.2.2.2.2.2.2.2.2.2.2.1.1.1.2.1, v26.2.2.2.2.2.2.2.2.2.2.1.1.1.2.2.1, v26.2.2.2.2.2.2.2.2.2.2.1.1.1.2.2.2.1, v26.2.2.2.2.2.2.2.2.2.2.1.1.1.2.2.2.2.1, v26.2.2.2.2.2.2.2.2.2.2.1.1.1.2.2.2.2.2.1, ()), ()), (())), v26.2.2.2.2.2.2.2.2.2.2.2.1, ()) (IntKind.wrap .i64 (v27 + (1 : Int))) ab0 ab1 ab2 ab3 ab4 ab5 bb0 bb1 bb2 bb3 bb4 bb5
  else
  bif v27 == (5 : Int) then
   (F.metric_look_time n (v26.2.2.2.2.2.2.2.2.2.2.1.1.1.1, v26.2.2.2.2.2.2.2.2.2.2.1.1.1.2.1, v26.2.2.2.2.2.2.2.2.2.2.1.1.1.2.2.1, v26.2.2.2.2.2.2.2.2.2.2.1.1.1.2.2.2.1, v26.2.2.2.2.2.2.2.2.2.2.1.1.1.2.2.2.2.1, v26.2.2.2.2.2.2.2.2.2.2.1.1.1.2.2.2.2.2.1, ())).bind fun y6 =>
    bif !y6 then
     kr v26.2.2.2.2.2.2.2.2.2.2.2.1 ab0 ab1 ab2 ab3 ab4 ab5 bb0 bb1 bb2 bb3 bb4 bb5
    else
     rec ((((v26.1.1.1.1, v26.1.1.1.2.1, v26.1.1.1.2.2.1, v26.1.1.1.2.2.2.1, v26.1.1.1.2.2.2.2.1, v26.1.1.1.2.2.2.2.2.1, ()), ()), (())), v26.2.1, (((v26.2.2.1.1.1.1, v26.2.2.1.1.1.2.1, v26.2.2.1.1.1.2.2.1, v26.2.2.1.1.1.2.2.2.1, v26.2.2.1.1.1.2.2.2.2.1, v26.2.2.1.1.1.2.2.2.2.2.1, ()), ()), (())), v26.2.2.2.1, (((v26.2.2.2.2.1.1.1.1, v26.2.2.2.2.1.1.1.2.1, v26.2.2.2.2.1.1.1.2.2.1, v26.2.2.2.2.1.1.1.2.2.2.1, v26.2.2.2.2.1.1.1.2.2.2.2.1, v26.2.2.2.2.1.1.1.2.2.2.2.2.1, ()), ()), (())), v26.2.2.2.2.2.1, (((v26.2.2.2.2.2.2.1.1.1.1, v26.2.2.2.2.2.2.1.1.1.2.1, v26.2.2.2.2.2.2.1.1.1.2.2.1, v26.2.2.2.2.2.2.1.1.1.2.2.2.1, v26.2.2.2.2.2.2.1.1.1.2.2.2.2.1, v26.2.2.2.2.2.2.1.1.1.2.2.2.2.2.1, ()), ()), (())), v26.2.2.2.2.2.2.2.1, (((v26.2.2.2.2.2.2.2.2.1.1.1.1, v26.2.2.2.2.2.2.2.2.1.1.1.2.1, v26.2.2.2.2.2.2.2.2.1.1.1.2.2.1, v26.2.2.2.2.2.2.2.2.1.1.1.2.2.2.1, v26.2.2.2.2.2.2.2.2.1.1.1.2.2.2.2.1, v26.2.2.2.2.2.2.2.2.1.1.1.2.2.2.2.2.1, ()), ()), (())), v26.2.2.2.2.2.2.2.2.2.1, (((v26.2.2.2.2.2.2.2.2.2.2.1.1.1.1, v26.2.2.2.2.2.2.2.2.2.2.1.1.1.2.1, v26.2.2.2.2.2.2.2.2.2.2.1.1.1.2.2.1, v26.2.2.2.2.2.2.2.2.2.2.1.1.1.2.2.2.1, v26.2.2.2.2.2.2.2.2.2.2.1.1.1.2.2.2.2.1, v26.2.2.2.2.2.2.2.2.2.2.1.1.1.2.2.2.2.2.1, ()), ()), (())), v26.2.2.2.2.2.2.2.2.2.2.2.1, ()) (IntKind.wrap .i64 (v27 + (1 : Int))) ab0 ab1 ab2 ab3 ab4 ab5 bb0 bb1 bb2 bb3 bb4 bb5
  else
   none
 else
  k0 ab0 ab1 ab2 ab3 ab4 ab5 bb0 bb1 bb2 bb3 bb4 bb5
noncomputable def F.metric_Check.L3 {X : Type} (n : Nat) (k0 : Z0 → Int → Z2 → Int → Z4 → Int → Z0 → Int → Z2 → Int → Z4 → Int → Option X) (kr : Int → Z0 → Int → Z2 → Int → Z4 → Int → Z0 → Int → Z2 → Int → Z4 → Int → Option X) : Nat → Z10 → Int → Z0 → Int → Z2 → Int → Z4 → Int → Z0 → Int → Z2 → Int → Z4 → Int → Option X
 | 0 => fun _ _ _ _ _ _ _ _ _ _ _ _ _ _ => none
 | m + 1 => fun v26 v27 ab0 ab1 ab2 ab3 ab4 ab5 bb0 bb1 bb2 bb3 bb4 bb5 => F.metric_Check.L3.step n (F.metric_Check.L3 n k0 kr m) k0 kr v26 v27 ab0 ab1 ab2 ab3 ab4 ab5 bb0 bb1 bb2 bb3 bb4 bb5
noncomputable def F.metric_Check (n : Nat) (a0 : Z7) : Option (Int) :=
 F.metric_Check.L3 n
  (fun g0 g1 g2 g3 g4 g5 h0 h1 h2 h3 h4 h5 =>
   some ((0 : Int)))
  (fun e2 g0 g1 g2 g3 g4 g5 h0 h1 h2 h3 h4 h5 =>
   some (e2)) n ((((a0.1, a0.2.1, a0.2.2.1, a0.2.2.2.1, a0.2.2.2.2.1, a0.2.2.2.2.2.1, ()), ()), (())), (15 : Int), (((a0.1, a0.2.1, a0.2.2.1, a0.2.2.2.1, a0.2.2.2.2.1, a0.2.2.2.2.2.1, ()), ()), (())), (16 : Int), (((a0.1, a0.2.1, a0.2.2.1, a0.2.2.2.1, a0.2.2.2.2.1, a0.2.2.2.2.2.1, ()), ()), (())), (17 : Int), (((a0.1, a0.2.1, a0.2.2.1, a0.2.2.2.1, a0.2.2.2.2.1, a0.2.2.2.2.2.1, ()), ()), (())), (18 : Int), (((a0.1, a0.2.1, a0.2.2.1, a0.2.2.2.1, a0.2.2.2.2.1, a0.2.2.2.2.2.1, ()), ()), (())), (19 : Int), (((a0.1, a0.2.1, a0.2.2.1, a0.2.2.2.1, a0.2.2.2.2.1, a0.2.2.2.2.2.1, ()), ()), (())), (20 : Int), ()) (0 : Int) a0.1 a0.2.1 a0.2.2.1 a0.2.2.2.1 a0.2.2.2.2.1 a0.2.2.2.2.2.1 a0.1 a0.2.1 a0.2.2.1 a0.2.2.2.1 a0.2.2.2.2.1 a0.2.2.2.2.2.1
noncomputable def F.batch_Check_1 (n : Nat) (a0 : Z7) : Option ((Bool) × (Int) × Unit) :=
 (F.metric_Check n (a0.1, a0.2.1, a0.2.2.1, a0.2.2.2.1, a0.2.2.2.2.1, a0.2.2.2.2.2.1, ())).bind fun y1 =>
  some ((true, y1, ()))
noncomputable def F.batch_Check.L1_batch_all_bool_1.step {X : Type} (n : Nat) (rec : Z6 → Int → Int → Z8 → Int → Int → Z8 → Z6 → Nat → Nat → Option X) (k0 : Z8 → Int → Int → Z8 → Z6 → Nat → Nat → Option X) (kr : Z8 → Int → Int → Z8 → Z6 → Nat → Nat → Option X) (krx1 : Z8 → Int → Int → Z8 → Z6 → Nat → Nat → Option X) (v8 : Z6) (v9 : Int) (v10 : Int) (ab0 : Z8) (bb0 : Int) (cb0 : Int) (db0 : Z8) (hb0 : Z6) (vk0 : Nat) (vk1 : Nat) : Option X :=
 bif decide (v10 < v9) then
  (idx v8 v10).bind fun x1 =>
   (F.batch_Check_1 n (x1.1, x1.2.1, x1.2.2.1, x1.2.2.2.1, x1.2.2.2.2.1, x1.2.2.2.2.2, ())).bind fun y2 =>
    bif !(y2.2.1 == (0 : Int)) then
     kr [] (db0.length : Int) y2.2.1 db0 hb0 0 vk1
    else
    bif decide ((db0.length + 1) * 1 ≤ 2 ^ 46) && decide (0 < 1 ∧ 1 ≤ 2 ^ 20) then
     bif Nat.beq vk1 db0.length then
      bif !(y2.2.1 == (0 : Int)) then
       krx1 ab0 bb0 cb0 (db0 ++ ([y2.1])) hb0 vk0 ((db0 ++ ([y2.1])).length)
      else
       rec v8 v9 (IntKind.wrap .i64 (v10 + (1 : Int))) ab0 bb0 cb0 (db0 ++ ([y2.1])) hb0 vk0 ((db0 ++ ([y2.1])).length)
     else
      none
    else
     none
 else
  k0 ab0 bb0 cb0 db0 hb0 vk0 vk1
noncomputable def F.batch_Check.L1_batch_all_bool_1 {X : Type} (n : Nat) (k0 : Z8 → Int → Int → Z8 → Z6 → Nat → Nat → Option X) (kr : Z8 → Int → Int → Z8 → Z6 → Nat → Nat → Option X) (krx1 : Z8 → Int → Int → Z8 → Z6 → Nat → Nat → Option X) : Nat → Z6 → Int → Int → Z8 → Int → Int → Z8 → Z6 → Nat → Nat → Option X
 | 0 => fun _ _ _ _ _ _ _ _ _ _ => none
 | m + 1 => fun v8 v9 v10 ab0 bb0 cb0 db0 hb0 vk0 vk1 => F.batch_Check.L1_batch_all_bool_1.step n (F.batch_Check.L1_batch_all_bool_1 n k0 kr krx1 m) k0 kr krx1 v8 v9 v10 ab0 bb0 cb0 db0 hb0 vk0 vk1
noncomputable def F.batch_Check (n : Nat) (a0 : Z6) : Option ((Int) × (Int) × Unit) :=
 bif decide ((a0.length : Int) > (1000 : Int)) then
  some (((1000 : Int), (12 : Int), ()))
 else
  F.batch_Check.L1_batch_all_bool_1 n
   (fun g0 h0 i0 j0 l0 ek0 ek1 =>
    some (((0 : Int), (0 : Int), ())))
   (fun g0 h0 i0 j0 l0 ek0 ek1 =>
    some ((h0, i0, ())))
   (fun g0 h0 i0 j0 l0 ek0 ek1 =>
    some (((0 : Int), (0 : Int), ()))) n a0 (a0.length : Int) (0 : Int) [] (0 : Int) (0 : Int) [] a0 0 0
noncomputable def F.expr_said_bare (n : Nat) (a0 : Z7) : Option (Bool) :=
 bif (a0.2.2.1.length : Int) == (1 : Int) then
  some ((a0.2.2.2.2.1.length : Int) == (0 : Int))
 else
  some (false)
noncomputable def F.expr_said_statsd (n : Nat) (a0 : Z7) : Option (Bool) :=
 (F.expr_said_bare n (a0.1, a0.2.1, a0.2.2.1, a0.2.2.2.1, a0.2.2.2.2.1, a0.2.2.2.2.2.1, ())).bind fun y1 =>
  bif !y1 then
   some (false)
  else
  bif !(a0.2.2.2.2.2.1 == (0 : Int)) then
   some (false)
  else
  bif a0.2.1 == (5 : Int) then
   some (false)
  else
  bif !(a0.2.1 == (2 : Int)) then
   some (true)
  else
   (idx a0.2.2.1 (0 : Int)).bind fun x2 =>
    some (!x2.1)
noncomputable def F.expr_said_any (n : Nat) (a0 : Z7) : Option (Bool) :=
 some (true)
noncomputable def F.expr_said_graphite (n : Nat) (a0 : Z7) : Option (Bool) :=
 (F.expr_said_bare n (a0.1, a0.2.1, a0.2.2.1, a0.2.2.2.1, a0.2.2.2.2.1, a0.2.2.2.2.2.1, ())).bind fun y1 =>
  bif y1 then
   bif !(a0.2.2.2.2.2.1 == (0 : Int)) then
    some (a0.2.1 == (2 : Int))
   else
    some (false)
  else
   some (false)
noncomputable def F.expr_Batch.L8.step {X : Type} (n : Nat) (rec : Z6 → Int → Int → Option X) (k0 : Unit → Option X) (kr : Int → Int → Option X) (v29 : Z6) (v30 : Int) (v31 : Int) : Option X :=
 bif decide (v31 < v30) then
  (idx v29 v31).bind fun x2 =>
   (F.expr_said_statsd n (x2.1, x2.2.1, x2.2.2.1, x2.2.2.2.1, x2.2.2.2.2.1, x2.2.2.2.2.2, ())).bind fun y3 =>
    bif !y3 then
     kr v31 (26 : Int)
    else
     rec v29 v30 (IntKind.wrap .i64 (v31 + (1 : Int)))
 else
  k0 ()
noncomputable def F.expr_Batch.L8 {X : Type} (n : Nat) (k0 : Unit → Option X) (kr : Int → Int → Option X) : Nat → Z6 → Int → Int → Option X
 | 0 => fun _ _ _ => none
 | m + 1 => fun v29 v30 v31 => F.expr_Batch.L8.step n (F.expr_Batch.L8 n k0 kr m) k0 kr v29 v30 v31
noncomputable def F.expr_Batch.L8_1.step {X : Type} (n : Nat) (rec : Z6 → Int → Int → Option X) (k0 : Unit → Option X) (kr : Int → Int → Option X) (v29 : Z6) (v30 : Int) (v31 : Int) : Option X :=
 bif decide (v31 < v30) then
  (idx v29 v31).bind fun x7 =>
   (F.expr_said_any n (x7.1, x7.2.1, x7.2.2.1, x7.2.2.2.1, x7.2.2.2.2.1, x7.2.2.2.2.2, ())).bind fun y8 =>
    bif !y8 then
     kr v31 (26 : Int)
    else
     rec v29 v30 (IntKind.wrap .i64 (v31 + (1 : Int)))
 else
  k0 ()
noncomputable def F.expr_Batch.L8_1 {X : Type} (n : Nat) (k0 : Unit → Option X) (kr : Int → Int → Option X) : Nat → Z6 → Int → Int → Option X
 | 0 => fun _ _ _ => none
 | m + 1 => fun v29 v30 v31 => F.expr_Batch.L8_1.step n (F.expr_Batch.L8_1 n k0 kr m) k0 kr v29 v30 v31
noncomputable def F.expr_Batch.L8_2.step {X : Type} (n : Nat) (rec : Z6 → Int → Int → Option X) (k0 : Unit → Option X) (kr : Int → Int → Option X) (v29 : Z6) (v30 : Int) (v31 : Int) : Option X :=
 bif decide (v31 < v30) then
  (idx v29 v31).bind fun x12 =>
   (F.expr_said_graphite n (x12.1, x12.2.1, x12.2.2.1, x12.2.2.2.1, x12.2.2.2.2.1, x12.2.2.2.2.2, ())).bind fun y13 =>
    bif !y13 then
     kr v31 (26 : Int)
    else
     rec v29 v30 (IntKind.wrap .i64 (v31 + (1 : Int)))
 else
  k0 ()
noncomputable def F.expr_Batch.L8_2 {X : Type} (n : Nat) (k0 : Unit → Option X) (kr : Int → Int → Option X) : Nat → Z6 → Int → Int → Option X
 | 0 => fun _ _ _ => none
 | m + 1 => fun v29 v30 v31 => F.expr_Batch.L8_2.step n (F.expr_Batch.L8_2 n k0 kr m) k0 kr v29 v30 v31
noncomputable def F.expr_Batch (n : Nat) (a0 : Z6) (a1 : Int) : Option ((Int) × (Int) × Unit) :=
 bif a1 == (1 : Int) then
  (F.batch_Check n a0).bind fun y1 =>
   bif !(y1.2.1 == (0 : Int)) then
    some ((y1.1, y1.2.1, ()))
   else
    F.expr_Batch.L8 n
     (fun (_ : Unit) =>
      some (((0 : Int), (0 : Int), ())))
     (fun e4 e5 =>
      some ((e4, e5, ()))) n a0 (a0.length : Int) (0 : Int)
 else
 bif a1 == (2 : Int) then
  (F.batch_Check n a0).bind fun y6 =>
   bif !(y6.2.1 == (0 : Int)) then
    some ((y6.1, y6.2.1, ()))
   else
    F.expr_Batch.L8_1 n
     (fun (_ : Unit) =>
      some (((0 : Int), (0 : Int), ())))
     (fun e4 e5 =>
      some ((e4, e5, ()))) n a0 (a0.length : Int) (0 : Int)
 else
 bif a1 == (3 : Int) then
  (F.batch_Check n a0).bind fun y11 =>
   bif !(y11.2.1 == (0 : Int)) then
    some ((y11.1, y11.2.1, ()))
   else
    F.expr_Batch.L8_2 n
     (fun (_ : Unit) =>
      some (((0 : Int), (0 : Int), ())))
     (fun e4 e5 =>
      some ((e4, e5, ()))) n a0 (a0.length : Int) (0 : Int)
 else
 bif a1 == (4 : Int) then
  (F.batch_Check n a0).bind fun y16 =>
   bif !(y16.2.1 == (0 : Int)) then
    some ((y16.1, y16.2.1, ()))
   else
    F.expr_Batch.L8_1 n
     (fun (_ : Unit) =>
      some (((0 : Int), (0 : Int), ())))
     (fun e4 e5 =>
      some ((e4, e5, ()))) n a0 (a0.length : Int) (0 : Int)
 else
  some (((0 : Int), (29 : Int), ()))
noncomputable def F.expr_Metric (n : Nat) (a0 : Z7) (a1 : Int) : Option (Int) :=
 bif a1 == (1 : Int) then
  (F.metric_Check n (a0.1, a0.2.1, a0.2.2.1, a0.2.2.2.1, a0.2.2.2.2.1, a0.2.2.2.2.2.1, ())).bind fun y1 =>
   bif !(y1 == (0 : Int)) then
    some (y1)
   else
    (F.expr_said_statsd n (a0.1, a0.2.1, a0.2.2.1, a0.2.2.2.1, a0.2.2.2.2.1, a0.2.2.2.2.2.1, ())).bind fun y2 =>
     bif !y2 then
      some ((26 : Int))
     else
      some ((0 : Int))
 else
 bif a1 == (2 : Int) then
  (F.metric_Check n (a0.1, a0.2.1, a0.2.2.1, a0.2.2.2.1, a0.2.2.2.2.1, a0.2.2.2.2.2.1, ())).bind fun y3 =>
   bif !(y3 == (0 : Int)) then
    some (y3)
   else
    (F.expr_said_any n (a0.1, a0.2.1, a0.2.2.1, a0.2.2.2.1, a0.2.2.2.2.1, a0.2.2.2.2.2.1, ())).bind fun y4 =>
     bif !y4 then
      some ((26 : Int))
     else
      some ((0 : Int))
 else
 bif a1 == (3 : Int) then
  (F.metric_Check n (a0.1, a0.2.1, a0.2.2.1, a0.2.2.2.1, a0.2.2.2.2.1, a0.2.2.2.2.2.1, ())).bind fun y5 =>
   bif !(y5 == (0 : Int)) then
    some (y5)
   else
    (F.expr_said_graphite n (a0.1, a0.2.1, a0.2.2.1, a0.2.2.2.1, a0.2.2.2.2.1, a0.2.2.2.2.2.1, ())).bind fun y6 =>
     bif !y6 then
      some ((26 : Int))
     else
      some ((0 : Int))
 else
 bif a1 == (4 : Int) then
  (F.metric_Check n (a0.1, a0.2.1, a0.2.2.1, a0.2.2.2.1, a0.2.2.2.2.1, a0.2.2.2.2.2.1, ())).bind fun y7 =>
   bif !(y7 == (0 : Int)) then
    some (y7)
   else
    (F.expr_said_any n (a0.1, a0.2.1, a0.2.2.1, a0.2.2.2.1, a0.2.2.2.2.1, a0.2.2.2.2.2.1, ())).bind fun y8 =>
     bif !y8 then
      some ((26 : Int))
     else
      some ((0 : Int))
 else
  some ((29 : Int))
noncomputable def F.slices_Clone_api_Dec_api_Dec (n : Nat) (a0 : Z2) : Option (Z2) :=
 bif List.isEmpty a0 then
  both
   (
    some ([]))
   (
    bif decide ((0 + a0.length) * 24 ≤ 2 ^ 46) && decide (0 < 24 ∧ 24 ≤ 2 ^ 20) then
     some ([] ++ a0)
    else
     none)
 else
 bif decide ((0 + a0.length) * 24 ≤ 2 ^ 46) && decide (0 < 24 ∧ 24 ≤ 2 ^ 20) then
  some ([] ++ a0)
 else
  none
noncomputable def F.slices_Clone_api_Tag_api_Tag (n : Nat) (a0 : Z4) : Option (Z4) :=
 bif List.isEmpty a0 then
  both
   (
    some ([]))
   (
    bif decide ((0 + a0.length) * 32 ≤ 2 ^ 46) && decide (0 < 32 ∧ 32 ≤ 2 ^ 20) then
     some ([] ++ a0)
    else
     none)
 else
 bif decide ((0 + a0.length) * 32 ≤ 2 ^ 46) && decide (0 < 32 ∧ 32 ≤ 2 ^ 20) then
  some ([] ++ a0)
 else
  none
noncomputable def F.metric_Clone (n : Nat) (a0 : Z7) : Option (Z7) :=
 (F.slices_Clone_api_Dec_api_Dec n a0.2.2.1).bind fun y1 =>
  (F.slices_Clone_api_Tag_api_Tag n a0.2.2.2.2.1).bind fun y2 =>
   some ((a0.1, a0.2.1, y1, a0.2.2.2.1, y2, a0.2.2.2.2.2.1, ()))
noncomputable def F.metric_Split.L6.step {X : Type} (n : Nat) (rec : Z6 → Z2 → Int → Int → Z0 → Int → Z2 → Int → Z4 → Int → Nat → Option X) (k0 : Z6 → Z0 → Int → Z2 → Int → Z4 → Int → Nat → Option X) (v5 : Z6) (v15 : Z2) (v16 : Int) (v17 : Int) (ab0 : Z0) (ab1 : Int) (ab2 : Z2) (ab3 : Int) (ab4 : Z4) (ab5 : Int) (vk0 : Nat) : Option X :=
 bif decide (v17 < v16) then
  (idx v15 v17).bind fun x2 =>
   (F.metric_Clone n (ab0, ab1, ab2, ab3, ab4, ab5, ())).bind fun y3 =>
    bif decide ((v5.length + 1) * 88 ≤ 2 ^ 46) && decide (0 < 88 ∧ 88 ≤ 2 ^ 20) then
     bif Nat.beq vk0 v5.length then
      rec (v5 ++ ([(y3.1, y3.2.1, [(x2.1, x2.2.1, x2.2.2)], y3.2.2.2.1, y3.2.2.2.2.1, y3.2.2.2.2.2.1)])) v15 v16 (IntKind.wrap .i64 (v17 + (1 : Int))) ab0 ab1 ab2 ab3 ab4 ab5 ((v5 ++ ([(y3.1, y3.2.1, [(x2.1, x2.2.1, x2.2.2)], y3.2.2.2.1, y3.2.2.2.2.1, y3.2.2.2.2.2.1)])).length)
     else
      none
    else
     none
 else
  k0 v5 ab0 ab1 ab2 ab3 ab4 ab5 vk0
noncomputable def F.metric_Split.L6 {X : Type} (n : Nat) (k0 : Z6 → Z0 → Int → Z2 → Int → Z4 → Int → Nat → Option X) : Nat → Z6 → Z2 → Int → Int → Z0 → Int → Z2 → Int → Z4 → Int → Nat → Option X
 | 0 => fun _ _ _ _ _ _ _ _ _ _ _ => none
 | m + 1 => fun v5 v15 v16 v17 ab0 ab1 ab2 ab3 ab4 ab5 vk0 => F.metric_Split.L6.step n (F.metric_Split.L6 n k0 m) k0 v5 v15 v16 v17 ab0 ab1 ab2 ab3 ab4 ab5 vk0
noncomputable def F.metric_Split (n : Nat) (a0 : Z7) : Option ((Z6) × (Int) × Unit) :=
 (F.metric_Check n (a0.1, a0.2.1, a0.2.2.1, a0.2.2.2.1, a0.2.2.2.2.1, a0.2.2.2.2.2.1, ())).bind fun y1 =>
  bif !(y1 == (0 : Int)) then
   some (([], y1, ()))
  else
   F.metric_Split.L6 n
    (fun e5 g0 g1 g2 g3 g4 g5 ek0 =>
     some ((e5, (0 : Int), ()))) n [] a0.2.2.1 (a0.2.2.1.length : Int) (0 : Int) a0.1 a0.2.1 a0.2.2.1 a0.2.2.2.1 a0.2.2.2.2.1 a0.2.2.2.2.2.1 0
noncomputable def F.expr_Cut.L11.step {X : Type} (n : Nat) (rec : Int → Z6 → Z6 → Int → Int → Z0 → Int → Z2 → Int → Z4 → Int → Nat → Option X) (k1 : Z6 → Z0 → Int → Z2 → Int → Z4 → Int → Nat → Option X) (v1 : Int) (v8 : Z6) (v32 : Z6) (v33 : Int) (v34 : Int) (ab0 : Z0) (ab1 : Int) (ab2 : Z2) (ab3 : Int) (ab4 : Z4) (ab5 : Int) (vk0 : Nat) : Option X :=
 bif decide (v34 < v33) then
  (idx v32 v34).bind fun x4 =>
   bif v1 == (1 : Int) then
    (F.expr_Metric n (x4.1, x4.2.1, x4.2.2.1, x4.2.2.2.1, [], (0 : Int), ()) v1).bind fun y5 =>
     bif y5 == (0 : Int) then
      bif decide ((v8.length + 1) * 88 ≤ 2 ^ 46) && decide (0 < 88 ∧ 88 ≤ 2 ^ 20) then
       bif Nat.beq vk0 v8.length then
        rec v1 (v8 ++ ([(x4.1, x4.2.1, x4.2.2.1, x4.2.2.2.1, [], 0)])) v32 v33 (IntKind.wrap .i64 (v34 + (1 : Int))) ab0 ab1 ab2 ab3 ab4 ab5 ((v8 ++ ([(x4.1, x4.2.1, x4.2.2.1, x4.2.2.2.1, [], 0)])).length)
       else
        none
      else
       none
     else
      rec v1 v8 v32 v33 (IntKind.wrap .i64 (v34 + (1 : Int))) ab0 ab1 ab2 ab3 ab4 ab5 vk0
   else
    (F.expr_Metric n (x4.1, x4.2.1, x4.2.2.1, x4.2.2.2.1, [], x4.2.2.2.2.2, ()) v1).bind fun y6 =>
     bif y6 == (0 : Int) then
      bif decide ((v8.length + 1) * 88 ≤ 2 ^ 46) && decide (0 < 88 ∧ 88 ≤ 2 ^ 20) then
       bif Nat.beq vk0 v8.length then
        rec v1 (v8 ++ ([(x4.1, x4.2.1, x4.2.2.1, x4.2.2.2.1, [], x4.2.2.2.2.2)])) v32 v33 (IntKind.wrap .i64 (v34 + (1 : Int))) ab0 ab1 ab2 ab3 ab4 ab5 ((v8 ++ ([(x4.1, x4.2.1, x4.2.2.1, x4.2.2.2.1, [], x4.2.2.2.2.2)])).length)
       else
        none
      else
       none
     else
      rec v1 v8 v32 v33 (IntKind.wrap .i64 (v34 + (1 : Int))) ab0 ab1 ab2 ab3 ab4 ab5 vk0
 else
  k1 v8 ab0 ab1 ab2 ab3 ab4 ab5 vk0
noncomputable def F.expr_Cut.L11 {X : Type} (n : Nat) (k1 : Z6 → Z0 → Int → Z2 → Int → Z4 → Int → Nat → Option X) : Nat → Int → Z6 → Z6 → Int → Int → Z0 → Int → Z2 → Int → Z4 → Int → Nat → Option X
 | 0 => fun _ _ _ _ _ _ _ _ _ _ _ _ => none
 | m + 1 => fun v1 v8 v32 v33 v34 ab0 ab1 ab2 ab3 ab4 ab5 vk0 => F.expr_Cut.L11.step n (F.expr_Cut.L11 n k1 m) k1 v1 v8 v32 v33 v34 ab0 ab1 ab2 ab3 ab4 ab5 vk0
noncomputable def F.expr_Cut (n : Nat) (a0 : Z7) (a1 : Int) : Option ((Z6) × (Int) × Unit) :=
 (F.expr_Metric n (a0.1, a0.2.1, a0.2.2.1, a0.2.2.2.1, a0.2.2.2.2.1, a0.2.2.2.2.2.1, ()) a1).bind fun y1 =>
  bif y1 == (0 : Int) then
   (F.metric_Clone n (a0.1, a0.2.1, a0.2.2.1, a0.2.2.2.1, a0.2.2.2.2.1, a0.2.2.2.2.2.1, ())).bind fun y2 =>
    some (([(y2.1, y2.2.1, y2.2.2.1, y2.2.2.2.1, y2.2.2.2.2.1, y2.2.2.2.2.2.1)], (0 : Int), ()))
  else
  bif !(y1 == (26 : Int)) then
   some (([], y1, ()))
  else
   (F.metric_Split n (a0.1, a0.2.1, a0.2.2.1, a0.2.2.2.1, a0.2.2.2.2.1, a0.2.2.2.2.2.1, ())).bind fun y3 =>
    bif !(y3.2.1 == (0 : Int)) then
     some (([], y3.2.1, ()))
    else
     F.expr_Cut.L11 n
      (fun e8 g0 g1 g2 g3 g4 g5 ek0 =>
       bif (e8.length : Int) == (0 : Int) then
        some (([], (26 : Int), ()))
       else
        some ((e8, (0 : Int), ()))) n a1 [] y3.1 (y3.1.length : Int) (0 : Int) a0.1 a0.2.1 a0.2.2.1 a0.2.2.2.1 a0.2.2.2.2.1 a0.2.2.2.2.2.1 0
noncomputable def F.trans_Metrics.C3 {X : Type} (n : Nat) (kr : Z6 → Int → Int → Nat → Option X) (kn : Z6 → Int → Int → Option X) (c0 : Z6) (c1 : Int) (c2 : Int) (c10 : Bool) (c12 : Bool) : Option X :=
 bif !c10 then
  kr [] (0 : Int) (29 : Int) 0
 else
 bif !c12 then
  kr [] (0 : Int) (29 : Int) 0
 else
  kn c0 c1 c2
noncomputable def F.trans_Metrics.L10.step {X : Type} (n : Nat) (rec : Int → Z6 → Z6 → Int → Int → Nat → Option X) (k0 : Z6 → Nat → Option X) (kr : Z6 → Int → Int → Nat → Option X) (v2 : Int) (v15 : Z6) (v46 : Z6) (v47 : Int) (v48 : Int) (vk0 : Nat) : Option X :=
 bif decide (v48 < v47) then
  (idx v46 v48).bind fun x4 =>
   (F.expr_Cut n (x4.1, x4.2.1, x4.2.2.1, x4.2.2.2.1, x4.2.2.2.2.1, x4.2.2.2.2.2, ()) v2).bind fun y5 =>
    bif !(y5.2.1 == (0 : Int)) then
     kr [] v48 y5.2.1 0
    else
    bif decide ((v15.length + y5.1.length) * 88 ≤ 2 ^ 46) && decide (0 < 88 ∧ 88 ≤ 2 ^ 20) then
     bif Nat.beq vk0 v15.length then
      bif decide (((v15 ++ y5.1).length : Int) > (1000 : Int)) then
       kr [] v48 (12 : Int) 0
      else
       rec v2 (v15 ++ y5.1) v46 v47 (IntKind.wrap .i64 (v48 + (1 : Int))) ((v15 ++ y5.1).length)
     else
      none
    else
     none
 else
  k0 v15 vk0
noncomputable def F.trans_Metrics.L10 {X : Type} (n : Nat) (k0 : Z6 → Nat → Option X) (kr : Z6 → Int → Int → Nat → Option X) : Nat → Int → Z6 → Z6 → Int → Int → Nat → Option X
 | 0 => fun _ _ _ _ _ _ => none
 | m + 1 => fun v2 v15 v46 v47 v48 vk0 => F.trans_Metrics.L10.step n (F.trans_Metrics.L10 n k0 kr m) k0 kr v2 v15 v46 v47 v48 vk0
noncomputable def F.trans_Metrics.C5 {X : Type} (n : Nat) (kr : Z6 → Int → Int → Nat → Option X) (c0 : Z6) (c1 : Int) (c2 : Int) : Option X :=
 (F.expr_Batch n c0 c1).bind fun y8 =>
  bif !(y8.2.1 == (0 : Int)) then
   kr [] y8.1 y8.2.1 0
  else
   F.trans_Metrics.L10 n
    (fun e15 ek0 =>
     kr e15 (0 : Int) (0 : Int) ek0)
    (fun e6 e7 e8 ek0 =>
     kr e6 e7 e8 ek0) n c2 [] c0 (c0.length : Int) (0 : Int) 0
noncomputable def F.trans_Metrics.C2 {X : Type} (n : Nat) (kr : Z6 → Int → Int → Nat → Option X) (c0 : Z6) (c1 : Int) (c2 : Int) (c10 : Bool) : Option X :=
 bif decide (c2 < (1 : Int)) then
  F.trans_Metrics.C3 n
   (fun e6 e7 e8 ek0 =>
    kr e6 e7 e8 ek0)
   (fun e0 e1 e2 =>
    F.trans_Metrics.C5 n
     (fun e6 e7 e8 ek0 =>
      kr e6 e7 e8 ek0) e0 e1 e2) c0 c1 c2 c10 false
 else
 bif decide (c2 ≥ (5 : Int)) then
  F.trans_Metrics.C3 n
   (fun e6 e7 e8 ek0 =>
    kr e6 e7 e8 ek0)
   (fun e0 e1 e2 =>
    F.trans_Metrics.C5 n
     (fun e6 e7 e8 ek0 =>
      kr e6 e7 e8 ek0) e0 e1 e2) c0 c1 c2 c10 false
 else
 bif c2 == (0 : Int) then
  F.trans_Metrics.C3 n
   (fun e6 e7 e8 ek0 =>
    kr e6 e7 e8 ek0)
   (fun e0 e1 e2 =>
    F.trans_Metrics.C5 n
     (fun e6 e7 e8 ek0 =>
      kr e6 e7 e8 ek0) e0 e1 e2) c0 c1 c2 c10 true
 else
 bif c2 == (1 : Int) then
  F.trans_Metrics.C3 n
   (fun e6 e7 e8 ek0 =>
    kr e6 e7 e8 ek0)
   (fun e0 e1 e2 =>
    F.trans_Metrics.C5 n
     (fun e6 e7 e8 ek0 =>
      kr e6 e7 e8 ek0) e0 e1 e2) c0 c1 c2 c10 true
 else
 bif c2 == (2 : Int) then
  F.trans_Metrics.C3 n
   (fun e6 e7 e8 ek0 =>
    kr e6 e7 e8 ek0)
   (fun e0 e1 e2 =>
    F.trans_Metrics.C5 n
     (fun e6 e7 e8 ek0 =>
      kr e6 e7 e8 ek0) e0 e1 e2) c0 c1 c2 c10 true
 else
 bif c2 == (3 : Int) then
  F.trans_Metrics.C3 n
   (fun e6 e7 e8 ek0 =>
    kr e6 e7 e8 ek0)
   (fun e0 e1 e2 =>
    F.trans_Metrics.C5 n
     (fun e6 e7 e8 ek0 =>
      kr e6 e7 e8 ek0) e0 e1 e2) c0 c1 c2 c10 true
 else
 bif c2 == (4 : Int) then
  F.trans_Metrics.C3 n
   (fun e6 e7 e8 ek0 =>
    kr e6 e7 e8 ek0)
   (fun e0 e1 e2 =>
    F.trans_Metrics.C5 n
     (fun e6 e7 e8 ek0 =>
      kr e6 e7 e8 ek0) e0 e1 e2) c0 c1 c2 c10 true
 else
  none
noncomputable def F.trans_Metrics (n : Nat) (a0 : Z6) (a1 : Int) (a2 : Int) : Option ((Z6) × (Int) × (Int) × Unit) :=
 bif decide (a1 < (1 : Int)) then
  F.trans_Metrics.C2 n
   (fun e6 e7 e8 ek0 =>
    some ((e6, e7, e8, ()))) a0 a1 a2 false
 else
 bif decide (a1 ≥ (5 : Int)) then
  F.trans_Metrics.C2 n
   (fun e6 e7 e8 ek0 =>
    some ((e6, e7, e8, ()))) a0 a1 a2 false
 else
 bif a1 == (0 : Int) then
  F.trans_Metrics.C2 n
   (fun e6 e7 e8 ek0 =>
    some ((e6, e7, e8, ()))) a0 a1 a2 true
 else
 bif a1 == (1 : Int) then
  F.trans_Metrics.C2 n
   (fun e6 e7 e8 ek0 =>
    some ((e6, e7, e8, ()))) a0 a1 a2 true
 else
 bif a1 == (2 : Int) then
  F.trans_Metrics.C2 n
   (fun e6 e7 e8 ek0 =>
    some ((e6, e7, e8, ()))) a0 a1 a2 true
 else
 bif a1 == (3 : Int) then
  F.trans_Metrics.C2 n
   (fun e6 e7 e8 ek0 =>
    some ((e6, e7, e8, ()))) a0 a1 a2 true
 else
 bif a1 == (4 : Int) then
  F.trans_Metrics.C2 n
   (fun e6 e7 e8 ek0 =>
    some ((e6, e7, e8, ()))) a0 a1 a2 true
 else
  none
noncomputable def F.frame_Decode (n : Nat) (a0 : Z14) : Option ((Z6) × (Z11) × Unit) := none
noncomputable def F.stringslite_HasSuffix (n : Nat) (a0 : Z0) (a1 : Z0) : Option (Bool) :=
 bif decide ((a0.length : Int) ≥ (a1.length : Int)) then
  (sub a0 (IntKind.wrap .i64 ((a0.length : Int) - (a1.length : Int))) (a0.length : Int)).bind fun x1 =>
   some (x1 == a1)
 else
  some (false)
noncomputable def F.stringslite_CutSuffix (n : Nat) (a0 : Z0) (a1 : Z0) : Option ((Z0) × (Bool) × Unit) :=
 (F.stringslite_HasSuffix n a0 a1).bind fun y1 =>
  bif !y1 then
   some ((a0, false, ()))
  else
   (sub a0 (0 : Int) (IntKind.wrap .i64 ((a0.length : Int) - (a1.length : Int)))).bind fun x2 =>
    some ((x2, true, ()))
noncomputable def F.strings_CutSuffix (n : Nat) (a0 : Z0) (a1 : Z0) : Option ((Z0) × (Bool) × Unit) :=
 (F.stringslite_CutSuffix n a0 a1).bind fun y1 =>
  some ((y1.1, y1.2.1, ()))
noncomputable def F.stringslite_Cut (n : Nat) (a0 : Z0) (a1 : Z0) : Option ((Z0) × (Z0) × (Bool) × Unit) :=
 (O.index1 n a0 a1).bind fun y1 =>
  bif decide (y1 ≥ (0 : Int)) then
   (sub a0 (0 : Int) y1).bind fun x2 =>
    (sub a0 (IntKind.wrap .i64 (y1 + (a1.length : Int))) (a0.length : Int)).bind fun x3 =>
     some ((x2, x3, true, ()))
  else
   some ((a0, [], false, ()))
noncomputable def F.strings_Cut (n : Nat) (a0 : Z0) (a1 : Z0) : Option ((Z0) × (Z0) × (Bool) × Unit) :=
 (F.stringslite_Cut n a0 a1).bind fun y1 =>
  some ((y1.1, y1.2.1, y1.2.2.1, ()))
noncomputable def F.statsd_fault (n : Nat) (a0 : Int) (a1 : Int) : Option ((Z7) × (Z11) × Unit) :=
 some ((([], (0 : Int), [], (0 : Int), [], (0 : Int), ()), (a0, a1, ()), ()))
noncomputable def F.stringslite_HasPrefix (n : Nat) (a0 : Z0) (a1 : Z0) : Option (Bool) :=
 bif decide ((a0.length : Int) ≥ (a1.length : Int)) then
  (sub a0 (0 : Int) (a1.length : Int)).bind fun x1 =>
   some (x1 == a1)
 else
  some (false)
noncomputable def F.strings_HasPrefix (n : Nat) (a0 : Z0) (a1 : Z0) : Option (Bool) :=
 (F.stringslite_HasPrefix n a0 a1).bind fun y1 =>
  some (y1)
noncomputable def F.dec_look.L2_dec_look_1.step {X : Type} (n : Nat) (rec : Int → Z0 → Int → Int → Int → Option X) (k0 : Int → Z0 → Int → Int → Int → Option X) (v3 : Int) (ab0 : Z0) (bb0 : Int) (bb1 : Int) (cb0 : Int) : Option X :=
 bif decide (cb0 < (ab0.length : Int)) then
  (idx ab0 cb0).bind fun x2 =>
   bif decide (((x2).toNat) ≥ (48 : Int)) then
    (idx ab0 cb0).bind fun x3 =>
     bif decide (((x3).toNat) ≤ (57 : Int)) then
      rec v3 ab0 bb0 bb1 (IntKind.wrap .i64 (cb0 + (1 : Int)))
     else
      k0 v3 ab0 bb0 bb1 cb0
   else
    k0 v3 ab0 bb0 bb1 cb0
 else
  k0 v3 ab0 bb0 bb1 cb0
noncomputable def F.dec_look.L2_dec_look_1 {X : Type} (n : Nat) (k0 : Int → Z0 → Int → Int → Int → Option X) : Nat → Int → Z0 → Int → Int → Int → Option X
 | 0 => fun _ _ _ _ _ => none
 | m + 1 => fun v3 ab0 bb0 bb1 cb0 => F.dec_look.L2_dec_look_1.step n (F.dec_look.L2_dec_look_1 n k0 m) k0 v3 ab0 bb0 bb1 cb0
noncomputable def F.dec_look (n : Nat) (a0 : Z0) : Option (Z11) :=
 (F.strings_HasPrefix n a0 ([45])).bind fun y1 =>
  bif y1 then
   F.dec_look.L2_dec_look_1 n
    (fun e3 g0 h0 h1 i0 =>
     bif decide (i0 > e3) then
      (sub g0 i0 (g0.length : Int)).bind fun x5 =>
       (F.strings_HasPrefix n x5 ([46])).bind fun y6 =>
        bif y6 then
         F.dec_look.L2_dec_look_1 n
          (fun e3 g0 h0 h1 i0 =>
           bif decide (i0 > e3) then
            bif i0 == (g0.length : Int) then
             some (((0 : Int), (0 : Int), ()))
            else
            bif i0 == (g0.length : Int) then
             some (((11 : Int), i0, ()))
            else
             some (((14 : Int), i0, ()))
           else
           bif i0 == (g0.length : Int) then
            some (((11 : Int), i0, ()))
           else
            some (((14 : Int), i0, ()))) n (IntKind.wrap .i64 (i0 + (1 : Int))) g0 h0 h1 (IntKind.wrap .i64 (i0 + (1 : Int)))
        else
        bif decide (i0 > e3) then
         bif i0 == (g0.length : Int) then
          some (((0 : Int), (0 : Int), ()))
         else
         bif i0 == (g0.length : Int) then
          some (((11 : Int), i0, ()))
         else
          some (((14 : Int), i0, ()))
        else
        bif i0 == (g0.length : Int) then
         some (((11 : Int), i0, ()))
        else
         some (((14 : Int), i0, ()))
     else
     bif decide (i0 > e3) then
      bif i0 == (g0.length : Int) then
       some (((0 : Int), (0 : Int), ()))
      else
      bif i0 == (g0.length : Int) then
       some (((11 : Int), i0, ()))
      else
       some (((14 : Int), i0, ()))
     else
     bif i0 == (g0.length : Int) then
      some (((11 : Int), i0, ()))
     else
      some (((14 : Int), i0, ()))) n (1 : Int) a0 (0 : Int) (0 : Int) (1 : Int)
  else
   F.dec_look.L2_dec_look_1 n
    (fun e3 g0 h0 h1 i0 =>
     bif decide (i0 > e3) then
      (sub g0 i0 (g0.length : Int)).bind fun x9 =>
       (F.strings_HasPrefix n x9 ([46])).bind fun y10 =>
        bif y10 then
         F.dec_look.L2_dec_look_1 n
          (fun e3 g0 h0 h1 i0 =>
           bif decide (i0 > e3) then
            bif i0 == (g0.length : Int) then
             some (((0 : Int), (0 : Int), ()))
            else
            bif i0 == (g0.length : Int) then
             some (((11 : Int), i0, ()))
            else
             some (((14 : Int), i0, ()))
           else
           bif i0 == (g0.length : Int) then
            some (((11 : Int), i0, ()))
           else
            some (((14 : Int), i0, ()))) n (IntKind.wrap .i64 (i0 + (1 : Int))) g0 h0 h1 (IntKind.wrap .i64 (i0 + (1 : Int)))
        else
        bif decide (i0 > e3) then
         bif i0 == (g0.length : Int) then
          some (((0 : Int), (0 : Int), ()))
         else
         bif i0 == (g0.length : Int) then
          some (((11 : Int), i0, ()))
         else
          some (((14 : Int), i0, ()))
        else
        bif i0 == (g0.length : Int) then
         some (((11 : Int), i0, ()))
        else
         some (((14 : Int), i0, ()))
     else
     bif decide (i0 > e3) then
      bif i0 == (g0.length : Int) then
       some (((0 : Int), (0 : Int), ()))
      else
      bif i0 == (g0.length : Int) then
       some (((11 : Int), i0, ()))
      else
       some (((14 : Int), i0, ()))
     else
     bif i0 == (g0.length : Int) then
      some (((11 : Int), i0, ()))
     else
      some (((14 : Int), i0, ()))) n (0 : Int) a0 (0 : Int) (0 : Int) (0 : Int)
noncomputable def F.stringslite_CutPrefix (n : Nat) (a0 : Z0) (a1 : Z0) : Option ((Z0) × (Bool) × Unit) :=
 (F.stringslite_HasPrefix n a0 a1).bind fun y1 =>
  bif !y1 then
   some ((a0, false, ()))
  else
   (sub a0 (a1.length : Int) (a0.length : Int)).bind fun x2 =>
    some ((x2, true, ()))
noncomputable def F.strings_CutPrefix (n : Nat) (a0 : Z0) (a1 : Z0) : Option ((Z0) × (Bool) × Unit) :=
 (F.stringslite_CutPrefix n a0 a1).bind fun y1 =>
  some ((y1.1, y1.2.1, ()))
noncomputable def F.dec_Parse.L14.step {X : Type} (n : Nat) (rec : Z0 → Int → Int → Bool → Int → Int → Int → Int → Int → Int → Bool → Int → Int → Option X) (k0 : Bool → Int → Int → Int → Int → Int → Int → Bool → Int → Int → Option X) (v10 : Z0) (v66 : Int) (v67 : Int) (ab0 : Bool) (ab1 : Int) (ab2 : Int) (bb0 : Int) (bb1 : Int) (cb0 : Int) (cb1 : Int) (db0 : Bool) (db1 : Int) (db2 : Int) : Option X :=
 bif decide (v67 < v66) then
  (idx v10 v67).bind fun x7 =>
   (F.dec_times n db1 (IntKind.wrap .u64 (IntKind.wrap .u8 (((x7).toNat) - (48 : Int))))).bind fun y8 =>
    bif !y8.2.1 then
     k0 ab0 ab1 ab2 bb0 bb1 cb0 cb1 db0 (1 : Int) (-19 : Int)
    else
     rec v10 v66 (IntKind.wrap .i64 (v67 + (1 : Int))) ab0 ab1 ab2 bb0 bb1 cb0 cb1 db0 y8.1 db2
 else
  k0 ab0 ab1 ab2 bb0 bb1 cb0 cb1 db0 db1 db2
noncomputable def F.dec_Parse.L14 {X : Type} (n : Nat) (k0 : Bool → Int → Int → Int → Int → Int → Int → Bool → Int → Int → Option X) : Nat → Z0 → Int → Int → Bool → Int → Int → Int → Int → Int → Int → Bool → Int → Int → Option X
 | 0 => fun _ _ _ _ _ _ _ _ _ _ _ _ _ => none
 | m + 1 => fun v10 v66 v67 ab0 ab1 ab2 bb0 bb1 cb0 cb1 db0 db1 db2 => F.dec_Parse.L14.step n (F.dec_Parse.L14 n k0 m) k0 v10 v66 v67 ab0 ab1 ab2 bb0 bb1 cb0 cb1 db0 db1 db2
noncomputable def F.dec_Parse (n : Nat) (a0 : Z0) : Option ((Z12) × (Z11) × Unit) :=
 (F.dec_look n a0).bind fun y1 =>
  bif !((y1.1 == (0 : Int)) && (y1.2.1 == (0 : Int))) then
   some (((false, (0 : Int), (0 : Int), ()), (y1.1, y1.2.1, ()), ()))
  else
   (F.strings_CutPrefix n a0 ([45])).bind fun y2 =>
    (F.strings_Cut n y2.1 ([46])).bind fun y3 =>
     (O.trimR n y3.2.1 ([48])).bind fun y4 =>
      bif decide (y3.1.length + y4.length ≤ strMax) then
       (O.trimL n (y3.1 ++ y4) ([48])).bind fun y5 =>
        (O.trimR n y5 ([48])).bind fun y6 =>
         bif (IntKind.wrap .i64 (0 - (y4.length : Int))) == (0 : Int) then
          bif decide ((y6.length : Int) < (y5.length : Int)) then
           F.dec_Parse.L14 n
            (fun g0 g1 g2 h0 h1 i0 i1 j0 j1 j2 =>
             (F.dec_Normal n (j0, j1, j2, ())).bind fun y10 =>
              bif !(y10.2.1 == (0 : Int)) then
               some (((false, (0 : Int), (0 : Int), ()), (y10.2.1, (0 : Int), ()), ()))
              else
               some (((y10.1.1, y10.1.2.1, y10.1.2.2.1, ()), ((0 : Int), (0 : Int), ()), ()))) n y6 (y6.length : Int) (0 : Int) false (0 : Int) (0 : Int) (0 : Int) (0 : Int) y1.1 y1.2.1 y2.2.1 (0 : Int) (IntKind.wrap .i64 ((y5.length : Int) - (y6.length : Int)))
          else
           F.dec_Parse.L14 n
            (fun g0 g1 g2 h0 h1 i0 i1 j0 j1 j2 =>
             (F.dec_Normal n (j0, j1, j2, ())).bind fun y12 =>
              bif !(y12.2.1 == (0 : Int)) then
               some (((false, (0 : Int), (0 : Int), ()), (y12.2.1, (0 : Int), ()), ()))
              else
               some (((y12.1.1, y12.1.2.1, y12.1.2.2.1, ()), ((0 : Int), (0 : Int), ()), ()))) n y5 (y5.length : Int) (0 : Int) false (0 : Int) (0 : Int) (0 : Int) (0 : Int) y1.1 y1.2.1 y2.2.1 (0 : Int) (IntKind.wrap .i64 (0 - (y4.length : Int)))
         else
          F.dec_Parse.L14 n
           (fun g0 g1 g2 h0 h1 i0 i1 j0 j1 j2 =>
            (F.dec_Normal n (j0, j1, j2, ())).bind fun y14 =>
             bif !(y14.2.1 == (0 : Int)) then
              some (((false, (0 : Int), (0 : Int), ()), (y14.2.1, (0 : Int), ()), ()))
             else
              some (((y14.1.1, y14.1.2.1, y14.1.2.2.1, ()), ((0 : Int), (0 : Int), ()), ()))) n y5 (y5.length : Int) (0 : Int) false (0 : Int) (0 : Int) (0 : Int) (0 : Int) y1.1 y1.2.1 y2.2.1 (0 : Int) (IntKind.wrap .i64 (0 - (y4.length : Int)))
      else
       none
noncomputable def F.statsd_Kind.L2.step {X : Type} (n : Nat) (rec : Z0 → Int → Option X) (k0 : Unit → Option X) (kr : Int → Int → Option X) (v0 : Z0) (v4 : Int) : Option X :=
 bif decide (v4 ≤ (5 : Int)) then
  (O.word n v4).bind fun y1 =>
   bif y1.2.1 == (0 : Int) then
    bif y1.1 == v0 then
     kr v4 (0 : Int)
    else
     rec v0 (IntKind.wrap .i64 (v4 + (1 : Int)))
   else
    rec v0 (IntKind.wrap .i64 (v4 + (1 : Int)))
 else
  k0 ()
noncomputable def F.statsd_Kind.L2 {X : Type} (n : Nat) (k0 : Unit → Option X) (kr : Int → Int → Option X) : Nat → Z0 → Int → Option X
 | 0 => fun _ _ => none
 | m + 1 => fun v0 v4 => F.statsd_Kind.L2.step n (F.statsd_Kind.L2 n k0 kr m) k0 kr v0 v4
noncomputable def F.statsd_Kind (n : Nat) (a0 : Z0) : Option ((Int) × (Int) × Unit) :=
 F.statsd_Kind.L2 n
  (fun (_ : Unit) =>
   some (((0 : Int), (16 : Int), ())))
  (fun e2 e3 =>
   some ((e2, e3, ()))) n a0 (1 : Int)
noncomputable def F.num_fault (n : Nat) (a0 : Int) (a1 : Int) : Option ((Int) × (Z11) × Unit) :=
 some (((0 : Int), (a0, a1, ()), ()))
noncomputable def F.num_Rate.L5.step {X : Type} (n : Nat) (rec : Z0 → Z11 → Int → Int → Int → Int → Int → Option X) (k0 : Z0 → Int → Int → Int → Int → Option X) (v0 : Z0) (v16 : Z11) (v17 : Int) (ab0 : Int) (ab1 : Int) (bb0 : Int) (bb1 : Int) : Option X :=
 bif decide (v17 < (2 : Int)) then
  bif v17 == (0 : Int) then
   bif v17 == (v0.length : Int) then
    bif v17 == (0 : Int) then
     k0 v0 ab0 ab1 (13 : Int) (0 : Int)
    else
    bif decide (v17 ≥ (v0.length : Int)) then
     k0 v0 ab0 ab1 (11 : Int) v17
    else
     (idx v0 v17).bind fun x1 =>
      bif !(((x1).toNat) == v16.1) then
       k0 v0 ab0 ab1 (11 : Int) v17
      else
       rec v0 (v16.1, v16.2.1, ()) (IntKind.wrap .i64 (v17 + (1 : Int))) ab0 ab1 bb0 bb1
   else
   bif decide (v17 ≥ (v0.length : Int)) then
    k0 v0 ab0 ab1 (11 : Int) v17
   else
    (idx v0 v17).bind fun x2 =>
     bif !(((x2).toNat) == v16.1) then
      k0 v0 ab0 ab1 (11 : Int) v17
     else
      rec v0 (v16.1, v16.2.1, ()) (IntKind.wrap .i64 (v17 + (1 : Int))) ab0 ab1 bb0 bb1
  else
  bif v17 == (1 : Int) then
   bif v17 == (v0.length : Int) then
    bif v17 == (0 : Int) then
     k0 v0 ab0 ab1 (13 : Int) (0 : Int)
    else
    bif decide (v17 ≥ (v0.length : Int)) then
     k0 v0 ab0 ab1 (11 : Int) v17
    else
     (idx v0 v17).bind fun x3 =>
      bif !(((x3).toNat) == v16.2.1) then
       k0 v0 ab0 ab1 (11 : Int) v17
      else
       rec v0 (v16.1, v16.2.1, ()) (IntKind.wrap .i64 (v17 + (1 : Int))) ab0 ab1 bb0 bb1
   else
   bif decide (v17 ≥ (v0.length : Int)) then
    k0 v0 ab0 ab1 (11 : Int) v17
   else
    (idx v0 v17).bind fun x4 =>
     bif !(((x4).toNat) == v16.2.1) then
      k0 v0 ab0 ab1 (11 : Int) v17
     else
      rec v0 (v16.1, v16.2.1, ()) (IntKind.wrap .i64 (v17 + (1 : Int))) ab0 ab1 bb0 bb1
  else
   none
 else
  k0 v0 ab0 ab1 bb0 bb1
noncomputable def F.num_Rate.L5 {X : Type} (n : Nat) (k0 : Z0 → Int → Int → Int → Int → Option X) : Nat → Z0 → Z11 → Int → Int → Int → Int → Int → Option X
 | 0 => fun _ _ _ _ _ _ _ => none
 | m + 1 => fun v0 v16 v17 ab0 ab1 bb0 bb1 => F.num_Rate.L5.step n (F.num_Rate.L5 n k0 m) k0 v0 v16 v17 ab0 ab1 bb0 bb1
noncomputable def F.num_Rate.L23.step {X : Type} (n : Nat) (rec : Z0 → Int → Int → Int → Int → Int → Int → Int → Int → Option X) (k3 : Int → Int → Int → Int → Int → Int → Int → Option X) (v7 : Z0) (v81 : Int) (ab0 : Int) (ab1 : Int) (bb0 : Int) (bb1 : Int) (cb0 : Int) (cb1 : Int) (db0 : Int) : Option X :=
 bif decide (v81 < (6 : Int)) then
  bif decide (v81 < (v7.length : Int)) then
   (idx v7 v81).bind fun x11 =>
    rec v7 (IntKind.wrap .i64 (v81 + (1 : Int))) ab0 ab1 bb0 bb1 cb0 cb1 (IntKind.wrap .i64 ((IntKind.wrap .i64 ((10 : Int) * db0)) + (IntKind.wrap .i64 (IntKind.wrap .u8 (((x11).toNat) - (48 : Int))))))
  else
   rec v7 (IntKind.wrap .i64 (v81 + (1 : Int))) ab0 ab1 bb0 bb1 cb0 cb1 (IntKind.wrap .i64 ((IntKind.wrap .i64 ((10 : Int) * db0)) + (0 : Int)))
 else
  k3 ab0 ab1 bb0 bb1 cb0 cb1 db0
noncomputable def F.num_Rate.L23 {X : Type} (n : Nat) (k3 : Int → Int → Int → Int → Int → Int → Int → Option X) : Nat → Z0 → Int → Int → Int → Int → Int → Int → Int → Int → Option X
 | 0 => fun _ _ _ _ _ _ _ _ _ => none
 | m + 1 => fun v7 v81 ab0 ab1 bb0 bb1 cb0 cb1 db0 => F.num_Rate.L23.step n (F.num_Rate.L23 n k3 m) k3 v7 v81 ab0 ab1 bb0 bb1 cb0 cb1 db0
noncomputable def F.num_Rate (n : Nat) (a0 : Z0) : Option ((Int) × (Z11) × Unit) :=
 bif a0 == ([49]) then
  some (((1000000 : Int), ((0 : Int), (0 : Int), ()), ()))
 else
  F.num_Rate.L5 n
   (fun e0 g0 g1 h0 h1 =>
    bif !((h0 == (0 : Int)) && (h1 == (0 : Int))) then
     (F.num_fault n h0 h1).bind fun y6 =>
      some ((y6.1, (y6.2.1.1, y6.2.1.2.1, ()), ()))
    else
     (sub e0 (2 : Int) (e0.length : Int)).bind fun x7 =>
      (F.class_Text n (4 : Int) x7 (1 : Int) (IntKind.wrap .i64 ((x7.length : Int) + (1 : Int)))).bind fun y8 =>
       bif !((y8.1 == (0 : Int)) && (y8.2.1 == (0 : Int))) then
        (F.num_fault n y8.1 (IntKind.wrap .i64 ((2 : Int) + y8.2.1))).bind fun y9 =>
         some ((y9.1, (y9.2.1.1, y9.2.1.2.1, ()), ()))
       else
       bif decide ((x7.length : Int) > (6 : Int)) then
        (F.num_fault n (12 : Int) (8 : Int)).bind fun y10 =>
         some ((y10.1, (y10.2.1.1, y10.2.1.2.1, ()), ()))
       else
        F.num_Rate.L23 n
         (fun g0 g1 h0 h1 i0 i1 j0 =>
          bif j0 == (0 : Int) then
           (F.num_fault n (10 : Int) (0 : Int)).bind fun y13 =>
            some ((y13.1, (y13.2.1.1, y13.2.1.2.1, ()), ()))
          else
           some ((j0, ((0 : Int), (0 : Int), ()), ()))) n x7 (0 : Int) g0 g1 h0 h1 y8.1 y8.2.1 (0 : Int)) n a0 ((48 : Int), (46 : Int), ()) (0 : Int) (0 : Int) (0 : Int) (0 : Int) (0 : Int)
noncomputable def F.statsd_Parse.C30 {X : Type} (n : Nat) (kr : Z0 → Z0 → Int → Z2 → Int → Z4 → Int → Int → Int → Option X) (kn : Bool → Z0 → Z0 → Int → Z2 → Int → Z4 → Int → Int → Int → Int → Z0 → Int → Z2 → Int → Z4 → Int → Nat → Nat → Nat → Nat → Option X) (c9 : Bool) (c19 : Int) (c141 : Bool) (ab0 : Z0) (bb0 : Z0) (bb1 : Int) (bb2 : Z2) (bb3 : Int) (bb4 : Z4) (bb5 : Int) (cb0 : Int) (cb1 : Int) (db0 : Int) (hb0 : Z0) (hb1 : Int) (hb2 : Z2) (hb3 : Int) (hb4 : Z4) (hb5 : Int) (ck0 : Nat) (ck1 : Nat) (ck2 : Nat) (ck3 : Nat) : Option X :=
 bif c141 then
  (F.statsd_fault n (18 : Int) c19).bind fun y24 =>
   kr ab0 y24.1.1 y24.1.2.1 y24.1.2.2.1 y24.1.2.2.2.1 y24.1.2.2.2.2.1 y24.1.2.2.2.2.2.1 y24.2.1.1 y24.2.1.2.1
 else
  kn c9 ab0 bb0 bb1 bb2 bb3 bb4 bb5 cb0 cb1 db0 hb0 hb1 hb2 hb3 hb4 hb5 ck0 ck1 ck2 ck3
noncomputable def F.statsd_Parse.C31 {X : Type} (n : Nat) (kr : Z0 → Z0 → Int → Z2 → Int → Z4 → Int → Int → Int → Option X) (c9 : Bool) (ab0 : Z0) (bb0 : Z0) (bb1 : Int) (bb2 : Z2) (bb3 : Int) (bb4 : Z4) (bb5 : Int) (cb0 : Int) (cb1 : Int) (db0 : Int) (hb0 : Z0) (hb1 : Int) (hb2 : Z2) (hb3 : Int) (hb4 : Z4) (hb5 : Int) (ck0 : Nat) (ck1 : Nat) (ck2 : Nat) (ck3 : Nat) : Option X :=
 bif c9 then
  (F.statsd_fault n (11 : Int) (IntKind.wrap .i64 (db0 - (1 : Int)))).bind fun y28 =>
   kr ab0 y28.1.1 y28.1.2.1 y28.1.2.2.1 y28.1.2.2.2.1 y28.1.2.2.2.2.1 y28.1.2.2.2.2.2.1 y28.2.1.1 y28.2.1.2.1
 else
  kr ab0 hb0 hb1 hb2 hb3 hb4 hb5 (0 : Int) (0 : Int)
noncomputable def F.statsd_Parse.C28 {X : Type} (n : Nat) (kr : Z0 → Z0 → Int → Z2 → Int → Z4 → Int → Int → Int → Option X) (c9 : Bool) (c16 : Int) (c18 : Z0) (c19 : Int) (ab0 : Z0) (bb0 : Z0) (bb1 : Int) (bb2 : Z2) (bb3 : Int) (bb4 : Z4) (bb5 : Int) (cb0 : Int) (cb1 : Int) (db0 : Int) (hb0 : Z0) (hb1 : Int) (hb2 : Z2) (hb3 : Int) (hb4 : Z4) (hb5 : Int) (ib0 : Bool) (ib1 : Int) (ib2 : Int) (jb0 : Int) (jb1 : Int) (ck0 : Nat) (ck1 : Nat) (ck2 : Nat) (ck3 : Nat) : Option X :=
 (F.num_Rate n c18).bind fun y36 =>
  bif !((y36.2.1.1 == (0 : Int)) && (y36.2.1.2.1 == (0 : Int))) then
   F.statsd_Parse.C30 n
    (fun g0 h0 h1 h2 h3 h4 h5 i0 i1 =>
     kr g0 h0 h1 h2 h3 h4 h5 i0 i1)
    (fun e9 g0 h0 h1 h2 h3 h4 h5 i0 i1 j0 l0 l1 l2 l3 l4 l5 ek0 ek1 ek2 ek3 =>
     F.statsd_Parse.C31 n
      (fun g0 h0 h1 h2 h3 h4 h5 i0 i1 =>
       kr g0 h0 h1 h2 h3 h4 h5 i0 i1) e9 g0 h0 h1 h2 h3 h4 h5 i0 i1 j0 l0 l1 l2 l3 l4 l5 ek0 ek1 ek2 ek3) c9 c19 true ab0 bb0 bb1 bb2 bb3 bb4 bb5 cb0 cb1 db0 hb0 hb1 hb2 y36.1 hb4 hb5 ck0 ck1 ck2 ck3
  else
  bif c16 == (2 : Int) then
   F.statsd_Parse.C30 n
    (fun g0 h0 h1 h2 h3 h4 h5 i0 i1 =>
     kr g0 h0 h1 h2 h3 h4 h5 i0 i1)
    (fun e9 g0 h0 h1 h2 h3 h4 h5 i0 i1 j0 l0 l1 l2 l3 l4 l5 ek0 ek1 ek2 ek3 =>
     F.statsd_Parse.C31 n
      (fun g0 h0 h1 h2 h3 h4 h5 i0 i1 =>
       kr g0 h0 h1 h2 h3 h4 h5 i0 i1) e9 g0 h0 h1 h2 h3 h4 h5 i0 i1 j0 l0 l1 l2 l3 l4 l5 ek0 ek1 ek2 ek3) c9 c19 (!(y36.1 == (1000000 : Int))) ab0 bb0 bb1 bb2 bb3 bb4 bb5 cb0 cb1 db0 hb0 hb1 hb2 y36.1 hb4 hb5 ck0 ck1 ck2 ck3
  else
   F.statsd_Parse.C30 n
    (fun g0 h0 h1 h2 h3 h4 h5 i0 i1 =>
     kr g0 h0 h1 h2 h3 h4 h5 i0 i1)
    (fun e9 g0 h0 h1 h2 h3 h4 h5 i0 i1 j0 l0 l1 l2 l3 l4 l5 ek0 ek1 ek2 ek3 =>
     F.statsd_Parse.C31 n
      (fun g0 h0 h1 h2 h3 h4 h5 i0 i1 =>
       kr g0 h0 h1 h2 h3 h4 h5 i0 i1) e9 g0 h0 h1 h2 h3 h4 h5 i0 i1 j0 l0 l1 l2 l3 l4 l5 ek0 ek1 ek2 ek3) c9 c19 false ab0 bb0 bb1 bb2 bb3 bb4 bb5 cb0 cb1 db0 hb0 hb1 hb2 y36.1 hb4 hb5 ck0 ck1 ck2 ck3
noncomputable def F.statsd_Parse.C21 {X : Type} (n : Nat) (kr : Z0 → Z0 → Int → Z2 → Int → Z4 → Int → Int → Int → Option X) (c7 : Z0) (c9 : Bool) (c16 : Int) (ab0 : Z0) (bb0 : Z0) (bb1 : Int) (bb2 : Z2) (bb3 : Int) (bb4 : Z4) (bb5 : Int) (cb0 : Int) (cb1 : Int) (db0 : Int) (hb0 : Z0) (hb1 : Int) (hb2 : Z2) (hb3 : Int) (hb4 : Z4) (hb5 : Int) (ib0 : Bool) (ib1 : Int) (ib2 : Int) (jb0 : Int) (jb1 : Int) (ck0 : Nat) (ck1 : Nat) (ck2 : Nat) (ck3 : Nat) : Option X :=
 bif !c9 then
  kr ab0 c7 c16 ([(ib0, ib1, ib2)]) hb3 hb4 hb5 (0 : Int) (0 : Int)
 else
  (sub ab0 db0 (ab0.length : Int)).bind fun x48 =>
   (F.strings_HasPrefix n x48 ([64])).bind fun y49 =>
    bif !y49 then
     (F.statsd_fault n (11 : Int) db0).bind fun y50 =>
      kr ab0 y50.1.1 y50.1.2.1 y50.1.2.2.1 y50.1.2.2.2.1 y50.1.2.2.2.2.1 y50.1.2.2.2.2.2.1 y50.2.1.1 y50.2.1.2.1
    else
     (sub ab0 (IntKind.wrap .i64 (db0 + (1 : Int))) (ab0.length : Int)).bind fun x51 =>
      (F.strings_Cut n x51 ([124])).bind fun y52 =>
       bif y52.2.2.1 then
        F.statsd_Parse.C28 n
         (fun g0 h0 h1 h2 h3 h4 h5 i0 i1 =>
          kr g0 h0 h1 h2 h3 h4 h5 i0 i1) y52.2.2.1 c16 y52.1 (IntKind.wrap .i64 (db0 + (1 : Int))) ab0 bb0 bb1 bb2 bb3 bb4 bb5 cb0 cb1 (IntKind.wrap .i64 ((IntKind.wrap .i64 ((IntKind.wrap .i64 (db0 + (1 : Int))) + (y52.1.length : Int))) + (1 : Int))) c7 c16 ([(ib0, ib1, ib2)]) hb3 hb4 hb5 ib0 ib1 ib2 jb0 jb1 ck0 ck1 1 ck3
       else
        F.statsd_Parse.C28 n
         (fun g0 h0 h1 h2 h3 h4 h5 i0 i1 =>
          kr g0 h0 h1 h2 h3 h4 h5 i0 i1) y52.2.2.1 c16 y52.1 (IntKind.wrap .i64 (db0 + (1 : Int))) ab0 bb0 bb1 bb2 bb3 bb4 bb5 cb0 cb1 (IntKind.wrap .i64 ((IntKind.wrap .i64 (db0 + (1 : Int))) + (y52.1.length : Int))) c7 c16 ([(ib0, ib1, ib2)]) hb3 hb4 hb5 ib0 ib1 ib2 jb0 jb1 ck0 ck1 1 ck3
noncomputable def F.statsd_Parse.C16 {X : Type} (n : Nat) (kr : Z0 → Z0 → Int → Z2 → Int → Z4 → Int → Int → Int → Option X) (c7 : Z0) (c9 : Bool) (c10 : Z0) (c11 : Int) (c14 : Z0) (c15 : Int) (ab0 : Z0) (bb0 : Z0) (bb1 : Int) (bb2 : Z2) (bb3 : Int) (bb4 : Z4) (bb5 : Int) (cb0 : Int) (cb1 : Int) (db0 : Int) (hb0 : Z0) (hb1 : Int) (hb2 : Z2) (hb3 : Int) (hb4 : Z4) (hb5 : Int) (ib0 : Bool) (ib1 : Int) (ib2 : Int) (jb0 : Int) (jb1 : Int) (ck0 : Nat) (ck1 : Nat) (ck2 : Nat) (ck3 : Nat) : Option X :=
 (F.statsd_Kind n c14).bind fun y57 =>
  bif !(y57.2.1 == (0 : Int)) then
   (F.statsd_fault n (16 : Int) c15).bind fun y58 =>
    kr ab0 y58.1.1 y58.1.2.1 y58.1.2.2.1 y58.1.2.2.2.1 y58.1.2.2.2.2.1 y58.1.2.2.2.2.2.1 y58.2.1.1 y58.2.1.2.1
  else
  bif y57.1 == (2 : Int) then
   (F.strings_HasPrefix n c10 ([45])).bind fun y59 =>
    bif y59 then
     (F.statsd_fault n (26 : Int) c11).bind fun y60 =>
      kr ab0 y60.1.1 y60.1.2.1 y60.1.2.2.1 y60.1.2.2.2.1 y60.1.2.2.2.2.1 y60.1.2.2.2.2.2.1 y60.2.1.1 y60.2.1.2.1
    else
     F.statsd_Parse.C21 n
      (fun g0 h0 h1 h2 h3 h4 h5 i0 i1 =>
       kr g0 h0 h1 h2 h3 h4 h5 i0 i1) c7 c9 y57.1 ab0 bb0 bb1 bb2 bb3 bb4 bb5 cb0 cb1 db0 hb0 hb1 hb2 hb3 hb4 hb5 ib0 ib1 ib2 jb0 jb1 ck0 ck1 ck2 ck3
  else
   F.statsd_Parse.C21 n
    (fun g0 h0 h1 h2 h3 h4 h5 i0 i1 =>
     kr g0 h0 h1 h2 h3 h4 h5 i0 i1) c7 c9 y57.1 ab0 bb0 bb1 bb2 bb3 bb4 bb5 cb0 cb1 db0 hb0 hb1 hb2 hb3 hb4 hb5 ib0 ib1 ib2 jb0 jb1 ck0 ck1 ck2 ck3
noncomputable def F.statsd_Parse.C10 {X : Type} (n : Nat) (kr : Z0 → Z0 → Int → Z2 → Int → Z4 → Int → Int → Int → Option X) (c7 : Z0) (c9 : Bool) (c10 : Z0) (c11 : Int) (ab0 : Z0) (bb0 : Z0) (bb1 : Int) (bb2 : Z2) (bb3 : Int) (bb4 : Z4) (bb5 : Int) (cb0 : Int) (cb1 : Int) (db0 : Int) (hb0 : Z0) (hb1 : Int) (hb2 : Z2) (hb3 : Int) (hb4 : Z4) (hb5 : Int) (ck0 : Nat) (ck1 : Nat) (ck2 : Nat) (ck3 : Nat) : Option X :=
 (F.dec_Parse n c10).bind fun y65 =>
  bif !((y65.2.1.1 == (0 : Int)) && (y65.2.1.2.1 == (0 : Int))) then
   (F.statsd_fault n (17 : Int) c11).bind fun y66 =>
    kr ab0 y66.1.1 y66.1.2.1 y66.1.2.2.1 y66.1.2.2.2.1 y66.1.2.2.2.2.1 y66.1.2.2.2.2.2.1 y66.2.1.1 y66.2.1.2.1
  else
  bif !c9 then
   (F.statsd_fault n (11 : Int) (ab0.length : Int)).bind fun y67 =>
    kr ab0 y67.1.1 y67.1.2.1 y67.1.2.2.1 y67.1.2.2.2.1 y67.1.2.2.2.2.1 y67.1.2.2.2.2.2.1 y67.2.1.1 y67.2.1.2.1
  else
   (sub ab0 db0 (ab0.length : Int)).bind fun x68 =>
    (F.strings_Cut n x68 ([124])).bind fun y69 =>
     bif y69.2.2.1 then
      F.statsd_Parse.C16 n
       (fun g0 h0 h1 h2 h3 h4 h5 i0 i1 =>
        kr g0 h0 h1 h2 h3 h4 h5 i0 i1) c7 y69.2.2.1 c10 c11 y69.1 db0 ab0 bb0 bb1 bb2 bb3 bb4 bb5 cb0 cb1 (IntKind.wrap .i64 ((IntKind.wrap .i64 (db0 + (y69.1.length : Int))) + (1 : Int))) hb0 hb1 hb2 hb3 hb4 hb5 y65.1.1 y65.1.2.1 y65.1.2.2.1 y65.2.1.1 y65.2.1.2.1 ck0 ck1 ck2 ck3
     else
      F.statsd_Parse.C16 n
       (fun g0 h0 h1 h2 h3 h4 h5 i0 i1 =>
        kr g0 h0 h1 h2 h3 h4 h5 i0 i1) c7 y69.2.2.1 c10 c11 y69.1 db0 ab0 bb0 bb1 bb2 bb3 bb4 bb5 cb0 cb1 (IntKind.wrap .i64 (db0 + (y69.1.length : Int))) hb0 hb1 hb2 hb3 hb4 hb5 y65.1.1 y65.1.2.1 y65.1.2.2.1 y65.2.1.1 y65.2.1.2.1 ck0 ck1 ck2 ck3
noncomputable def F.statsd_Parse.C5 {X : Type} (n : Nat) (kr : Z0 → Z0 → Int → Z2 → Int → Z4 → Int → Int → Int → Option X) (c7 : Z0) (c9 : Bool) (ab0 : Z0) (bb0 : Z0) (bb1 : Int) (bb2 : Z2) (bb3 : Int) (bb4 : Z4) (bb5 : Int) (cb0 : Int) (cb1 : Int) (db0 : Int) (hb0 : Z0) (hb1 : Int) (hb2 : Z2) (hb3 : Int) (hb4 : Z4) (hb5 : Int) (ck0 : Nat) (ck1 : Nat) (ck2 : Nat) (ck3 : Nat) : Option X :=
 (F.class_Text n (1 : Int) c7 (1 : Int) (200 : Int)).bind fun y74 =>
  bif !((y74.1 == (0 : Int)) && (y74.2.1 == (0 : Int))) then
   (F.statsd_fault n (15 : Int) (0 : Int)).bind fun y75 =>
    kr ab0 y75.1.1 y75.1.2.1 y75.1.2.2.1 y75.1.2.2.2.1 y75.1.2.2.2.2.1 y75.1.2.2.2.2.2.1 y75.2.1.1 y75.2.1.2.1
  else
  bif !c9 then
   (F.statsd_fault n (11 : Int) (ab0.length : Int)).bind fun y76 =>
    kr ab0 y76.1.1 y76.1.2.1 y76.1.2.2.1 y76.1.2.2.2.1 y76.1.2.2.2.2.1 y76.1.2.2.2.2.2.1 y76.2.1.1 y76.2.1.2.1
  else
   (sub ab0 db0 (ab0.length : Int)).bind fun x77 =>
    (F.strings_Cut n x77 ([124])).bind fun y78 =>
     bif y78.2.2.1 then
      F.statsd_Parse.C10 n
       (fun g0 h0 h1 h2 h3 h4 h5 i0 i1 =>
        kr g0 h0 h1 h2 h3 h4 h5 i0 i1) c7 y78.2.2.1 y78.1 db0 ab0 bb0 bb1 bb2 bb3 bb4 bb5 cb0 cb1 (IntKind.wrap .i64 ((IntKind.wrap .i64 (db0 + (y78.1.length : Int))) + (1 : Int))) hb0 hb1 hb2 hb3 hb4 hb5 ck0 ck1 ck2 ck3
     else
      F.statsd_Parse.C10 n
       (fun g0 h0 h1 h2 h3 h4 h5 i0 i1 =>
        kr g0 h0 h1 h2 h3 h4 h5 i0 i1) c7 y78.2.2.1 y78.1 db0 ab0 bb0 bb1 bb2 bb3 bb4 bb5 cb0 cb1 (IntKind.wrap .i64 (db0 + (y78.1.length : Int))) hb0 hb1 hb2 hb3 hb4 hb5 ck0 ck1 ck2 ck3
noncomputable def F.statsd_Parse (n : Nat) (a0 : Z0) : Option ((Z7) × (Z11) × Unit) :=
 (sub a0 (0 : Int) (a0.length : Int)).bind fun x1 =>
  (F.strings_Cut n x1 ([58])).bind fun y2 =>
   bif y2.2.2.1 then
    F.statsd_Parse.C5 n
     (fun g0 h0 h1 h2 h3 h4 h5 i0 i1 =>
      some (((h0, h1, h2, h3, h4, h5, ()), (i0, i1, ()), ()))) y2.1 y2.2.2.1 a0 [] (0 : Int) [] (0 : Int) [] (0 : Int) (0 : Int) (0 : Int) (IntKind.wrap .i64 ((IntKind.wrap .i64 ((0 : Int) + (y2.1.length : Int))) + (1 : Int))) [] (0 : Int) [] (1000000 : Int) [] (0 : Int) 0 0 0 0
   else
    F.statsd_Parse.C5 n
     (fun g0 h0 h1 h2 h3 h4 h5 i0 i1 =>
      some (((h0, h1, h2, h3, h4, h5, ()), (i0, i1, ()), ()))) y2.1 y2.2.2.1 a0 [] (0 : Int) [] (0 : Int) [] (0 : Int) (0 : Int) (0 : Int) (IntKind.wrap .i64 ((0 : Int) + (y2.1.length : Int))) [] (0 : Int) [] (1000000 : Int) [] (0 : Int) 0 0 0 0
noncomputable def F.dog_Parse (n : Nat) (a0 : Z0) : Option ((Z7) × (Z11) × Unit) := none
noncomputable def F.graphite_Parse (n : Nat) (a0 : Z0) : Option ((Z7) × (Z11) × Unit) := none
noncomputable def F.text_Parse (n : Nat) (a0 : Z0) (a1 : Int) : Option ((Z7) × (Z11) × Unit) :=
 bif a1 == (1 : Int) then
  bif decide ((a0.length : Int) > (8192 : Int)) then
   some ((([], (0 : Int), [], (0 : Int), [], (0 : Int), ()), ((12 : Int), (0 : Int), ()), ()))
  else
   (F.statsd_Parse n a0).bind fun y1 =>
    some (((y1.1.1, y1.1.2.1, y1.1.2.2.1, y1.1.2.2.2.1, y1.1.2.2.2.2.1, y1.1.2.2.2.2.2.1, ()), (y1.2.1.1, y1.2.1.2.1, ()), ()))
 else
 bif a1 == (2 : Int) then
  bif decide ((a0.length : Int) > (8192 : Int)) then
   some ((([], (0 : Int), [], (0 : Int), [], (0 : Int), ()), ((12 : Int), (0 : Int), ()), ()))
  else
   (F.dog_Parse n a0).bind fun y2 =>
    some (((y2.1.1, y2.1.2.1, y2.1.2.2.1, y2.1.2.2.2.1, y2.1.2.2.2.2.1, y2.1.2.2.2.2.2.1, ()), (y2.2.1.1, y2.2.1.2.1, ()), ()))
 else
 bif a1 == (3 : Int) then
  bif decide ((a0.length : Int) > (8192 : Int)) then
   some ((([], (0 : Int), [], (0 : Int), [], (0 : Int), ()), ((12 : Int), (0 : Int), ()), ()))
  else
   (F.graphite_Parse n a0).bind fun y3 =>
    some (((y3.1.1, y3.1.2.1, y3.1.2.2.1, y3.1.2.2.2.1, y3.1.2.2.2.2.1, y3.1.2.2.2.2.2.1, ()), (y3.2.1.1, y3.2.1.2.1, ()), ()))
 else
  some ((([], (0 : Int), [], (0 : Int), [], (0 : Int), ()), ((29 : Int), (0 : Int), ()), ()))
noncomputable def F.strings_IndexByte (n : Nat) (a0 : Z0) (a1 : Int) : Option (Int) :=
 (O.indexB n a0 a1).bind fun y1 =>
  some (y1)
noncomputable def F.text_Decode.L0_strings_Lines_1.step {X : Type} (n : Nat) (rec : Int → Z6 → Int → Int → Z6 → Int → Z0 → Nat → Nat → Option X) (k0 : Int → Z6 → Int → Int → Z6 → Int → Z0 → Nat → Nat → Option X) (kr : Int → Z6 → Int → Int → Z6 → Int → Z0 → Nat → Nat → Option X) (ab0 : Int) (bb0 : Z6) (cb0 : Int) (cb1 : Int) (ib0 : Z6) (jb0 : Int) (lb0 : Z0) (vk0 : Nat) (vk1 : Nat) : Option X :=
 bif decide ((lb0.length : Int) > (0 : Int)) then
  (F.strings_IndexByte n lb0 (10 : Int)).bind fun y1 =>
   bif decide (y1 ≥ (0 : Int)) then
    (sub lb0 (0 : Int) (IntKind.wrap .i64 (y1 + (1 : Int)))).bind fun x2 =>
     (sub lb0 (IntKind.wrap .i64 (y1 + (1 : Int))) (lb0.length : Int)).bind fun x3 =>
      (F.strings_CutSuffix n x2 ([10])).bind fun y4 =>
       bif (ib0.length : Int) == (1000 : Int) then
        bif !(false && true) then
         kr ab0 [] (12 : Int) (IntKind.wrap .i64 (jb0 + (0 : Int))) ib0 jb0 x3 0 vk1
        else
        bif decide ((ib0.length + 1) * 88 ≤ 2 ^ 46) && decide (0 < 88 ∧ 88 ≤ 2 ^ 20) then
         bif Nat.beq vk1 ib0.length then
          rec ab0 bb0 cb0 cb1 (ib0 ++ ([([], 0, [], 0, [], 0)])) (IntKind.wrap .i64 (jb0 + (x2.length : Int))) x3 vk0 ((ib0 ++ ([([], 0, [], 0, [], 0)])).length)
         else
          none
        else
         none
       else
       bif !y4.2.1 then
        bif !(false && true) then
         kr ab0 [] (30 : Int) (IntKind.wrap .i64 (jb0 + (0 : Int))) ib0 jb0 x3 0 vk1
        else
        bif decide ((ib0.length + 1) * 88 ≤ 2 ^ 46) && decide (0 < 88 ∧ 88 ≤ 2 ^ 20) then
         bif Nat.beq vk1 ib0.length then
          rec ab0 bb0 cb0 cb1 (ib0 ++ ([([], 0, [], 0, [], 0)])) (IntKind.wrap .i64 (jb0 + (x2.length : Int))) x3 vk0 ((ib0 ++ ([([], 0, [], 0, [], 0)])).length)
         else
          none
        else
         none
       else
        (F.text_Parse n y4.1 ab0).bind fun y5 =>
         bif !((y5.2.1.1 == (0 : Int)) && (y5.2.1.2.1 == (0 : Int))) then
          kr ab0 [] y5.2.1.1 (IntKind.wrap .i64 (jb0 + y5.2.1.2.1)) ib0 jb0 x3 0 vk1
         else
         bif decide ((ib0.length + 1) * 88 ≤ 2 ^ 46) && decide (0 < 88 ∧ 88 ≤ 2 ^ 20) then
          bif Nat.beq vk1 ib0.length then
           rec ab0 bb0 cb0 cb1 (ib0 ++ ([(y5.1.1, y5.1.2.1, y5.1.2.2.1, y5.1.2.2.2.1, y5.1.2.2.2.2.1, y5.1.2.2.2.2.2.1)])) (IntKind.wrap .i64 (jb0 + (x2.length : Int))) x3 vk0 ((ib0 ++ ([(y5.1.1, y5.1.2.1, y5.1.2.2.1, y5.1.2.2.2.1, y5.1.2.2.2.2.1, y5.1.2.2.2.2.2.1)])).length)
          else
           none
         else
          none
   else
    (F.strings_CutSuffix n lb0 ([10])).bind fun y6 =>
     bif (ib0.length : Int) == (1000 : Int) then
      bif !(false && true) then
       kr ab0 [] (12 : Int) (IntKind.wrap .i64 (jb0 + (0 : Int))) ib0 jb0 [] 0 vk1
      else
      bif decide ((ib0.length + 1) * 88 ≤ 2 ^ 46) && decide (0 < 88 ∧ 88 ≤ 2 ^ 20) then
       bif Nat.beq vk1 ib0.length then
        rec ab0 bb0 cb0 cb1 (ib0 ++ ([([], 0, [], 0, [], 0)])) (IntKind.wrap .i64 (jb0 + (lb0.length : Int))) [] vk0 ((ib0 ++ ([([], 0, [], 0, [], 0)])).length)
       else
        none
      else
       none
     else
     bif !y6.2.1 then
      bif !(false && true) then
       kr ab0 [] (30 : Int) (IntKind.wrap .i64 (jb0 + (0 : Int))) ib0 jb0 [] 0 vk1
      else
      bif decide ((ib0.length + 1) * 88 ≤ 2 ^ 46) && decide (0 < 88 ∧ 88 ≤ 2 ^ 20) then
       bif Nat.beq vk1 ib0.length then
        rec ab0 bb0 cb0 cb1 (ib0 ++ ([([], 0, [], 0, [], 0)])) (IntKind.wrap .i64 (jb0 + (lb0.length : Int))) [] vk0 ((ib0 ++ ([([], 0, [], 0, [], 0)])).length)
       else
        none
      else
       none
     else
      (F.text_Parse n y6.1 ab0).bind fun y7 =>
       bif !((y7.2.1.1 == (0 : Int)) && (y7.2.1.2.1 == (0 : Int))) then
        kr ab0 [] y7.2.1.1 (IntKind.wrap .i64 (jb0 + y7.2.1.2.1)) ib0 jb0 [] 0 vk1
       else
       bif decide ((ib0.length + 1) * 88 ≤ 2 ^ 46) && decide (0 < 88 ∧ 88 ≤ 2 ^ 20) then
        bif Nat.beq vk1 ib0.length then
         rec ab0 bb0 cb0 cb1 (ib0 ++ ([(y7.1.1, y7.1.2.1, y7.1.2.2.1, y7.1.2.2.2.1, y7.1.2.2.2.2.1, y7.1.2.2.2.2.2.1)])) (IntKind.wrap .i64 (jb0 + (lb0.length : Int))) [] vk0 ((ib0 ++ ([(y7.1.1, y7.1.2.1, y7.1.2.2.1, y7.1.2.2.2.1, y7.1.2.2.2.2.1, y7.1.2.2.2.2.2.1)])).length)
        else
         none
       else
        none
 else
  k0 ab0 bb0 cb0 cb1 ib0 jb0 lb0 vk0 vk1
noncomputable def F.text_Decode.L0_strings_Lines_1 {X : Type} (n : Nat) (k0 : Int → Z6 → Int → Int → Z6 → Int → Z0 → Nat → Nat → Option X) (kr : Int → Z6 → Int → Int → Z6 → Int → Z0 → Nat → Nat → Option X) : Nat → Int → Z6 → Int → Int → Z6 → Int → Z0 → Nat → Nat → Option X
 | 0 => fun _ _ _ _ _ _ _ _ _ => none
 | m + 1 => fun ab0 bb0 cb0 cb1 ib0 jb0 lb0 vk0 vk1 => F.text_Decode.L0_strings_Lines_1.step n (F.text_Decode.L0_strings_Lines_1 n k0 kr m) k0 kr ab0 bb0 cb0 cb1 ib0 jb0 lb0 vk0 vk1
noncomputable def F.text_Decode (n : Nat) (a0 : Z14) (a1 : Int) : Option ((Z6) × (Z11) × Unit) :=
 bif a1 == (1 : Int) then
  F.text_Decode.L0_strings_Lines_1 n
   (fun g0 h0 i0 i1 o0 p0 q0 ek0 ek1 =>
    some ((o0, ((0 : Int), (0 : Int), ()), ())))
   (fun g0 h0 i0 i1 o0 p0 q0 ek0 ek1 =>
    some ((h0, (i0, i1, ()), ()))) n a1 [] (0 : Int) (0 : Int) [] (0 : Int) a0 0 0
 else
 bif a1 == (2 : Int) then
  F.text_Decode.L0_strings_Lines_1 n
   (fun g0 h0 i0 i1 o0 p0 q0 ek0 ek1 =>
    some ((o0, ((0 : Int), (0 : Int), ()), ())))
   (fun g0 h0 i0 i1 o0 p0 q0 ek0 ek1 =>
    some ((h0, (i0, i1, ()), ()))) n a1 [] (0 : Int) (0 : Int) [] (0 : Int) a0 0 0
 else
 bif a1 == (3 : Int) then
  F.text_Decode.L0_strings_Lines_1 n
   (fun g0 h0 i0 i1 o0 p0 q0 ek0 ek1 =>
    some ((o0, ((0 : Int), (0 : Int), ()), ())))
   (fun g0 h0 i0 i1 o0 p0 q0 ek0 ek1 =>
    some ((h0, (i0, i1, ()), ()))) n a1 [] (0 : Int) (0 : Int) [] (0 : Int) a0 0 0
 else
  some (([], ((29 : Int), (0 : Int), ()), ()))
noncomputable def F.trans_Decode (n : Nat) (a0 : Z14) (a1 : Int) : Option ((Z6) × (Z11) × Unit) :=
 bif decide (a1 < (1 : Int)) then
  some (([], ((29 : Int), (0 : Int), ()), ()))
 else
 bif decide (a1 ≥ (5 : Int)) then
  some (([], ((29 : Int), (0 : Int), ()), ()))
 else
 bif a1 == (0 : Int) then
  none
 else
 bif a1 == (1 : Int) then
  (F.text_Decode n a0 (1 : Int)).bind fun y1 =>
   some ((y1.1, (y1.2.1.1, y1.2.1.2.1, ()), ()))
 else
 bif a1 == (2 : Int) then
  (F.text_Decode n a0 (2 : Int)).bind fun y2 =>
   some ((y2.1, (y2.2.1.1, y2.2.1.2.1, ()), ()))
 else
 bif a1 == (3 : Int) then
  (F.text_Decode n a0 (3 : Int)).bind fun y3 =>
   some ((y3.1, (y3.2.1.1, y3.2.1.2.1, ()), ()))
 else
 bif a1 == (4 : Int) then
  (F.frame_Decode n a0).bind fun y4 =>
   some ((y4.1, (y4.2.1.1, y4.2.1.2.1, ()), ()))
 else
  none
noncomputable def F.slices_Clip_api_Tag_api_Tag (n : Nat) (a0 : Z4) : Option (Z4) :=
 bif (a0.length : Int) == (a0.length : Int) then
  (sub a0 (0 : Int) (a0.length : Int)).bind fun x1 =>
   some (x1)
 else
  none
noncomputable def F.tag_Normal.L5.step {X : Type} (n : Nat) (rec : Z15 → Int → Z15 → Int → Int → Z17 → Z17 → Z17 → Option X) (k0 : Z15 → Int → Z17 → Z17 → Z17 → Option X) (v3 : Z15) (v4 : Int) (v11 : Z15) (v12 : Int) (v13 : Int) (ab0 : Z17) (bb0 : Z17) (cb0 : Z17) : Option X :=
 bif decide (v13 < v12) then
  bif decide (0 ≤ v13) && decide (v13 < ((v11.2 : Nat) : Int)) then
   bif Nat.beq v11.1 cb0.1 then
    (idx cb0.2 v13).bind fun x1 =>
     bif v13 == (0 : Int) then
      bif decide (0 ≤ v4) && decide (v4 < ((v3.2 : Nat) : Int)) then
       bif Nat.beq v3.1 cb0.1 then
        (idx cb0.2 v4).bind fun x2 =>
         rec (v3.1, v3.2) (IntKind.wrap .i64 (v4 + (1 : Int))) (v11.1, v11.2) v12 (IntKind.wrap .i64 (v13 + (1 : Int))) (ab0.1, ab0.2) (bb0.1, bb0.2) (v3.1, upd cb0.2 (Int.toNat v4) (x1.1, x1.2))
       else
        none
      else
       none
     else
     bif decide (0 ≤ (IntKind.wrap .i64 (v4 - (1 : Int)))) && decide ((IntKind.wrap .i64 (v4 - (1 : Int))) < ((v3.2 : Nat) : Int)) then
      bif Nat.beq v3.1 cb0.1 then
       (idx cb0.2 (IntKind.wrap .i64 (v4 - (1 : Int)))).bind fun x3 =>
        bif !((x1.1 == x3.1) && (x1.2 == x3.2)) then
         bif decide (0 ≤ v4) && decide (v4 < ((v3.2 : Nat) : Int)) then
          bif Nat.beq v3.1 cb0.1 then
           (idx cb0.2 v4).bind fun x4 =>
            rec (v3.1, v3.2) (IntKind.wrap .i64 (v4 + (1 : Int))) (v11.1, v11.2) v12 (IntKind.wrap .i64 (v13 + (1 : Int))) (ab0.1, ab0.2) (bb0.1, bb0.2) (v3.1, upd cb0.2 (Int.toNat v4) (x1.1, x1.2))
          else
           none
         else
          none
        else
         rec (v3.1, v3.2) v4 (v11.1, v11.2) v12 (IntKind.wrap .i64 (v13 + (1 : Int))) (ab0.1, ab0.2) (bb0.1, bb0.2) (cb0.1, cb0.2)
      else
       none
     else
      none
   else
    none
  else
   none
 else
  k0 (v3.1, v3.2) v4 (ab0.1, ab0.2) (bb0.1, bb0.2) (cb0.1, cb0.2)
noncomputable def F.tag_Normal.L5 {X : Type} (n : Nat) (k0 : Z15 → Int → Z17 → Z17 → Z17 → Option X) : Nat → Z15 → Int → Z15 → Int → Int → Z17 → Z17 → Z17 → Option X
 | 0 => fun _ _ _ _ _ _ _ _ => none
 | m + 1 => fun v3 v4 v11 v12 v13 ab0 bb0 cb0 => F.tag_Normal.L5.step n (F.tag_Normal.L5 n k0 m) k0 v3 v4 v11 v12 v13 ab0 bb0 cb0
noncomputable def F.tag_Normal (n : Nat) (a0 : Z4) : Option (Z4) :=
 bif List.isEmpty a0 then
  both
   (
    bif Nat.beq (sortTags []).length 0 && Nat.blt 0 strMax then
     F.tag_Normal.L5 n
      (fun e3 e4 g0 h0 i0 =>
       bif Nat.beq e3.1 i0.1 then
        (sub i0.2 (0 : Int) e4).bind fun x6 =>
         (F.slices_Clip_api_Tag_api_Tag n x6).bind fun y7 =>
          some (y7)
       else
        none) n (1, 0) (0 : Int) (1, 0) (0 : Int) (0 : Int) (1, []) (1, []) (1, sortTags [])
    else
     none)
   (
    bif decide ((0 + a0.length) * 32 ≤ 2 ^ 46) && decide (0 < 32 ∧ 32 ≤ 2 ^ 20) then
     bif Nat.beq (sortTags ([] ++ a0)).length (([] ++ a0).length) && Nat.blt (([] ++ a0).length) strMax then
      F.tag_Normal.L5 n
       (fun e3 e4 g0 h0 i0 =>
        bif Nat.beq e3.1 i0.1 then
         (sub i0.2 (0 : Int) e4).bind fun x9 =>
          (F.slices_Clip_api_Tag_api_Tag n x9).bind fun y10 =>
           some (y10)
        else
         none) n (2, ([] ++ a0).length) (0 : Int) (2, ([] ++ a0).length) ((([] ++ a0).length : Nat) : Int) (0 : Int) (1, []) (1, []) (2, sortTags ([] ++ a0))
     else
      none
    else
     none)
 else
 bif decide ((0 + a0.length) * 32 ≤ 2 ^ 46) && decide (0 < 32 ∧ 32 ≤ 2 ^ 20) then
  bif Nat.beq (sortTags ([] ++ a0)).length (([] ++ a0).length) && Nat.blt (([] ++ a0).length) strMax then
   F.tag_Normal.L5 n
    (fun e3 e4 g0 h0 i0 =>
     bif Nat.beq e3.1 i0.1 then
      (sub i0.2 (0 : Int) e4).bind fun x12 =>
       (F.slices_Clip_api_Tag_api_Tag n x12).bind fun y13 =>
        some (y13)
     else
      none) n (2, ([] ++ a0).length) (0 : Int) (2, ([] ++ a0).length) ((([] ++ a0).length : Nat) : Int) (0 : Int) (1, []) (1, []) (2, sortTags ([] ++ a0))
  else
   none
 else
  none
noncomputable def F.metric_Normal.L3.step {X : Type} (n : Nat) (rec : Z15 → Z15 → Int → Int → Z0 → Int → Z2 → Int → Z4 → Int → Z0 → Int → Z2 → Int → Z4 → Int → Z16 → Z16 → Nat → Nat → Option X) (k0 : Z15 → Z0 → Int → Z2 → Int → Z4 → Int → Z0 → Int → Z2 → Int → Z4 → Int → Z16 → Z16 → Nat → Nat → Option X) (v4 : Z15) (v13 : Z15) (v14 : Int) (v15 : Int) (ab0 : Z0) (ab1 : Int) (ab2 : Z2) (ab3 : Int) (ab4 : Z4) (ab5 : Int) (bb0 : Z0) (bb1 : Int) (bb2 : Z2) (bb3 : Int) (bb4 : Z4) (bb5 : Int) (cb0 : Z16) (db0 : Z16) (vk0 : Nat) (vk1 : Nat) : Option X :=
 bif decide (v15 < v14) then
  bif decide (0 ≤ v15) && decide (v15 < ((v13.2 : Nat) : Int)) then
   bif Nat.beq v13.1 db0.1 then
    (idx db0.2 v15).bind fun x1 =>
     (F.dec_Normal n (x1.1, x1.2.1, x1.2.2, ())).bind fun y2 =>
      bif y2.2.1 == (0 : Int) then
       bif decide (0 ≤ v15) && decide (v15 < ((v4.2 : Nat) : Int)) then
        bif Nat.beq v4.1 db0.1 then
         (idx db0.2 v15).bind fun x3 =>
          rec (v4.1, v4.2) (v13.1, v13.2) v14 (IntKind.wrap .i64 (v15 + (1 : Int))) ab0 ab1 ab2 ab3 ab4 ab5 bb0 bb1 bb2 bb3 bb4 bb5 (cb0.1, cb0.2) (v4.1, upd db0.2 (Int.toNat v15) (y2.1.1, y2.1.2.1, y2.1.2.2.1)) vk0 vk1
        else
         none
       else
        none
      else
       rec (v4.1, v4.2) (v13.1, v13.2) v14 (IntKind.wrap .i64 (v15 + (1 : Int))) ab0 ab1 ab2 ab3 ab4 ab5 bb0 bb1 bb2 bb3 bb4 bb5 (cb0.1, cb0.2) (db0.1, db0.2) vk0 vk1
   else
    none
  else
   none
 else
  k0 (v4.1, v4.2) ab0 ab1 ab2 ab3 ab4 ab5 bb0 bb1 bb2 bb3 bb4 bb5 (cb0.1, cb0.2) (db0.1, db0.2) vk0 vk1
noncomputable def F.metric_Normal.L3 {X : Type} (n : Nat) (k0 : Z15 → Z0 → Int → Z2 → Int → Z4 → Int → Z0 → Int → Z2 → Int → Z4 → Int → Z16 → Z16 → Nat → Nat → Option X) : Nat → Z15 → Z15 → Int → Int → Z0 → Int → Z2 → Int → Z4 → Int → Z0 → Int → Z2 → Int → Z4 → Int → Z16 → Z16 → Nat → Nat → Option X
 | 0 => fun _ _ _ _ _ _ _ _ _ _ _ _ _ _ _ _ _ _ _ _ => none
 | m + 1 => fun v4 v13 v14 v15 ab0 ab1 ab2 ab3 ab4 ab5 bb0 bb1 bb2 bb3 bb4 bb5 cb0 db0 vk0 vk1 => F.metric_Normal.L3.step n (F.metric_Normal.L3 n k0 m) k0 v4 v13 v14 v15 ab0 ab1 ab2 ab3 ab4 ab5 bb0 bb1 bb2 bb3 bb4 bb5 cb0 db0 vk0 vk1
noncomputable def F.metric_Normal (n : Nat) (a0 : Z7) : Option ((Z7) × (Int) × Unit) :=
 bif List.isEmpty a0.2.2.1 then
  both
   (
    F.metric_Normal.L3 n
     (fun e4 g0 g1 g2 g3 g4 g5 h0 h1 h2 h3 h4 h5 i0 j0 ek0 ek1 =>
      bif Nat.beq e4.1 j0.1 then
       (F.metric_Check n (g0, g1, j0.2, g3, g4, g5, ())).bind fun y5 =>
        bif !(y5 == (0 : Int)) then
         some ((([], (0 : Int), [], (0 : Int), [], (0 : Int), ()), y5, ()))
        else
         (F.tag_Normal n g4).bind fun y6 =>
          some (((g0, g1, j0.2, g3, y6, g5, ()), (0 : Int), ()))
      else
       none) n (1, 0) (1, 0) (0 : Int) (0 : Int) a0.1 a0.2.1 a0.2.2.1 a0.2.2.2.1 a0.2.2.2.2.1 a0.2.2.2.2.2.1 [] (0 : Int) [] (0 : Int) [] (0 : Int) (1, []) (1, []) 0 0)
   (
    bif decide ((0 + a0.2.2.1.length) * 24 ≤ 2 ^ 46) && decide (0 < 24 ∧ 24 ≤ 2 ^ 20) then
     F.metric_Normal.L3 n
      (fun e4 g0 g1 g2 g3 g4 g5 h0 h1 h2 h3 h4 h5 i0 j0 ek0 ek1 =>
       bif Nat.beq e4.1 j0.1 then
        (F.metric_Check n (g0, g1, j0.2, g3, g4, g5, ())).bind fun y8 =>
         bif !(y8 == (0 : Int)) then
          some ((([], (0 : Int), [], (0 : Int), [], (0 : Int), ()), y8, ()))
         else
          (F.tag_Normal n g4).bind fun y9 =>
           some (((g0, g1, j0.2, g3, y9, g5, ()), (0 : Int), ()))
       else
        none) n (2, ([] ++ a0.2.2.1).length) (2, ([] ++ a0.2.2.1).length) ((([] ++ a0.2.2.1).length : Nat) : Int) (0 : Int) a0.1 a0.2.1 a0.2.2.1 a0.2.2.2.1 a0.2.2.2.2.1 a0.2.2.2.2.2.1 [] (0 : Int) [] (0 : Int) [] (0 : Int) (1, []) (2, [] ++ a0.2.2.1) 0 0
    else
     none)
 else
 bif decide ((0 + a0.2.2.1.length) * 24 ≤ 2 ^ 46) && decide (0 < 24 ∧ 24 ≤ 2 ^ 20) then
  F.metric_Normal.L3 n
   (fun e4 g0 g1 g2 g3 g4 g5 h0 h1 h2 h3 h4 h5 i0 j0 ek0 ek1 =>
    bif Nat.beq e4.1 j0.1 then
     (F.metric_Check n (g0, g1, j0.2, g3, g4, g5, ())).bind fun y11 =>
      bif !(y11 == (0 : Int)) then
       some ((([], (0 : Int), [], (0 : Int), [], (0 : Int), ()), y11, ()))
      else
       (F.tag_Normal n g4).bind fun y12 =>
        some (((g0, g1, j0.2, g3, y12, g5, ()), (0 : Int), ()))
    else
     none) n (2, ([] ++ a0.2.2.1).length) (2, ([] ++ a0.2.2.1).length) ((([] ++ a0.2.2.1).length : Nat) : Int) (0 : Int) a0.1 a0.2.1 a0.2.2.1 a0.2.2.2.1 a0.2.2.2.2.1 a0.2.2.2.2.2.1 [] (0 : Int) [] (0 : Int) [] (0 : Int) (1, []) (2, [] ++ a0.2.2.1) 0 0
 else
  none
noncomputable def F.batch_Normal.L1_batch_all_api_Metric_1.step {X : Type} (n : Nat) (rec : Z6 → Int → Int → Z6 → Int → Int → Z6 → Z6 → Nat → Nat → Option X) (k0 : Z6 → Int → Int → Z6 → Z6 → Nat → Nat → Option X) (kr : Z6 → Int → Int → Z6 → Z6 → Nat → Nat → Option X) (krx1 : Z6 → Int → Int → Z6 → Z6 → Nat → Nat → Option X) (v8 : Z6) (v9 : Int) (v10 : Int) (ab0 : Z6) (bb0 : Int) (cb0 : Int) (db0 : Z6) (hb0 : Z6) (vk0 : Nat) (vk1 : Nat) : Option X :=
 bif decide (v10 < v9) then
  (idx v8 v10).bind fun x1 =>
   (F.metric_Normal n (x1.1, x1.2.1, x1.2.2.1, x1.2.2.2.1, x1.2.2.2.2.1, x1.2.2.2.2.2, ())).bind fun y2 =>
    bif !(y2.2.1 == (0 : Int)) then
     kr [] (db0.length : Int) y2.2.1 db0 hb0 0 vk1
    else
    bif decide ((db0.length + 1) * 88 ≤ 2 ^ 46) && decide (0 < 88 ∧ 88 ≤ 2 ^ 20) then
     bif Nat.beq vk1 db0.length then
      bif !(y2.2.1 == (0 : Int)) then
       krx1 ab0 bb0 cb0 (db0 ++ ([(y2.1.1, y2.1.2.1, y2.1.2.2.1, y2.1.2.2.2.1, y2.1.2.2.2.2.1, y2.1.2.2.2.2.2.1)])) hb0 vk0 ((db0 ++ ([(y2.1.1, y2.1.2.1, y2.1.2.2.1, y2.1.2.2.2.1, y2.1.2.2.2.2.1, y2.1.2.2.2.2.2.1)])).length)
      else
       rec v8 v9 (IntKind.wrap .i64 (v10 + (1 : Int))) ab0 bb0 cb0 (db0 ++ ([(y2.1.1, y2.1.2.1, y2.1.2.2.1, y2.1.2.2.2.1, y2.1.2.2.2.2.1, y2.1.2.2.2.2.2.1)])) hb0 vk0 ((db0 ++ ([(y2.1.1, y2.1.2.1, y2.1.2.2.1, y2.1.2.2.2.1, y2.1.2.2.2.2.1, y2.1.2.2.2.2.2.1)])).length)
     else
      none
    else
     none
 else
  k0 ab0 bb0 cb0 db0 hb0 vk0 vk1
noncomputable def F.batch_Normal.L1_batch_all_api_Metric_1 {X : Type} (n : Nat) (k0 : Z6 → Int → Int → Z6 → Z6 → Nat → Nat → Option X) (kr : Z6 → Int → Int → Z6 → Z6 → Nat → Nat → Option X) (krx1 : Z6 → Int → Int → Z6 → Z6 → Nat → Nat → Option X) : Nat → Z6 → Int → Int → Z6 → Int → Int → Z6 → Z6 → Nat → Nat → Option X
 | 0 => fun _ _ _ _ _ _ _ _ _ _ => none
 | m + 1 => fun v8 v9 v10 ab0 bb0 cb0 db0 hb0 vk0 vk1 => F.batch_Normal.L1_batch_all_api_Metric_1.step n (F.batch_Normal.L1_batch_all_api_Metric_1 n k0 kr krx1 m) k0 kr krx1 v8 v9 v10 ab0 bb0 cb0 db0 hb0 vk0 vk1
noncomputable def F.batch_Normal (n : Nat) (a0 : Z6) : Option ((Z6) × (Int) × (Int) × Unit) :=
 bif decide ((a0.length : Int) > (1000 : Int)) then
  some (([], (1000 : Int), (12 : Int), ()))
 else
  F.batch_Normal.L1_batch_all_api_Metric_1 n
   (fun g0 h0 i0 j0 l0 ek0 ek1 =>
    some ((j0, (0 : Int), (0 : Int), ())))
   (fun g0 h0 i0 j0 l0 ek0 ek1 =>
    some ((g0, h0, i0, ())))
   (fun g0 h0 i0 j0 l0 ek0 ek1 =>
    some ((j0, (0 : Int), (0 : Int), ()))) n a0 (a0.length : Int) (0 : Int) [] (0 : Int) (0 : Int) [] a0 0 0
noncomputable def F.frame_Encode (n : Nat) (a0 : Z6) : Option ((Z14) × (Int) × (Int) × Unit) := none
noncomputable def F.dec_Text (n : Nat) (a0 : Z12) : Option ((Z0) × (Int) × Unit) :=
 (F.dec_Check n (a0.1, a0.2.1, a0.2.2.1, ())).bind fun y1 =>
  bif !(y1 == (0 : Int)) then
   some (([], y1, ()))
  else
   (O.futoa n a0.2.1 (10 : Int)).bind fun y2 =>
    bif decide (a0.2.2.1 ≥ (0 : Int)) then
     (O.repeat' n ([48]) a0.2.2.1).bind fun y3 =>
      bif decide (y2.length + y3.length ≤ strMax) then
       bif a0.1 then
        bif decide (1 + ((y2 ++ y3).length) ≤ strMax) then
         some ((([45]) ++ (y2 ++ y3), (0 : Int), ()))
        else
         none
       else
        some ((y2 ++ y3, (0 : Int), ()))
      else
       none
    else
     (O.repeat' n ([48]) (if (IntKind.wrap .i64 ((IntKind.wrap .i64 ((1 : Int) - a0.2.2.1)) - (y2.length : Int))) > (0 : Int) then (IntKind.wrap .i64 ((IntKind.wrap .i64 ((1 : Int) - a0.2.2.1)) - (y2.length : Int))) else (0 : Int))).bind fun y4 =>
      bif decide (y4.length + y2.length ≤ strMax) then
       (sub (y4 ++ y2) (0 : Int) (IntKind.wrap .i64 (((y4 ++ y2).length : Int) + a0.2.2.1))).bind fun x5 =>
        bif decide (x5.length + 1 ≤ strMax) then
         (sub (y4 ++ y2) (IntKind.wrap .i64 (((y4 ++ y2).length : Int) + a0.2.2.1)) ((y4 ++ y2).length : Int)).bind fun x6 =>
          bif decide (((x5 ++ ([46])).length) + x6.length ≤ strMax) then
           bif a0.1 then
            bif decide (1 + (((x5 ++ ([46])) ++ x6).length) ≤ strMax) then
             some ((([45]) ++ ((x5 ++ ([46])) ++ x6), (0 : Int), ()))
            else
             none
           else
            some (((x5 ++ ([46])) ++ x6, (0 : Int), ()))
          else
           none
        else
         none
      else
       none
noncomputable def F.num_RateText (n : Nat) (a0 : Int) : Option ((Z0) × (Int) × Unit) :=
 bif decide (a0 < (1 : Int)) then
  some (([], (10 : Int), ()))
 else
 bif decide (a0 > (1000000 : Int)) then
  some (([], (10 : Int), ()))
 else
 bif a0 == (1000000 : Int) then
  some (([49], (0 : Int), ()))
 else
  (O.itoa n (IntKind.wrap .i64 ((1000000 : Int) + a0))).bind fun y1 =>
   (sub y1 (1 : Int) (y1.length : Int)).bind fun x2 =>
    (O.trimR n x2 ([48])).bind fun y3 =>
     bif decide (2 + y3.length ≤ strMax) then
      some ((([48, 46]) ++ y3, (0 : Int), ()))
     else
      none
noncomputable def F.statsd_Line (n : Nat) (a0 : Z7) : Option ((Z0) × (Int) × Unit) :=
 (F.expr_Metric n (a0.1, a0.2.1, a0.2.2.1, a0.2.2.2.1, a0.2.2.2.2.1, a0.2.2.2.2.2.1, ()) (1 : Int)).bind fun y1 =>
  bif !(y1 == (0 : Int)) then
   some (([], y1, ()))
  else
   (O.word n a0.2.1).bind fun y2 =>
    bif !(y2.2.1 == (0 : Int)) then
     some (([], y2.2.1, ()))
    else
     (idx a0.2.2.1 (0 : Int)).bind fun x3 =>
      (F.dec_Text n (x3.1, x3.2.1, x3.2.2, ())).bind fun y4 =>
       bif !(y4.2.1 == (0 : Int)) then
        some (([], y4.2.1, ()))
       else
       bif decide (a0.1.length + 1 ≤ strMax) then
        bif decide (((a0.1 ++ ([58])).length) + y4.1.length ≤ strMax) then
         bif decide ((((a0.1 ++ ([58])) ++ y4.1).length) + 1 ≤ strMax) then
          bif decide (((((a0.1 ++ ([58])) ++ y4.1) ++ ([124])).length) + y2.1.length ≤ strMax) then
           bif a0.2.2.2.1 == (1000000 : Int) then
            some (((((a0.1 ++ ([58])) ++ y4.1) ++ ([124])) ++ y2.1, (0 : Int), ()))
           else
            (F.num_RateText n a0.2.2.2.1).bind fun y5 =>
             bif !(y5.2.1 == (0 : Int)) then
              some (([], y5.2.1, ()))
             else
             bif decide ((((((a0.1 ++ ([58])) ++ y4.1) ++ ([124])) ++ y2.1).length) + 1 ≤ strMax) then
              bif decide (((((((a0.1 ++ ([58])) ++ y4.1) ++ ([124])) ++ y2.1) ++ ([124])).length) + 1 ≤ strMax) then
               bif decide ((((((((a0.1 ++ ([58])) ++ y4.1) ++ ([124])) ++ y2.1) ++ ([124])) ++ ([64])).length) + y5.1.length ≤ strMax) then
                some ((((((((a0.1 ++ ([58])) ++ y4.1) ++ ([124])) ++ y2.1) ++ ([124])) ++ ([64])) ++ y5.1, (0 : Int), ()))
               else
                none
              else
               none
             else
              none
          else
           none
         else
          none
        else
         none
       else
        none
noncomputable def F.dog_words (n : Nat) : Option (Z20) :=
 some (([], [99], [103], [109, 115], [104], [100], ()))
noncomputable def F.dog_Word (n : Nat) (a0 : Int) : Option ((Z0) × (Int) × Unit) :=
 bif decide (a0 < (1 : Int)) then
  some (([], (16 : Int), ()))
 else
 bif decide (a0 > (5 : Int)) then
  some (([], (16 : Int), ()))
 else
  (F.dog_words n ).bind fun y1 =>
   bif a0 == (0 : Int) then
    some ((y1.1, (0 : Int), ()))
   else
   bif a0 == (1 : Int) then
    some ((y1.2.1, (0 : Int), ()))
   else
   bif a0 == (2 : Int) then
    some ((y1.2.2.1, (0 : Int), ()))
   else
   bif a0 == (3 : Int) then
    some ((y1.2.2.2.1, (0 : Int), ()))
   else
   bif a0 == (4 : Int) then
    some ((y1.2.2.2.2.1, (0 : Int), ()))
   else
   bif a0 == (5 : Int) then
    some ((y1.2.2.2.2.2.1, (0 : Int), ()))
   else
    none
noncomputable def F.tag_Text.L3.step {X : Type} (n : Nat) (rec : Z18 → Z4 → Int → Int → Nat → Option X) (k0 : Z18 → Nat → Option X) (kr : Z0 → Int → Int → Option X) (v5 : Z18) (v10 : Z4) (v11 : Int) (v12 : Int) (vk0 : Nat) : Option X :=
 bif decide (v12 < v11) then
  (idx v10 v12).bind fun x1 =>
   (F.tag_Check n (x1.1, x1.2, ())).bind fun y2 =>
    bif !(y2 == (0 : Int)) then
     kr [] v12 y2
    else
    bif !(x1.2 == []) then
     bif decide (1 + x1.2.length ≤ strMax) then
      bif decide (x1.1.length + ((([58]) ++ x1.2).length) ≤ strMax) then
       bif decide ((v5.length + 1) * 16 ≤ 2 ^ 46) && decide (0 < 16 ∧ 16 ≤ 2 ^ 20) then
        bif Nat.beq vk0 v5.length then
         rec (v5 ++ ([x1.1 ++ (([58]) ++ x1.2)])) v10 v11 (IntKind.wrap .i64 (v12 + (1 : Int))) ((v5 ++ ([x1.1 ++ (([58]) ++ x1.2)])).length)
        else
         none
       else
        none
      else
       none
     else
      none
    else
    bif decide ((v5.length + 1) * 16 ≤ 2 ^ 46) && decide (0 < 16 ∧ 16 ≤ 2 ^ 20) then
     bif Nat.beq vk0 v5.length then
      rec (v5 ++ ([x1.1])) v10 v11 (IntKind.wrap .i64 (v12 + (1 : Int))) ((v5 ++ ([x1.1])).length)
     else
      none
    else
     none
 else
  k0 v5 vk0
noncomputable def F.tag_Text.L3 {X : Type} (n : Nat) (k0 : Z18 → Nat → Option X) (kr : Z0 → Int → Int → Option X) : Nat → Z18 → Z4 → Int → Int → Nat → Option X
 | 0 => fun _ _ _ _ _ => none
 | m + 1 => fun v5 v10 v11 v12 vk0 => F.tag_Text.L3.step n (F.tag_Text.L3 n k0 kr m) k0 kr v5 v10 v11 v12 vk0
noncomputable def F.tag_Text (n : Nat) (a0 : Z4) : Option ((Z0) × (Int) × (Int) × Unit) :=
 F.tag_Text.L3 n
  (fun e5 ek0 =>
   (O.join n e5 ([44])).bind fun y4 =>
    some ((y4, (0 : Int), (0 : Int), ())))
  (fun e2 e3 e4 =>
   some ((e2, e3, e4, ()))) n [] a0 (a0.length : Int) (0 : Int) 0
noncomputable def F.num_Text (n : Nat) (a0 : Int) : Option ((Z0) × (Int) × Unit) :=
 bif decide (a0 < (0 : Int)) then
  some (([], (10 : Int), ()))
 else
  (O.itoa n a0).bind fun y1 =>
   some ((y1, (0 : Int), ()))
noncomputable def F.dog_Line.L9.step {X : Type} (n : Nat) (rec : Z2 → Int → Int → Z0 → Int → Z2 → Int → Z4 → Int → Z19 → Z15 → Int → Option X) (k0 : Z0 → Int → Z2 → Int → Z4 → Int → Z19 → Z15 → Int → Option X) (v34 : Z2) (v35 : Int) (v36 : Int) (ab0 : Z0) (ab1 : Int) (ab2 : Z2) (ab3 : Int) (ab4 : Z4) (ab5 : Int) (bb0 : Z19) (cb1 : Z15) (db0 : Int) : Option X :=
 bif decide (v36 < v35) then
  (idx v34 v36).bind fun x2 =>
   (F.dec_Text n (x2.1, x2.2.1, x2.2.2, ())).bind fun y3 =>
    bif db0 == (0 : Int) then
     bif decide (1 + y3.1.length ≤ strMax) then
      bif Nat.beq cb1.1 bb0.1 then
       bif decide ((bb0.2.length + ((([58]) ++ y3.1).length)) * 1 ≤ 2 ^ 46) && decide (0 < 1 ∧ 1 ≤ 2 ^ 20) then
        rec v34 v35 (IntKind.wrap .i64 (v36 + (1 : Int))) ab0 ab1 ab2 ab3 ab4 ab5 (cb1.1 + 1, bb0.2 ++ (([58]) ++ y3.1)) (cb1.1 + 1, (bb0.2 ++ (([58]) ++ y3.1)).length) y3.2.1
       else
        none
      else
       none
     else
      none
    else
    bif decide (1 + y3.1.length ≤ strMax) then
     bif Nat.beq cb1.1 bb0.1 then
      bif decide ((bb0.2.length + ((([58]) ++ y3.1).length)) * 1 ≤ 2 ^ 46) && decide (0 < 1 ∧ 1 ≤ 2 ^ 20) then
       rec v34 v35 (IntKind.wrap .i64 (v36 + (1 : Int))) ab0 ab1 ab2 ab3 ab4 ab5 (cb1.1 + 1, bb0.2 ++ (([58]) ++ y3.1)) (cb1.1 + 1, (bb0.2 ++ (([58]) ++ y3.1)).length) db0
      else
       none
     else
      none
    else
     none
 else
  k0 ab0 ab1 ab2 ab3 ab4 ab5 (bb0.1, bb0.2) (cb1.1, cb1.2) db0
noncomputable def F.dog_Line.L9 {X : Type} (n : Nat) (k0 : Z0 → Int → Z2 → Int → Z4 → Int → Z19 → Z15 → Int → Option X) : Nat → Z2 → Int → Int → Z0 → Int → Z2 → Int → Z4 → Int → Z19 → Z15 → Int → Option X
 | 0 => fun _ _ _ _ _ _ _ _ _ _ _ _ => none
 | m + 1 => fun v34 v35 v36 ab0 ab1 ab2 ab3 ab4 ab5 bb0 cb1 db0 => F.dog_Line.L9.step n (F.dog_Line.L9 n k0 m) k0 v34 v35 v36 ab0 ab1 ab2 ab3 ab4 ab5 bb0 cb1 db0
noncomputable def F.dog_Line.C25 {X : Type} (n : Nat) (kr : Z0 → Int → Option X) (ab0 : Z0) (ab1 : Int) (ab2 : Z2) (ab3 : Int) (ab4 : Z4) (ab5 : Int) (bb0 : Z19) (cb1 : Z15) (db0 : Int) : Option X :=
 bif !(db0 == (0 : Int)) then
  kr [] db0
 else
 bif Nat.beq cb1.1 bb0.1 then
  bif List.isEmpty bb0.2 then
   none
  else
   kr bb0.2 (0 : Int)
 else
  none
noncomputable def F.dog_Line.C22 {X : Type} (n : Nat) (kr : Z0 → Int → Option X) (ab0 : Z0) (ab1 : Int) (ab2 : Z2) (ab3 : Int) (ab4 : Z4) (ab5 : Int) (bb0 : Z19) (cb1 : Z15) (db0 : Int) : Option X :=
 bif !(ab5 == (0 : Int)) then
  (F.num_Text n ab5).bind fun y12 =>
   bif db0 == (0 : Int) then
    bif decide (2 + y12.1.length ≤ strMax) then
     bif Nat.beq cb1.1 bb0.1 then
      bif decide ((bb0.2.length + ((([124, 84]) ++ y12.1).length)) * 1 ≤ 2 ^ 46) && decide (0 < 1 ∧ 1 ≤ 2 ^ 20) then
       F.dog_Line.C25 n
        (fun e2 e3 =>
         kr e2 e3) ab0 ab1 ab2 ab3 ab4 ab5 (cb1.1 + 1, bb0.2 ++ (([124, 84]) ++ y12.1)) (cb1.1 + 1, (bb0.2 ++ (([124, 84]) ++ y12.1)).length) y12.2.1
      else
       none
     else
      none
    else
     none
   else
   bif decide (2 + y12.1.length ≤ strMax) then
    bif Nat.beq cb1.1 bb0.1 then
     bif decide ((bb0.2.length + ((([124, 84]) ++ y12.1).length)) * 1 ≤ 2 ^ 46) && decide (0 < 1 ∧ 1 ≤ 2 ^ 20) then
      F.dog_Line.C25 n
       (fun e2 e3 =>
        kr e2 e3) ab0 ab1 ab2 ab3 ab4 ab5 (cb1.1 + 1, bb0.2 ++ (([124, 84]) ++ y12.1)) (cb1.1 + 1, (bb0.2 ++ (([124, 84]) ++ y12.1)).length) db0
     else
      none
    else
     none
   else
    none
 else
  F.dog_Line.C25 n
   (fun e2 e3 =>
    kr e2 e3) ab0 ab1 ab2 ab3 ab4 ab5 (bb0.1, bb0.2) (cb1.1, cb1.2) db0
noncomputable def F.dog_Line.C19 {X : Type} (n : Nat) (kr : Z0 → Int → Option X) (ab0 : Z0) (ab1 : Int) (ab2 : Z2) (ab3 : Int) (ab4 : Z4) (ab5 : Int) (bb0 : Z19) (cb1 : Z15) (db0 : Int) : Option X :=
 bif decide ((ab4.length : Int) > (0 : Int)) then
  (F.tag_Text n ab4).bind fun y19 =>
   bif db0 == (0 : Int) then
    bif decide (2 + y19.1.length ≤ strMax) then
     bif Nat.beq cb1.1 bb0.1 then
      bif decide ((bb0.2.length + ((([124, 35]) ++ y19.1).length)) * 1 ≤ 2 ^ 46) && decide (0 < 1 ∧ 1 ≤ 2 ^ 20) then
       F.dog_Line.C22 n
        (fun e2 e3 =>
         kr e2 e3) ab0 ab1 ab2 ab3 ab4 ab5 (cb1.1 + 1, bb0.2 ++ (([124, 35]) ++ y19.1)) (cb1.1 + 1, (bb0.2 ++ (([124, 35]) ++ y19.1)).length) y19.2.2.1
      else
       none
     else
      none
    else
     none
   else
   bif decide (2 + y19.1.length ≤ strMax) then
    bif Nat.beq cb1.1 bb0.1 then
     bif decide ((bb0.2.length + ((([124, 35]) ++ y19.1).length)) * 1 ≤ 2 ^ 46) && decide (0 < 1 ∧ 1 ≤ 2 ^ 20) then
      F.dog_Line.C22 n
       (fun e2 e3 =>
        kr e2 e3) ab0 ab1 ab2 ab3 ab4 ab5 (cb1.1 + 1, bb0.2 ++ (([124, 35]) ++ y19.1)) (cb1.1 + 1, (bb0.2 ++ (([124, 35]) ++ y19.1)).length) db0
     else
      none
    else
     none
   else
    none
 else
  F.dog_Line.C22 n
   (fun e2 e3 =>
    kr e2 e3) ab0 ab1 ab2 ab3 ab4 ab5 (bb0.1, bb0.2) (cb1.1, cb1.2) db0
noncomputable def F.dog_Line.C16 {X : Type} (n : Nat) (kr : Z0 → Int → Option X) (ab0 : Z0) (ab1 : Int) (ab2 : Z2) (ab3 : Int) (ab4 : Z4) (ab5 : Int) (bb0 : Z19) (cb1 : Z15) (db0 : Int) : Option X :=
 bif !(ab3 == (1000000 : Int)) then
  (F.num_RateText n ab3).bind fun y26 =>
   bif db0 == (0 : Int) then
    bif decide (2 + y26.1.length ≤ strMax) then
     bif Nat.beq cb1.1 bb0.1 then
      bif decide ((bb0.2.length + ((([124, 64]) ++ y26.1).length)) * 1 ≤ 2 ^ 46) && decide (0 < 1 ∧ 1 ≤ 2 ^ 20) then
       F.dog_Line.C19 n
        (fun e2 e3 =>
         kr e2 e3) ab0 ab1 ab2 ab3 ab4 ab5 (cb1.1 + 1, bb0.2 ++ (([124, 64]) ++ y26.1)) (cb1.1 + 1, (bb0.2 ++ (([124, 64]) ++ y26.1)).length) y26.2.1
      else
       none
     else
      none
    else
     none
   else
   bif decide (2 + y26.1.length ≤ strMax) then
    bif Nat.beq cb1.1 bb0.1 then
     bif decide ((bb0.2.length + ((([124, 64]) ++ y26.1).length)) * 1 ≤ 2 ^ 46) && decide (0 < 1 ∧ 1 ≤ 2 ^ 20) then
      F.dog_Line.C19 n
       (fun e2 e3 =>
        kr e2 e3) ab0 ab1 ab2 ab3 ab4 ab5 (cb1.1 + 1, bb0.2 ++ (([124, 64]) ++ y26.1)) (cb1.1 + 1, (bb0.2 ++ (([124, 64]) ++ y26.1)).length) db0
     else
      none
    else
     none
   else
    none
 else
  F.dog_Line.C19 n
   (fun e2 e3 =>
    kr e2 e3) ab0 ab1 ab2 ab3 ab4 ab5 (bb0.1, bb0.2) (cb1.1, cb1.2) db0
noncomputable def F.dog_Line (n : Nat) (a0 : Z7) : Option ((Z0) × (Int) × Unit) :=
 (F.metric_Normal n (a0.1, a0.2.1, a0.2.2.1, a0.2.2.2.1, a0.2.2.2.2.1, a0.2.2.2.2.2.1, ())).bind fun y1 =>
  bif !(y1.2.1 == (0 : Int)) then
   some (([], y1.2.1, ()))
  else
  bif decide (0 + y1.1.1.length ≤ strMax) then
   bif decide ((0 + (([] ++ y1.1.1).length)) * 1 ≤ 2 ^ 46) && decide (0 < 1 ∧ 1 ≤ 2 ^ 20) then
    F.dog_Line.L9 n
     (fun g0 g1 g2 g3 g4 g5 h0 i1 j0 =>
      (F.dog_Word n g1).bind fun y5 =>
       bif j0 == (0 : Int) then
        bif decide (1 + y5.1.length ≤ strMax) then
         bif Nat.beq i1.1 h0.1 then
          bif decide ((h0.2.length + ((([124]) ++ y5.1).length)) * 1 ≤ 2 ^ 46) && decide (0 < 1 ∧ 1 ≤ 2 ^ 20) then
           F.dog_Line.C16 n
            (fun e2 e3 =>
             some ((e2, e3, ()))) g0 g1 g2 g3 g4 g5 (i1.1 + 1, h0.2 ++ (([124]) ++ y5.1)) (i1.1 + 1, (h0.2 ++ (([124]) ++ y5.1)).length) y5.2.1
          else
           none
         else
          none
        else
         none
       else
       bif decide (1 + y5.1.length ≤ strMax) then
        bif Nat.beq i1.1 h0.1 then
         bif decide ((h0.2.length + ((([124]) ++ y5.1).length)) * 1 ≤ 2 ^ 46) && decide (0 < 1 ∧ 1 ≤ 2 ^ 20) then
          F.dog_Line.C16 n
           (fun e2 e3 =>
            some ((e2, e3, ()))) g0 g1 g2 g3 g4 g5 (i1.1 + 1, h0.2 ++ (([124]) ++ y5.1)) (i1.1 + 1, (h0.2 ++ (([124]) ++ y5.1)).length) j0
         else
          none
        else
         none
       else
        none) n y1.1.2.2.1 (y1.1.2.2.1.length : Int) (0 : Int) y1.1.1 y1.1.2.1 y1.1.2.2.1 y1.1.2.2.2.1 y1.1.2.2.2.2.1 y1.1.2.2.2.2.2.1 (2, [] ++ ([] ++ y1.1.1)) (2, ([] ++ ([] ++ y1.1.1)).length) (0 : Int)
   else
    none
  else
   none
noncomputable def F.graphite_Line (n : Nat) (a0 : Z7) : Option ((Z0) × (Int) × Unit) :=
 (F.expr_Metric n (a0.1, a0.2.1, a0.2.2.1, a0.2.2.2.1, a0.2.2.2.2.1, a0.2.2.2.2.2.1, ()) (3 : Int)).bind fun y1 =>
  bif !(y1 == (0 : Int)) then
   some (([], y1, ()))
  else
   (idx a0.2.2.1 (0 : Int)).bind fun x2 =>
    (F.dec_Text n (x2.1, x2.2.1, x2.2.2, ())).bind fun y3 =>
     bif !(y3.2.1 == (0 : Int)) then
      some (([], y3.2.1, ()))
     else
      (F.num_Text n a0.2.2.2.2.2.1).bind fun y4 =>
       bif !(y4.2.1 == (0 : Int)) then
        some (([], y4.2.1, ()))
       else
       bif decide (a0.1.length + 1 ≤ strMax) then
        bif decide (((a0.1 ++ ([32])).length) + y3.1.length ≤ strMax) then
         bif decide ((((a0.1 ++ ([32])) ++ y3.1).length) + 1 ≤ strMax) then
          bif decide (((((a0.1 ++ ([32])) ++ y3.1) ++ ([32])).length) + y4.1.length ≤ strMax) then
           some (((((a0.1 ++ ([32])) ++ y3.1) ++ ([32])) ++ y4.1, (0 : Int), ()))
          else
           none
         else
          none
        else
         none
       else
        none
noncomputable def F.text_Line (n : Nat) (a0 : Z7) (a1 : Int) : Option ((Z0) × (Int) × Unit) :=
 bif a1 == (1 : Int) then
  (F.metric_Normal n (a0.1, a0.2.1, a0.2.2.1, a0.2.2.2.1, a0.2.2.2.2.1, a0.2.2.2.2.2.1, ())).bind fun y1 =>
   bif !(y1.2.1 == (0 : Int)) then
    some (([], y1.2.1, ()))
   else
    (F.expr_Metric n (y1.1.1, y1.1.2.1, y1.1.2.2.1, y1.1.2.2.2.1, y1.1.2.2.2.2.1, y1.1.2.2.2.2.2.1, ()) a1).bind fun y2 =>
     bif !(y2 == (0 : Int)) then
      some (([], y2, ()))
     else
      (F.statsd_Line n (y1.1.1, y1.1.2.1, y1.1.2.2.1, y1.1.2.2.2.1, y1.1.2.2.2.2.1, y1.1.2.2.2.2.2.1, ())).bind fun y3 =>
       some ((y3.1, y3.2.1, ()))
 else
 bif a1 == (2 : Int) then
  (F.metric_Normal n (a0.1, a0.2.1, a0.2.2.1, a0.2.2.2.1, a0.2.2.2.2.1, a0.2.2.2.2.2.1, ())).bind fun y4 =>
   bif !(y4.2.1 == (0 : Int)) then
    some (([], y4.2.1, ()))
   else
    (F.expr_Metric n (y4.1.1, y4.1.2.1, y4.1.2.2.1, y4.1.2.2.2.1, y4.1.2.2.2.2.1, y4.1.2.2.2.2.2.1, ()) a1).bind fun y5 =>
     bif !(y5 == (0 : Int)) then
      some (([], y5, ()))
     else
      (F.dog_Line n (y4.1.1, y4.1.2.1, y4.1.2.2.1, y4.1.2.2.2.1, y4.1.2.2.2.2.1, y4.1.2.2.2.2.2.1, ())).bind fun y6 =>
       some ((y6.1, y6.2.1, ()))
 else
 bif a1 == (3 : Int) then
  (F.metric_Normal n (a0.1, a0.2.1, a0.2.2.1, a0.2.2.2.1, a0.2.2.2.2.1, a0.2.2.2.2.2.1, ())).bind fun y7 =>
   bif !(y7.2.1 == (0 : Int)) then
    some (([], y7.2.1, ()))
   else
    (F.expr_Metric n (y7.1.1, y7.1.2.1, y7.1.2.2.1, y7.1.2.2.2.1, y7.1.2.2.2.2.1, y7.1.2.2.2.2.2.1, ()) a1).bind fun y8 =>
     bif !(y8 == (0 : Int)) then
      some (([], y8, ()))
     else
      (F.graphite_Line n (y7.1.1, y7.1.2.1, y7.1.2.2.1, y7.1.2.2.2.1, y7.1.2.2.2.2.1, y7.1.2.2.2.2.2.1, ())).bind fun y9 =>
       some ((y9.1, y9.2.1, ()))
 else
  some (([], (29 : Int), ()))
noncomputable def F.text_Lines.L12.step {X : Type} (n : Nat) (rec : Int → Z18 → Z6 → Int → Int → Nat → Option X) (k0 : Z18 → Nat → Option X) (kr : Z18 → Int → Int → Nat → Option X) (v1 : Int) (v13 : Z18) (v48 : Z6) (v49 : Int) (v50 : Int) (vk0 : Nat) : Option X :=
 bif decide (v50 < v49) then
  (idx v48 v50).bind fun x3 =>
   (F.text_Line n (x3.1, x3.2.1, x3.2.2.1, x3.2.2.2.1, x3.2.2.2.2.1, x3.2.2.2.2.2, ()) v1).bind fun y4 =>
    bif !(y4.2.1 == (0 : Int)) then
     kr [] v50 y4.2.1 0
    else
    bif decide ((v13.length + 1) * 16 ≤ 2 ^ 46) && decide (0 < 16 ∧ 16 ≤ 2 ^ 20) then
     bif Nat.beq vk0 v13.length then
      rec v1 (v13 ++ ([y4.1])) v48 v49 (IntKind.wrap .i64 (v50 + (1 : Int))) ((v13 ++ ([y4.1])).length)
     else
      none
    else
     none
 else
  k0 v13 vk0
noncomputable def F.text_Lines.L12 {X : Type} (n : Nat) (k0 : Z18 → Nat → Option X) (kr : Z18 → Int → Int → Nat → Option X) : Nat → Int → Z18 → Z6 → Int → Int → Nat → Option X
 | 0 => fun _ _ _ _ _ _ => none
 | m + 1 => fun v1 v13 v48 v49 v50 vk0 => F.text_Lines.L12.step n (F.text_Lines.L12 n k0 kr m) k0 kr v1 v13 v48 v49 v50 vk0
noncomputable def F.text_Lines (n : Nat) (a0 : Z6) (a1 : Int) : Option ((Z18) × (Int) × (Int) × Unit) :=
 bif a1 == (1 : Int) then
  (F.batch_Normal n a0).bind fun y1 =>
   bif !(y1.2.2.1 == (0 : Int)) then
    some (([], y1.2.1, y1.2.2.1, ()))
   else
    (F.expr_Batch n y1.1 a1).bind fun y2 =>
     bif !(y2.2.1 == (0 : Int)) then
      some (([], y2.1, y2.2.1, ()))
     else
     bif decide ((0 : Int) = 0) && (decide ((0 : Int) ≤ (y1.1.length : Int)) && decide ((16 : Int) * (y1.1.length : Int) ≤ 281474976710656) && decide ((y1.1.length : Int) ≤ 281474976710656)) && true then
      F.text_Lines.L12 n
       (fun e13 ek0 =>
        some ((e13, (0 : Int), (0 : Int), ())))
       (fun e4 e5 e6 ek0 =>
        some ((e4, e5, e6, ()))) n a1 [] y1.1 (y1.1.length : Int) (0 : Int) 0
     else
      none
 else
 bif a1 == (2 : Int) then
  (F.batch_Normal n a0).bind fun y7 =>
   bif !(y7.2.2.1 == (0 : Int)) then
    some (([], y7.2.1, y7.2.2.1, ()))
   else
    (F.expr_Batch n y7.1 a1).bind fun y8 =>
     bif !(y8.2.1 == (0 : Int)) then
      some (([], y8.1, y8.2.1, ()))
     else
     bif decide ((0 : Int) = 0) && (decide ((0 : Int) ≤ (y7.1.length : Int)) && decide ((16 : Int) * (y7.1.length : Int) ≤ 281474976710656) && decide ((y7.1.length : Int) ≤ 281474976710656)) && true then
      F.text_Lines.L12 n
       (fun e13 ek0 =>
        some ((e13, (0 : Int), (0 : Int), ())))
       (fun e4 e5 e6 ek0 =>
        some ((e4, e5, e6, ()))) n a1 [] y7.1 (y7.1.length : Int) (0 : Int) 0
     else
      none
 else
 bif a1 == (3 : Int) then
  (F.batch_Normal n a0).bind fun y13 =>
   bif !(y13.2.2.1 == (0 : Int)) then
    some (([], y13.2.1, y13.2.2.1, ()))
   else
    (F.expr_Batch n y13.1 a1).bind fun y14 =>
     bif !(y14.2.1 == (0 : Int)) then
      some (([], y14.1, y14.2.1, ()))
     else
     bif decide ((0 : Int) = 0) && (decide ((0 : Int) ≤ (y13.1.length : Int)) && decide ((16 : Int) * (y13.1.length : Int) ≤ 281474976710656) && decide ((y13.1.length : Int) ≤ 281474976710656)) && true then
      F.text_Lines.L12 n
       (fun e13 ek0 =>
        some ((e13, (0 : Int), (0 : Int), ())))
       (fun e4 e5 e6 ek0 =>
        some ((e4, e5, e6, ()))) n a1 [] y13.1 (y13.1.length : Int) (0 : Int) 0
     else
      none
 else
  some (([], (0 : Int), (29 : Int), ()))
noncomputable def F.text_Encode.L6.step {X : Type} (n : Nat) (rec : Z14 → Z18 → Int → Int → Nat → Option X) (k0 : Z14 → Nat → Option X) (v10 : Z14) (v24 : Z18) (v25 : Int) (v26 : Int) (vk0 : Nat) : Option X :=
 bif decide (v26 < v25) then
  (idx v24 v26).bind fun x2 =>
   bif decide ((v10.length + x2.length) * 1 ≤ 2 ^ 46) && decide (0 < 1 ∧ 1 ≤ 2 ^ 20) then
    bif Nat.beq vk0 v10.length then
     bif decide ((((v10 ++ x2).length) + 1) * 1 ≤ 2 ^ 46) && decide (0 < 1 ∧ 1 ≤ 2 ^ 20) then
      bif Nat.beq ((v10 ++ x2).length) ((v10 ++ x2).length) then
       rec ((v10 ++ x2) ++ ([10])) v24 v25 (IntKind.wrap .i64 (v26 + (1 : Int))) (((v10 ++ x2) ++ ([10])).length)
      else
       none
     else
      none
    else
     none
   else
    none
 else
  k0 v10 vk0
noncomputable def F.text_Encode.L6 {X : Type} (n : Nat) (k0 : Z14 → Nat → Option X) : Nat → Z14 → Z18 → Int → Int → Nat → Option X
 | 0 => fun _ _ _ _ _ => none
 | m + 1 => fun v10 v24 v25 v26 vk0 => F.text_Encode.L6.step n (F.text_Encode.L6 n k0 m) k0 v10 v24 v25 v26 vk0
noncomputable def F.text_Encode (n : Nat) (a0 : Z6) (a1 : Int) : Option ((Z14) × (Int) × (Int) × Unit) :=
 (F.text_Lines n a0 a1).bind fun y1 =>
  bif !(y1.2.2.1 == (0 : Int)) then
   some (([], y1.2.1, y1.2.2.1, ()))
  else
   F.text_Encode.L6 n
    (fun e10 ek0 =>
     some ((e10, (0 : Int), (0 : Int), ()))) n [] y1.1 (y1.1.length : Int) (0 : Int) 0
noncomputable def F.trans_Encode (n : Nat) (a0 : Z6) (a1 : Int) : Option ((Z14) × (Int) × (Int) × Unit) :=
 bif decide (a1 < (1 : Int)) then
  some (([], (0 : Int), (29 : Int), ()))
 else
 bif decide (a1 ≥ (5 : Int)) then
  some (([], (0 : Int), (29 : Int), ()))
 else
 bif a1 == (0 : Int) then
  (F.batch_Normal n a0).bind fun y1 =>
   bif !(y1.2.2.1 == (0 : Int)) then
    some (([], y1.2.1, y1.2.2.1, ()))
   else
    (F.expr_Batch n y1.1 a1).bind fun y2 =>
     bif !(y2.2.1 == (0 : Int)) then
      some (([], y2.1, y2.2.1, ()))
     else
      none
 else
 bif a1 == (1 : Int) then
  (F.batch_Normal n a0).bind fun y3 =>
   bif !(y3.2.2.1 == (0 : Int)) then
    some (([], y3.2.1, y3.2.2.1, ()))
   else
    (F.expr_Batch n y3.1 a1).bind fun y4 =>
     bif !(y4.2.1 == (0 : Int)) then
      some (([], y4.1, y4.2.1, ()))
     else
      (F.text_Encode n y3.1 (1 : Int)).bind fun y5 =>
       some ((y5.1, y5.2.1, y5.2.2.1, ()))
 else
 bif a1 == (2 : Int) then
  (F.batch_Normal n a0).bind fun y6 =>
   bif !(y6.2.2.1 == (0 : Int)) then
    some (([], y6.2.1, y6.2.2.1, ()))
   else
    (F.expr_Batch n y6.1 a1).bind fun y7 =>
     bif !(y7.2.1 == (0 : Int)) then
      some (([], y7.1, y7.2.1, ()))
     else
      (F.text_Encode n y6.1 (2 : Int)).bind fun y8 =>
       some ((y8.1, y8.2.1, y8.2.2.1, ()))
 else
 bif a1 == (3 : Int) then
  (F.batch_Normal n a0).bind fun y9 =>
   bif !(y9.2.2.1 == (0 : Int)) then
    some (([], y9.2.1, y9.2.2.1, ()))
   else
    (F.expr_Batch n y9.1 a1).bind fun y10 =>
     bif !(y10.2.1 == (0 : Int)) then
      some (([], y10.1, y10.2.1, ()))
     else
      (F.text_Encode n y9.1 (3 : Int)).bind fun y11 =>
       some ((y11.1, y11.2.1, y11.2.2.1, ()))
 else
 bif a1 == (4 : Int) then
  (F.batch_Normal n a0).bind fun y12 =>
   bif !(y12.2.2.1 == (0 : Int)) then
    some (([], y12.2.1, y12.2.2.1, ()))
   else
    (F.expr_Batch n y12.1 a1).bind fun y13 =>
     bif !(y13.2.1 == (0 : Int)) then
      some (([], y13.1, y13.2.1, ()))
     else
      (F.frame_Encode n y12.1).bind fun y14 =>
       some ((y14.1, y14.2.1, y14.2.2.1, ()))
 else
  none
noncomputable def F.trans_Bytes (n : Nat) (a0 : Z14) (a1 : Int) (a2 : Int) : Option ((Z14) × (Int) × (Z11) × Unit) :=
 bif decide (a2 < (1 : Int)) then
  some (([], (0 : Int), ((29 : Int), (0 : Int), ()), ()))
 else
 bif decide (a2 ≥ (5 : Int)) then
  some (([], (0 : Int), ((29 : Int), (0 : Int), ()), ()))
 else
 bif a2 == (0 : Int) then
  (F.trans_Decode n a0 a1).bind fun y1 =>
   bif !((y1.2.1.1 == (0 : Int)) && (y1.2.1.2.1 == (0 : Int))) then
    some (([], (0 : Int), (y1.2.1.1, y1.2.1.2.1, ()), ()))
   else
    (F.trans_Metrics n y1.1 a1 a2).bind fun y2 =>
     bif !(y2.2.2.1 == (0 : Int)) then
      some (([], y2.2.1, (y2.2.2.1, (0 : Int), ()), ()))
     else
      (F.trans_Encode n y2.1 a2).bind fun y3 =>
       bif !(y3.2.2.1 == (0 : Int)) then
        some (([], y3.2.1, (y3.2.2.1, (0 : Int), ()), ()))
       else
        some ((y3.1, (0 : Int), (y1.2.1.1, y1.2.1.2.1, ()), ()))
 else
 bif a2 == (1 : Int) then
  (F.trans_Decode n a0 a1).bind fun y4 =>
   bif !((y4.2.1.1 == (0 : Int)) && (y4.2.1.2.1 == (0 : Int))) then
    some (([], (0 : Int), (y4.2.1.1, y4.2.1.2.1, ()), ()))
   else
    (F.trans_Metrics n y4.1 a1 a2).bind fun y5 =>
     bif !(y5.2.2.1 == (0 : Int)) then
      some (([], y5.2.1, (y5.2.2.1, (0 : Int), ()), ()))
     else
      (F.trans_Encode n y5.1 a2).bind fun y6 =>
       bif !(y6.2.2.1 == (0 : Int)) then
        some (([], y6.2.1, (y6.2.2.1, (0 : Int), ()), ()))
       else
        some ((y6.1, (0 : Int), (y4.2.1.1, y4.2.1.2.1, ()), ()))
 else
 bif a2 == (2 : Int) then
  (F.trans_Decode n a0 a1).bind fun y7 =>
   bif !((y7.2.1.1 == (0 : Int)) && (y7.2.1.2.1 == (0 : Int))) then
    some (([], (0 : Int), (y7.2.1.1, y7.2.1.2.1, ()), ()))
   else
    (F.trans_Metrics n y7.1 a1 a2).bind fun y8 =>
     bif !(y8.2.2.1 == (0 : Int)) then
      some (([], y8.2.1, (y8.2.2.1, (0 : Int), ()), ()))
     else
      (F.trans_Encode n y8.1 a2).bind fun y9 =>
       bif !(y9.2.2.1 == (0 : Int)) then
        some (([], y9.2.1, (y9.2.2.1, (0 : Int), ()), ()))
       else
        some ((y9.1, (0 : Int), (y7.2.1.1, y7.2.1.2.1, ()), ()))
 else
 bif a2 == (3 : Int) then
  (F.trans_Decode n a0 a1).bind fun y10 =>
   bif !((y10.2.1.1 == (0 : Int)) && (y10.2.1.2.1 == (0 : Int))) then
    some (([], (0 : Int), (y10.2.1.1, y10.2.1.2.1, ()), ()))
   else
    (F.trans_Metrics n y10.1 a1 a2).bind fun y11 =>
     bif !(y11.2.2.1 == (0 : Int)) then
      some (([], y11.2.1, (y11.2.2.1, (0 : Int), ()), ()))
     else
      (F.trans_Encode n y11.1 a2).bind fun y12 =>
       bif !(y12.2.2.1 == (0 : Int)) then
        some (([], y12.2.1, (y12.2.2.1, (0 : Int), ()), ()))
       else
        some ((y12.1, (0 : Int), (y10.2.1.1, y10.2.1.2.1, ()), ()))
 else
 bif a2 == (4 : Int) then
  (F.trans_Decode n a0 a1).bind fun y13 =>
   bif !((y13.2.1.1 == (0 : Int)) && (y13.2.1.2.1 == (0 : Int))) then
    some (([], (0 : Int), (y13.2.1.1, y13.2.1.2.1, ()), ()))
   else
    (F.trans_Metrics n y13.1 a1 a2).bind fun y14 =>
     bif !(y14.2.2.1 == (0 : Int)) then
      some (([], y14.2.1, (y14.2.2.1, (0 : Int), ()), ()))
     else
      (F.trans_Encode n y14.1 a2).bind fun y15 =>
       bif !(y15.2.2.1 == (0 : Int)) then
        some (([], y15.2.1, (y15.2.2.1, (0 : Int), ()), ()))
       else
        some ((y15.1, (0 : Int), (y13.2.1.1, y13.2.1.2.1, ()), ()))
 else
  none
noncomputable def F.trans_Canon (n : Nat) (a0 : Z14) (a1 : Int) : Option ((Z14) × (Z11) × Unit) :=
 (F.trans_Decode n a0 a1).bind fun y1 =>
  bif !((y1.2.1.1 == (0 : Int)) && (y1.2.1.2.1 == (0 : Int))) then
   some (([], (y1.2.1.1, y1.2.1.2.1, ()), ()))
  else
   (F.trans_Encode n y1.1 a1).bind fun y2 =>
    bif !(y2.2.2.1 == (0 : Int)) then
     some (([], (y2.2.2.1, (0 : Int), ()), ()))
    else
     some ((y2.1, (y1.2.1.1, y1.2.1.2.1, ()), ()))
noncomputable def F.law23_awake (n : Nat) : Option (Bool) :=
 (F.trans_Canon n ([UInt8.ofNat ((97 : Int)).toNat, UInt8.ofNat ((58 : Int)).toNat, UInt8.ofNat ((48 : Int)).toNat, UInt8.ofNat ((49 : Int)).toNat, UInt8.ofNat ((124 : Int)).toNat, UInt8.ofNat ((99 : Int)).toNat, UInt8.ofNat ((10 : Int)).toNat]) (1 : Int)).bind fun y1 =>
  (F.trans_Bytes n ([UInt8.ofNat ((97 : Int)).toNat, UInt8.ofNat ((58 : Int)).toNat, UInt8.ofNat ((48 : Int)).toNat, UInt8.ofNat ((49 : Int)).toNat, UInt8.ofNat ((124 : Int)).toNat, UInt8.ofNat ((99 : Int)).toNat, UInt8.ofNat ((10 : Int)).toNat]) (1 : Int) (2 : Int)).bind fun y2 =>
   (F.trans_Bytes n ([UInt8.ofNat ((97 : Int)).toNat, UInt8.ofNat ((58 : Int)).toNat, UInt8.ofNat ((48 : Int)).toNat, UInt8.ofNat ((49 : Int)).toNat, UInt8.ofNat ((124 : Int)).toNat, UInt8.ofNat ((99 : Int)).toNat, UInt8.ofNat ((10 : Int)).toNat]) (1 : Int) (3 : Int)).bind fun y3 =>
    bif y1.1 == ([97, 58, 49, 124, 99, 10]) then
     bif (y1.2.1.1 == (0 : Int)) && (y1.2.1.2.1 == (0 : Int)) then
      bif y2.1 == ([97, 58, 49, 124, 99, 10]) then
       bif y2.2.1 == (0 : Int) then
        bif (y2.2.2.1.1 == (0 : Int)) && (y2.2.2.1.2.1 == (0 : Int)) then
         bif (y3.1.length : Int) == (0 : Int) then
          bif y3.2.1 == (0 : Int) then
           some ((y3.2.2.1.1 == (26 : Int)) && (y3.2.2.1.2.1 == (0 : Int)))
          else
           some (false)
         else
          some (false)
        else
         some (false)
       else
        some (false)
      else
       some (false)
     else
      some (false)
    else
     some (false)
noncomputable def F.ref23_Is (n : Nat) (a0 : Int) : Option (Bool) :=
 bif decide (a0 ≥ (1 : Int)) then
  some (decide (a0 ≤ (4 : Int)))
 else
  some (false)
noncomputable def F.ref03_Fits (n : Nat) (a0 : Z0) : Option (Bool) :=
 bif decide ((a0.length : Int) < (20 : Int)) then
  some (true)
 else
 bif (a0.length : Int) == (20 : Int) then
  some (Op.bytesLess a0 ([49, 56, 52, 52, 54, 55, 52, 52, 48, 55, 51, 55, 48, 57, 53, 53, 49, 54, 49, 53]) || a0 == ([49, 56, 52, 52, 54, 55, 52, 52, 48, 55, 51, 55, 48, 57, 53, 53, 49, 54, 49, 53]))
 else
  some (false)
noncomputable def F.ref03_Value.L3.step {X : Type} (n : Nat) (rec : Z0 → Int → Int → Option X) (k0 : Int → Option X) (v0 : Z0) (v3 : Int) (v4 : Int) : Option X :=
 bif decide (v4 < (v0.length : Int)) then
  (idx v0 v4).bind fun x1 =>
   rec v0 (IntKind.wrap .u64 ((IntKind.wrap .u64 ((10 : Int) * v3)) + (IntKind.wrap .u64 (IntKind.wrap .u8 (((x1).toNat) - (48 : Int)))))) (IntKind.wrap .i64 (v4 + (1 : Int)))
 else
  k0 v3
noncomputable def F.ref03_Value.L3 {X : Type} (n : Nat) (k0 : Int → Option X) : Nat → Z0 → Int → Int → Option X
 | 0 => fun _ _ _ => none
 | m + 1 => fun v0 v3 v4 => F.ref03_Value.L3.step n (F.ref03_Value.L3 n k0 m) k0 v0 v3 v4
noncomputable def F.ref03_Value (n : Nat) (a0 : Z0) : Option (Int) :=
 F.ref03_Value.L3 n
  (fun e3 =>
   some (e3)) n a0 (0 : Int) (0 : Int)
noncomputable def F.ref03_Make.L1.step {X : Type} (n : Nat) (rec : Bool → Z0 → Int → Bool → Int → Int → Option X) (k0 : Bool → Z0 → Int → Bool → Int → Int → Option X) (v0 : Bool) (v1 : Z0) (v2 : Int) (ab0 : Bool) (ab1 : Int) (ab2 : Int) : Option X :=
 bif decide ((v1.length : Int) > (0 : Int)) then
  (idx v1 (0 : Int)).bind fun x1 =>
   bif ((x1).toNat) == (48 : Int) then
    (sub v1 (1 : Int) (v1.length : Int)).bind fun x2 =>
     rec v0 x2 v2 ab0 ab1 ab2
   else
    k0 v0 v1 v2 ab0 ab1 ab2
 else
  k0 v0 v1 v2 ab0 ab1 ab2
noncomputable def F.ref03_Make.L1 {X : Type} (n : Nat) (k0 : Bool → Z0 → Int → Bool → Int → Int → Option X) : Nat → Bool → Z0 → Int → Bool → Int → Int → Option X
 | 0 => fun _ _ _ _ _ _ => none
 | m + 1 => fun v0 v1 v2 ab0 ab1 ab2 => F.ref03_Make.L1.step n (F.ref03_Make.L1 n k0 m) k0 v0 v1 v2 ab0 ab1 ab2
noncomputable def F.ref03_Make.L7.step {X : Type} (n : Nat) (rec : Bool → Z0 → Int → Bool → Int → Int → Option X) (k2 : Bool → Z0 → Int → Bool → Int → Int → Option X) (v0 : Bool) (v1 : Z0) (v2 : Int) (ab0 : Bool) (ab1 : Int) (ab2 : Int) : Option X :=
 bif decide (v2 < (18 : Int)) then
  (idx v1 (IntKind.wrap .i64 ((v1.length : Int) - (1 : Int)))).bind fun x4 =>
   bif ((x4).toNat) == (48 : Int) then
    (sub v1 (0 : Int) (IntKind.wrap .i64 ((v1.length : Int) - (1 : Int)))).bind fun x5 =>
     rec v0 x5 (IntKind.wrap .i64 (v2 + (1 : Int))) ab0 ab1 ab2
   else
    k2 v0 v1 v2 ab0 ab1 ab2
 else
  k2 v0 v1 v2 ab0 ab1 ab2
noncomputable def F.ref03_Make.L7 {X : Type} (n : Nat) (k2 : Bool → Z0 → Int → Bool → Int → Int → Option X) : Nat → Bool → Z0 → Int → Bool → Int → Int → Option X
 | 0 => fun _ _ _ _ _ _ => none
 | m + 1 => fun v0 v1 v2 ab0 ab1 ab2 => F.ref03_Make.L7.step n (F.ref03_Make.L7 n k2 m) k2 v0 v1 v2 ab0 ab1 ab2
noncomputable def F.ref03_Make.L10.step {X : Type} (n : Nat) (rec : Bool → Z0 → Int → Bool → Int → Int → Option X) (k4 : Bool → Z0 → Int → Bool → Int → Int → Option X) (v0 : Bool) (v1 : Z0) (v2 : Int) (ab0 : Bool) (ab1 : Int) (ab2 : Int) : Option X :=
 bif decide (v2 > (18 : Int)) then
  bif decide (v1.length + 1 ≤ strMax) then
   rec v0 (v1 ++ ([48])) (IntKind.wrap .i64 (v2 - (1 : Int))) ab0 ab1 ab2
  else
   none
 else
  k4 v0 v1 v2 ab0 ab1 ab2
noncomputable def F.ref03_Make.L10 {X : Type} (n : Nat) (k4 : Bool → Z0 → Int → Bool → Int → Int → Option X) : Nat → Bool → Z0 → Int → Bool → Int → Int → Option X
 | 0 => fun _ _ _ _ _ _ => none
 | m + 1 => fun v0 v1 v2 ab0 ab1 ab2 => F.ref03_Make.L10.step n (F.ref03_Make.L10 n k4 m) k4 v0 v1 v2 ab0 ab1 ab2
noncomputable def F.ref03_Make (n : Nat) (a0 : Bool) (a1 : Z0) (a2 : Int) : Option ((Z12) × (Bool) × Unit) :=
 F.ref03_Make.L1 n
  (fun e0 e1 e2 g0 g1 g2 =>
   bif e1 == [] then
    some (((false, (0 : Int), (0 : Int), ()), true, ()))
   else
   bif decide (e2 > (1000 : Int)) then
    some (((false, (0 : Int), (0 : Int), ()), false, ()))
   else
   bif decide (e2 < (-1000000 : Int)) then
    some (((false, (0 : Int), (0 : Int), ()), false, ()))
   else
    F.ref03_Make.L7 n
     (fun e0 e1 e2 g0 g1 g2 =>
      F.ref03_Make.L10 n
       (fun e0 e1 e2 g0 g1 g2 =>
        bif decide (e2 < (-18 : Int)) then
         some (((false, (0 : Int), (0 : Int), ()), false, ()))
        else
         (F.ref03_Fits n e1).bind fun y8 =>
          bif !y8 then
           some (((false, (0 : Int), (0 : Int), ()), false, ()))
          else
           (F.ref03_Value n e1).bind fun y9 =>
            some (((e0, y9, e2, ()), true, ()))) n e0 e1 e2 g0 g1 g2) n e0 e1 e2 g0 g1 g2) n a0 a1 a2 false (0 : Int) (0 : Int)
noncomputable def F.ref03_Digits.go (n : Nat) : Nat → (Int) → Option (Z0)
 | 0 => fun _ => none
 | m + 1 => fun a0 =>
  bif decide (a0 < (10 : Int)) then
   (sub ([48, 49, 50, 51, 52, 53, 54, 55, 56, 57]) a0 (IntKind.wrap .u64 (a0 + (1 : Int)))).bind fun x1 =>
    some (x1)
  else
   (F.ref03_Digits.go n m (IntKind.wrap .u64 (a0.tdiv (10 : Int)))).bind fun y2 =>
    (sub ([48, 49, 50, 51, 52, 53, 54, 55, 56, 57]) (a0.tmod (10 : Int)) (IntKind.wrap .u64 ((a0.tmod (10 : Int)) + (1 : Int)))).bind fun x3 =>
     bif decide (y2.length + x3.length ≤ strMax) then
      some (y2 ++ x3)
     else
      none
noncomputable def F.ref03_Digits (n : Nat) (a0 : Int) : Option (Z0) := F.ref03_Digits.go n n a0
noncomputable def F.ref03_Check (n : Nat) (a0 : Z12) : Option (Int) :=
 bif !(a0.2.1 == (0 : Int)) then
  bif decide (a0.2.2.1 < (-18 : Int)) then
   some ((10 : Int))
  else
  bif decide (a0.2.2.1 > (18 : Int)) then
   some ((10 : Int))
  else
   (F.ref03_Digits n a0.2.1).bind fun y1 =>
    (F.ref03_Make n a0.1 y1 a0.2.2.1).bind fun y2 =>
     bif !y2.2.1 then
      some ((21 : Int))
     else
     bif !((y2.1.1 == a0.1) && ((y2.1.2.1 == a0.2.1) && (y2.1.2.2.1 == a0.2.2.1))) then
      some ((21 : Int))
     else
      some ((0 : Int))
 else
  (F.ref03_Digits n a0.2.1).bind fun y3 =>
   (F.ref03_Make n a0.1 y3 a0.2.2.1).bind fun y4 =>
    bif !y4.2.1 then
     some ((21 : Int))
    else
    bif !((y4.1.1 == a0.1) && ((y4.1.2.1 == a0.2.1) && (y4.1.2.2.1 == a0.2.2.1))) then
     some ((21 : Int))
    else
     some ((0 : Int))
noncomputable def F.ref07_Name.L2.step {X : Type} (n : Nat) (rec : Z0 → Int → Option X) (k0 : Z0 → Option X) (kr : Bool → Option X) (v0 : Z0) (v3 : Int) : Option X :=
 bif decide (v3 < (v0.length : Int)) then
  (idx v0 v3).bind fun x1 =>
   bif decide (((x1).toNat) ≥ (97 : Int)) then
    bif decide (((x1).toNat) ≤ (122 : Int)) then
     rec v0 (IntKind.wrap .i64 (v3 + (1 : Int)))
    else
    bif decide (((x1).toNat) ≥ (65 : Int)) then
     bif decide (((x1).toNat) ≤ (90 : Int)) then
      rec v0 (IntKind.wrap .i64 (v3 + (1 : Int)))
     else
     bif decide (((x1).toNat) ≥ (48 : Int)) then
      bif decide (((x1).toNat) ≤ (57 : Int)) then
       rec v0 (IntKind.wrap .i64 (v3 + (1 : Int)))
      else
      bif ((x1).toNat) == (95 : Int) then
       rec v0 (IntKind.wrap .i64 (v3 + (1 : Int)))
      else
      bif ((x1).toNat) == (46 : Int) then
       rec v0 (IntKind.wrap .i64 (v3 + (1 : Int)))
      else
      bif !(((x1).toNat) == (45 : Int)) then
       kr false
      else
       rec v0 (IntKind.wrap .i64 (v3 + (1 : Int)))
     else
     bif ((x1).toNat) == (95 : Int) then
      rec v0 (IntKind.wrap .i64 (v3 + (1 : Int)))
     else
     bif ((x1).toNat) == (46 : Int) then
      rec v0 (IntKind.wrap .i64 (v3 + (1 : Int)))
     else
     bif !(((x1).toNat) == (45 : Int)) then
      kr false
     else
      rec v0 (IntKind.wrap .i64 (v3 + (1 : Int)))
    else
    bif decide (((x1).toNat) ≥ (48 : Int)) then
     bif decide (((x1).toNat) ≤ (57 : Int)) then
      rec v0 (IntKind.wrap .i64 (v3 + (1 : Int)))
     else
     bif ((x1).toNat) == (95 : Int) then
      rec v0 (IntKind.wrap .i64 (v3 + (1 : Int)))
     else
     bif ((x1).toNat) == (46 : Int) then
      rec v0 (IntKind.wrap .i64 (v3 + (1 : Int)))
     else
     bif !(((x1).toNat) == (45 : Int)) then
      kr false
     else
      rec v0 (IntKind.wrap .i64 (v3 + (1 : Int)))
    else
    bif ((x1).toNat) == (95 : Int) then
     rec v0 (IntKind.wrap .i64 (v3 + (1 : Int)))
    else
    bif ((x1).toNat) == (46 : Int) then
     rec v0 (IntKind.wrap .i64 (v3 + (1 : Int)))
    else
    bif !(((x1).toNat) == (45 : Int)) then
     kr false
    else
     rec v0 (IntKind.wrap .i64 (v3 + (1 : Int)))
   else
   bif decide (((x1).toNat) ≥ (65 : Int)) then
    bif decide (((x1).toNat) ≤ (90 : Int)) then
     rec v0 (IntKind.wrap .i64 (v3 + (1 : Int)))
    else
    bif decide (((x1).toNat) ≥ (48 : Int)) then
     bif decide (((x1).toNat) ≤ (57 : Int)) then
      rec v0 (IntKind.wrap .i64 (v3 + (1 : Int)))
     else
     bif ((x1).toNat) == (95 : Int) then
      rec v0 (IntKind.wrap .i64 (v3 + (1 : Int)))
     else
     bif ((x1).toNat) == (46 : Int) then
      rec v0 (IntKind.wrap .i64 (v3 + (1 : Int)))
     else
     bif !(((x1).toNat) == (45 : Int)) then
      kr false
     else
      rec v0 (IntKind.wrap .i64 (v3 + (1 : Int)))
    else
    bif ((x1).toNat) == (95 : Int) then
     rec v0 (IntKind.wrap .i64 (v3 + (1 : Int)))
    else
    bif ((x1).toNat) == (46 : Int) then
     rec v0 (IntKind.wrap .i64 (v3 + (1 : Int)))
    else
    bif !(((x1).toNat) == (45 : Int)) then
     kr false
    else
     rec v0 (IntKind.wrap .i64 (v3 + (1 : Int)))
   else
   bif decide (((x1).toNat) ≥ (48 : Int)) then
    bif decide (((x1).toNat) ≤ (57 : Int)) then
     rec v0 (IntKind.wrap .i64 (v3 + (1 : Int)))
    else
    bif ((x1).toNat) == (95 : Int) then
     rec v0 (IntKind.wrap .i64 (v3 + (1 : Int)))
    else
    bif ((x1).toNat) == (46 : Int) then
     rec v0 (IntKind.wrap .i64 (v3 + (1 : Int)))
    else
    bif !(((x1).toNat) == (45 : Int)) then
     kr false
    else
     rec v0 (IntKind.wrap .i64 (v3 + (1 : Int)))
   else
   bif ((x1).toNat) == (95 : Int) then
    rec v0 (IntKind.wrap .i64 (v3 + (1 : Int)))
   else
   bif ((x1).toNat) == (46 : Int) then
    rec v0 (IntKind.wrap .i64 (v3 + (1 : Int)))
   else
   bif !(((x1).toNat) == (45 : Int)) then
    kr false
   else
    rec v0 (IntKind.wrap .i64 (v3 + (1 : Int)))
 else
  k0 v0
noncomputable def F.ref07_Name.L2 {X : Type} (n : Nat) (k0 : Z0 → Option X) (kr : Bool → Option X) : Nat → Z0 → Int → Option X
 | 0 => fun _ _ => none
 | m + 1 => fun v0 v3 => F.ref07_Name.L2.step n (F.ref07_Name.L2 n k0 kr m) k0 kr v0 v3
noncomputable def F.ref07_Name (n : Nat) (a0 : Z0) : Option (Bool) :=
 F.ref07_Name.L2 n
  (fun e0 =>
   bif decide ((e0.length : Int) ≥ (1 : Int)) then
    some (decide ((e0.length : Int) ≤ (200 : Int)))
   else
    some (false))
  (fun e2 =>
   some (e2)) n a0 (0 : Int)
noncomputable def F.ref04_Bytes (n : Nat) (a0 : Int) : Option (Z0) :=
 bif decide (52 + 10 ≤ strMax) then
  bif decide (((([65, 66, 67, 68, 69, 70, 71, 72, 73, 74, 75, 76, 77, 78, 79, 80, 81, 82, 83, 84, 85, 86, 87, 88, 89, 90, 97, 98, 99, 100, 101, 102, 103, 104, 105, 106, 107, 108, 109, 110, 111, 112, 113, 114, 115, 116, 117, 118, 119, 120, 121, 122]) ++ ([48, 49, 50, 51, 52, 53, 54, 55, 56, 57])).length) + 3 ≤ strMax) then
   bif a0 == (1 : Int) then
    some ((([65, 66, 67, 68, 69, 70, 71, 72, 73, 74, 75, 76, 77, 78, 79, 80, 81, 82, 83, 84, 85, 86, 87, 88, 89, 90, 97, 98, 99, 100, 101, 102, 103, 104, 105, 106, 107, 108, 109, 110, 111, 112, 113, 114, 115, 116, 117, 118, 119, 120, 121, 122]) ++ ([48, 49, 50, 51, 52, 53, 54, 55, 56, 57])) ++ ([95, 46, 45]))
   else
   bif a0 == (2 : Int) then
    bif decide ((((([65, 66, 67, 68, 69, 70, 71, 72, 73, 74, 75, 76, 77, 78, 79, 80, 81, 82, 83, 84, 85, 86, 87, 88, 89, 90, 97, 98, 99, 100, 101, 102, 103, 104, 105, 106, 107, 108, 109, 110, 111, 112, 113, 114, 115, 116, 117, 118, 119, 120, 121, 122]) ++ ([48, 49, 50, 51, 52, 53, 54, 55, 56, 57])) ++ ([95, 46, 45])).length) + 1 ≤ strMax) then
     some (((([65, 66, 67, 68, 69, 70, 71, 72, 73, 74, 75, 76, 77, 78, 79, 80, 81, 82, 83, 84, 85, 86, 87, 88, 89, 90, 97, 98, 99, 100, 101, 102, 103, 104, 105, 106, 107, 108, 109, 110, 111, 112, 113, 114, 115, 116, 117, 118, 119, 120, 121, 122]) ++ ([48, 49, 50, 51, 52, 53, 54, 55, 56, 57])) ++ ([95, 46, 45])) ++ ([47]))
    else
     none
   else
   bif a0 == (3 : Int) then
    bif decide ((((([65, 66, 67, 68, 69, 70, 71, 72, 73, 74, 75, 76, 77, 78, 79, 80, 81, 82, 83, 84, 85, 86, 87, 88, 89, 90, 97, 98, 99, 100, 101, 102, 103, 104, 105, 106, 107, 108, 109, 110, 111, 112, 113, 114, 115, 116, 117, 118, 119, 120, 121, 122]) ++ ([48, 49, 50, 51, 52, 53, 54, 55, 56, 57])) ++ ([95, 46, 45])).length) + 27 ≤ strMax) then
     some (((([65, 66, 67, 68, 69, 70, 71, 72, 73, 74, 75, 76, 77, 78, 79, 80, 81, 82, 83, 84, 85, 86, 87, 88, 89, 90, 97, 98, 99, 100, 101, 102, 103, 104, 105, 106, 107, 108, 109, 110, 111, 112, 113, 114, 115, 116, 117, 118, 119, 120, 121, 122]) ++ ([48, 49, 50, 51, 52, 53, 54, 55, 56, 57])) ++ ([95, 46, 45])) ++ ([47, 33, 34, 35, 36, 37, 38, 39, 40, 41, 42, 43, 58, 59, 60, 61, 62, 63, 64, 91, 92, 93, 94, 96, 123, 125, 126]))
    else
     none
   else
   bif a0 == (4 : Int) then
    some ([48, 49, 50, 51, 52, 53, 54, 55, 56, 57])
   else
    some ([])
  else
   none
 else
  none
noncomputable def F.ref04_Is.L3.step {X : Type} (n : Nat) (rec : Int → Z0 → Int → Option X) (k0 : Unit → Option X) (kr : Bool → Option X) (v1 : Int) (v5 : Z0) (v6 : Int) : Option X :=
 bif decide (v6 < (v5.length : Int)) then
  (idx v5 v6).bind fun x2 =>
   bif ((x2).toNat) == v1 then
    kr true
   else
    rec v1 v5 (IntKind.wrap .i64 (v6 + (1 : Int)))
 else
  k0 ()
noncomputable def F.ref04_Is.L3 {X : Type} (n : Nat) (k0 : Unit → Option X) (kr : Bool → Option X) : Nat → Int → Z0 → Int → Option X
 | 0 => fun _ _ _ => none
 | m + 1 => fun v1 v5 v6 => F.ref04_Is.L3.step n (F.ref04_Is.L3 n k0 kr m) k0 kr v1 v5 v6
noncomputable def F.ref04_Is (n : Nat) (a0 : Int) (a1 : Int) : Option (Bool) :=
 (F.ref04_Bytes n a0).bind fun y1 =>
  F.ref04_Is.L3 n
   (fun (_ : Unit) =>
    some (false))
   (fun e4 =>
    some (e4)) n a1 y1 (0 : Int)
noncomputable def F.ref04_Bad.L2.step {X : Type} (n : Nat) (rec : Int → Z0 → Int → Option X) (k0 : Unit → Option X) (kr : Int → Option X) (v0 : Int) (v1 : Z0) (v5 : Int) : Option X :=
 bif decide (v5 < (v1.length : Int)) then
  (idx v1 v5).bind fun x1 =>
   (F.ref04_Is n v0 ((x1).toNat)).bind fun y2 =>
    bif !y2 then
     kr v5
    else
     rec v0 v1 (IntKind.wrap .i64 (v5 + (1 : Int)))
 else
  k0 ()
noncomputable def F.ref04_Bad.L2 {X : Type} (n : Nat) (k0 : Unit → Option X) (kr : Int → Option X) : Nat → Int → Z0 → Int → Option X
 | 0 => fun _ _ _ => none
 | m + 1 => fun v0 v1 v5 => F.ref04_Bad.L2.step n (F.ref04_Bad.L2 n k0 kr m) k0 kr v0 v1 v5
noncomputable def F.ref04_Bad (n : Nat) (a0 : Int) (a1 : Z0) : Option (Int) :=
 F.ref04_Bad.L2 n
  (fun (_ : Unit) =>
   some ((-1 : Int)))
  (fun e4 =>
   some (e4)) n a0 a1 (0 : Int)
noncomputable def F.ref04_Text (n : Nat) (a0 : Int) (a1 : Z0) (a2 : Int) (a3 : Int) : Option (Z11) :=
 bif decide ((a1.length : Int) < a2) then
  some (((13 : Int), (a1.length : Int), ()))
 else
 bif decide ((a1.length : Int) > a3) then
  some (((12 : Int), a3, ()))
 else
  (F.ref04_Bad n a0 a1).bind fun y1 =>
   bif decide (y1 ≥ (0 : Int)) then
    some (((14 : Int), y1, ()))
   else
    some (((0 : Int), (0 : Int), ()))
noncomputable def F.ref06_Right (n : Nat) (a0 : Z13) : Option (Bool) :=
 (F.ref04_Text n (2 : Int) a0.1 (1 : Int) (64 : Int)).bind fun y1 =>
  bif (y1.1 == (0 : Int)) && (y1.2.1 == (0 : Int)) then
   (F.ref04_Text n (3 : Int) a0.2.1 (0 : Int) (100 : Int)).bind fun y2 =>
    some ((y2.1 == (0 : Int)) && (y2.2.1 == (0 : Int)))
  else
   some (false)
noncomputable def F.ref06_Check (n : Nat) (a0 : Z13) : Option (Int) :=
 (F.ref06_Right n (a0.1, a0.2.1, ())).bind fun y1 =>
  bif !y1 then
   some ((19 : Int))
  else
   some ((0 : Int))
noncomputable def F.ref07_Rest.L12.step {X : Type} (n : Nat) (rec : Int → Z0 → Int → Z2 → Int → Z4 → Int → Option X) (k0 : Z0 → Int → Z2 → Int → Z4 → Int → Option X) (kr : Int → Z0 → Int → Z2 → Int → Z4 → Int → Option X) (v5 : Int) (ab0 : Z0) (ab1 : Int) (ab2 : Z2) (ab3 : Int) (ab4 : Z4) (ab5 : Int) : Option X :=
 bif decide (v5 < (ab4.length : Int)) then
  (idx ab4 v5).bind fun x2 =>
   (F.ref06_Check n (x2.1, x2.2, ())).bind fun y3 =>
    bif !(y3 == (0 : Int)) then
     kr (19 : Int) ab0 ab1 ab2 ab3 ab4 ab5
    else
     rec (IntKind.wrap .i64 (v5 + (1 : Int))) ab0 ab1 ab2 ab3 ab4 ab5
 else
  k0 ab0 ab1 ab2 ab3 ab4 ab5
noncomputable def F.ref07_Rest.L12 {X : Type} (n : Nat) (k0 : Z0 → Int → Z2 → Int → Z4 → Int → Option X) (kr : Int → Z0 → Int → Z2 → Int → Z4 → Int → Option X) : Nat → Int → Z0 → Int → Z2 → Int → Z4 → Int → Option X
 | 0 => fun _ _ _ _ _ _ _ => none
 | m + 1 => fun v5 ab0 ab1 ab2 ab3 ab4 ab5 => F.ref07_Rest.L12.step n (F.ref07_Rest.L12 n k0 kr m) k0 kr v5 ab0 ab1 ab2 ab3 ab4 ab5
noncomputable def F.ref07_Rest (n : Nat) (a0 : Z7) (a1 : Bool) : Option (Int) :=
 (F.ref07_Name n a0.1).bind fun y1 =>
  bif !y1 then
   some ((15 : Int))
  else
  bif decide (a0.2.1 < (1 : Int)) then
   some ((16 : Int))
  else
  bif decide (a0.2.1 > (5 : Int)) then
   some ((16 : Int))
  else
  bif !a1 then
   some ((17 : Int))
  else
  bif decide ((a0.2.2.1.length : Int) < (1 : Int)) then
   some ((17 : Int))
  else
  bif decide ((a0.2.2.1.length : Int) > (64 : Int)) then
   some ((17 : Int))
  else
  bif decide (a0.2.2.2.1 < (1 : Int)) then
   some ((18 : Int))
  else
  bif decide (a0.2.2.2.1 > (1000000 : Int)) then
   some ((18 : Int))
  else
  bif a0.2.1 == (2 : Int) then
   bif !(a0.2.2.2.1 == (1000000 : Int)) then
    some ((18 : Int))
   else
   bif decide ((a0.2.2.2.2.1.length : Int) > (32 : Int)) then
    some ((19 : Int))
   else
    F.ref07_Rest.L12 n
     (fun g0 g1 g2 g3 g4 g5 =>
      bif decide (g5 < (0 : Int)) then
       some ((20 : Int))
      else
      bif decide (g5 > (1099511627776 : Int)) then
       some ((20 : Int))
      else
       some ((0 : Int)))
     (fun e4 g0 g1 g2 g3 g4 g5 =>
      some (e4)) n (0 : Int) a0.1 a0.2.1 a0.2.2.1 a0.2.2.2.1 a0.2.2.2.2.1 a0.2.2.2.2.2.1
  else
  bif decide ((a0.2.2.2.2.1.length : Int) > (32 : Int)) then
   some ((19 : Int))
  else
   F.ref07_Rest.L12 n
    (fun g0 g1 g2 g3 g4 g5 =>
     bif decide (g5 < (0 : Int)) then
      some ((20 : Int))
     else
     bif decide (g5 > (1099511627776 : Int)) then
      some ((20 : Int))
     else
      some ((0 : Int)))
    (fun e4 g0 g1 g2 g3 g4 g5 =>
     some (e4)) n (0 : Int) a0.1 a0.2.1 a0.2.2.1 a0.2.2.2.1 a0.2.2.2.2.1 a0.2.2.2.2.2.1
noncomputable def F.ref07_Check.L3.step {X : Type} (n : Nat) (rec : Bool → Int → Z0 → Int → Z2 → Int → Z4 → Int → Option X) (k0 : Bool → Z0 → Int → Z2 → Int → Z4 → Int → Option X) (v3 : Bool) (v4 : Int) (ab0 : Z0) (ab1 : Int) (ab2 : Z2) (ab3 : Int) (ab4 : Z4) (ab5 : Int) : Option X :=
 bif decide (v4 < (ab2.length : Int)) then
  bif v3 then
   (idx ab2 v4).bind fun x1 =>
    (F.ref03_Check n (x1.1, x1.2.1, x1.2.2, ())).bind fun y2 =>
     rec (y2 == (0 : Int)) (IntKind.wrap .i64 (v4 + (1 : Int))) ab0 ab1 ab2 ab3 ab4 ab5
  else
   rec false (IntKind.wrap .i64 (v4 + (1 : Int))) ab0 ab1 ab2 ab3 ab4 ab5
 else
  k0 v3 ab0 ab1 ab2 ab3 ab4 ab5
noncomputable def F.ref07_Check.L3 {X : Type} (n : Nat) (k0 : Bool → Z0 → Int → Z2 → Int → Z4 → Int → Option X) : Nat → Bool → Int → Z0 → Int → Z2 → Int → Z4 → Int → Option X
 | 0 => fun _ _ _ _ _ _ _ _ => none
 | m + 1 => fun v3 v4 ab0 ab1 ab2 ab3 ab4 ab5 => F.ref07_Check.L3.step n (F.ref07_Check.L3 n k0 m) k0 v3 v4 ab0 ab1 ab2 ab3 ab4 ab5
noncomputable def F.ref07_Check (n : Nat) (a0 : Z7) : Option (Int) :=
 F.ref07_Check.L3 n
  (fun e3 g0 g1 g2 g3 g4 g5 =>
   (F.ref07_Rest n (g0, g1, g2, g3, g4, g5, ()) e3).bind fun y4 =>
    some (y4)) n true (0 : Int) a0.1 a0.2.1 a0.2.2.1 a0.2.2.2.1 a0.2.2.2.2.1 a0.2.2.2.2.2.1
noncomputable def F.ref08_Check.L4.step {X : Type} (n : Nat) (rec : Z6 → Int → Option X) (k0 : Unit → Option X) (kr : Int → Int → Option X) (v0 : Z6) (v4 : Int) : Option X :=
 bif decide (v4 < (v0.length : Int)) then
  (idx v0 v4).bind fun x1 =>
   (F.ref07_Check n (x1.1, x1.2.1, x1.2.2.1, x1.2.2.2.1, x1.2.2.2.2.1, x1.2.2.2.2.2, ())).bind fun y2 =>
    bif !(y2 == (0 : Int)) then
     kr v4 y2
    else
     rec v0 (IntKind.wrap .i64 (v4 + (1 : Int)))
 else
  k0 ()
noncomputable def F.ref08_Check.L4 {X : Type} (n : Nat) (k0 : Unit → Option X) (kr : Int → Int → Option X) : Nat → Z6 → Int → Option X
 | 0 => fun _ _ => none
 | m + 1 => fun v0 v4 => F.ref08_Check.L4.step n (F.ref08_Check.L4 n k0 kr m) k0 kr v0 v4
noncomputable def F.ref08_Check (n : Nat) (a0 : Z6) : Option ((Int) × (Int) × Unit) :=
 bif decide ((a0.length : Int) > (1000 : Int)) then
  some (((1000 : Int), (12 : Int), ()))
 else
  F.ref08_Check.L4 n
   (fun (_ : Unit) =>
    some (((0 : Int), (0 : Int), ())))
   (fun e2 e3 =>
    some ((e2, e3, ()))) n a0 (0 : Int)
noncomputable def F.ref09_Says (n : Nat) (a0 : Z7) (a1 : Int) : Option (Bool) :=
 bif (a0.2.2.1.length : Int) == (1 : Int) then
  bif a1 == (1 : Int) then
   bif (a0.2.2.2.2.1.length : Int) == (0 : Int) then
    bif a0.2.2.2.2.2.1 == (0 : Int) then
     bif !(a0.2.1 == (5 : Int)) then
      bif a0.2.1 == (2 : Int) then
       (idx a0.2.2.1 (0 : Int)).bind fun x1 =>
        some (!x1.1)
      else
       some (true)
     else
      some (false)
    else
     some (false)
   else
    some (false)
  else
  bif a1 == (3 : Int) then
   bif (a0.2.2.2.2.1.length : Int) == (0 : Int) then
    bif !(a0.2.2.2.2.2.1 == (0 : Int)) then
     some (a0.2.1 == (2 : Int))
    else
     some (false)
   else
    some (false)
  else
   some (true)
 else
 bif a1 == (1 : Int) then
  some (false)
 else
 bif a1 == (3 : Int) then
  some (false)
 else
  some (true)
noncomputable def F.ref09_Batch.L7.step {X : Type} (n : Nat) (rec : Z6 → Int → Int → Option X) (k0 : Unit → Option X) (kr : Int → Int → Option X) (v0 : Z6) (v1 : Int) (v8 : Int) : Option X :=
 bif decide (v8 < (v0.length : Int)) then
  (idx v0 v8).bind fun x2 =>
   (F.ref09_Says n (x2.1, x2.2.1, x2.2.2.1, x2.2.2.2.1, x2.2.2.2.2.1, x2.2.2.2.2.2, ()) v1).bind fun y3 =>
    bif !y3 then
     kr v8 (26 : Int)
    else
     rec v0 v1 (IntKind.wrap .i64 (v8 + (1 : Int)))
 else
  k0 ()
noncomputable def F.ref09_Batch.L7 {X : Type} (n : Nat) (k0 : Unit → Option X) (kr : Int → Int → Option X) : Nat → Z6 → Int → Int → Option X
 | 0 => fun _ _ _ => none
 | m + 1 => fun v0 v1 v8 => F.ref09_Batch.L7.step n (F.ref09_Batch.L7 n k0 kr m) k0 kr v0 v1 v8
noncomputable def F.ref09_Batch (n : Nat) (a0 : Z6) (a1 : Int) : Option ((Int) × (Int) × Unit) :=
 bif decide (a1 < (1 : Int)) then
  some (((0 : Int), (29 : Int), ()))
 else
 bif decide (a1 > (4 : Int)) then
  some (((0 : Int), (29 : Int), ()))
 else
  (F.ref08_Check n a0).bind fun y1 =>
   bif !(y1.2.1 == (0 : Int)) then
    some ((y1.1, y1.2.1, ()))
   else
    F.ref09_Batch.L7 n
     (fun (_ : Unit) =>
      some (((0 : Int), (0 : Int), ())))
     (fun e4 e5 =>
      some ((e4, e5, ()))) n a0 a1 (0 : Int)
noncomputable def F.ref07_Copy (n : Nat) (a0 : Z7) : Option (Z7) :=
 bif decide ((0 + a0.2.2.1.length) * 24 ≤ 2 ^ 46) && decide (0 < 24 ∧ 24 ≤ 2 ^ 20) then
  bif decide ((0 + a0.2.2.2.2.1.length) * 32 ≤ 2 ^ 46) && decide (0 < 32 ∧ 32 ≤ 2 ^ 20) then
   some ((a0.1, a0.2.1, [] ++ a0.2.2.1, a0.2.2.2.1, [] ++ a0.2.2.2.2.1, a0.2.2.2.2.2.1, ()))
  else
   none
 else
  none
noncomputable def F.ref09_Cut.L10.step {X : Type} (n : Nat) (rec : Int → Z6 → Int → Z0 → Int → Z2 → Int → Z4 → Int → Nat → Option X) (k0 : Z6 → Z0 → Int → Z2 → Int → Z4 → Int → Nat → Option X) (v1 : Int) (v7 : Z6) (v8 : Int) (ab0 : Z0) (ab1 : Int) (ab2 : Z2) (ab3 : Int) (ab4 : Z4) (ab5 : Int) (vk0 : Nat) : Option X :=
 bif decide (v8 < (ab2.length : Int)) then
  (idx ab2 v8).bind fun x4 =>
   bif v1 == (1 : Int) then
    (F.ref09_Says n (ab0, ab1, [(x4.1, x4.2.1, x4.2.2)], ab3, [], (0 : Int), ()) v1).bind fun y5 =>
     bif y5 then
      bif decide ((v7.length + 1) * 88 ≤ 2 ^ 46) && decide (0 < 88 ∧ 88 ≤ 2 ^ 20) then
       bif Nat.beq vk0 v7.length then
        rec v1 (v7 ++ ([(ab0, ab1, [(x4.1, x4.2.1, x4.2.2)], ab3, [], 0)])) (IntKind.wrap .i64 (v8 + (1 : Int))) ab0 ab1 ab2 ab3 ab4 ab5 ((v7 ++ ([(ab0, ab1, [(x4.1, x4.2.1, x4.2.2)], ab3, [], 0)])).length)
       else
        none
      else
       none
     else
      rec v1 v7 (IntKind.wrap .i64 (v8 + (1 : Int))) ab0 ab1 ab2 ab3 ab4 ab5 vk0
   else
    (F.ref09_Says n (ab0, ab1, [(x4.1, x4.2.1, x4.2.2)], ab3, [], ab5, ()) v1).bind fun y6 =>
     bif y6 then
      bif decide ((v7.length + 1) * 88 ≤ 2 ^ 46) && decide (0 < 88 ∧ 88 ≤ 2 ^ 20) then
       bif Nat.beq vk0 v7.length then
        rec v1 (v7 ++ ([(ab0, ab1, [(x4.1, x4.2.1, x4.2.2)], ab3, [], ab5)])) (IntKind.wrap .i64 (v8 + (1 : Int))) ab0 ab1 ab2 ab3 ab4 ab5 ((v7 ++ ([(ab0, ab1, [(x4.1, x4.2.1, x4.2.2)], ab3, [], ab5)])).length)
       else
        none
      else
       none
     else
      rec v1 v7 (IntKind.wrap .i64 (v8 + (1 : Int))) ab0 ab1 ab2 ab3 ab4 ab5 vk0
 else
  k0 v7 ab0 ab1 ab2 ab3 ab4 ab5 vk0
noncomputable def F.ref09_Cut.L10 {X : Type} (n : Nat) (k0 : Z6 → Z0 → Int → Z2 → Int → Z4 → Int → Nat → Option X) : Nat → Int → Z6 → Int → Z0 → Int → Z2 → Int → Z4 → Int → Nat → Option X
 | 0 => fun _ _ _ _ _ _ _ _ _ _ => none
 | m + 1 => fun v1 v7 v8 ab0 ab1 ab2 ab3 ab4 ab5 vk0 => F.ref09_Cut.L10.step n (F.ref09_Cut.L10 n k0 m) k0 v1 v7 v8 ab0 ab1 ab2 ab3 ab4 ab5 vk0
noncomputable def F.ref09_Cut (n : Nat) (a0 : Z7) (a1 : Int) : Option ((Z6) × (Int) × Unit) :=
 bif decide (a1 < (1 : Int)) then
  some (([], (29 : Int), ()))
 else
 bif decide (a1 > (4 : Int)) then
  some (([], (29 : Int), ()))
 else
  (F.ref07_Check n (a0.1, a0.2.1, a0.2.2.1, a0.2.2.2.1, a0.2.2.2.2.1, a0.2.2.2.2.2.1, ())).bind fun y1 =>
   bif !(y1 == (0 : Int)) then
    some (([], y1, ()))
   else
   bif a1 == (2 : Int) then
    (F.ref07_Copy n (a0.1, a0.2.1, a0.2.2.1, a0.2.2.2.1, a0.2.2.2.2.1, a0.2.2.2.2.2.1, ())).bind fun y2 =>
     some (([(y2.1, y2.2.1, y2.2.2.1, y2.2.2.2.1, y2.2.2.2.2.1, y2.2.2.2.2.2.1)], (0 : Int), ()))
   else
   bif a1 == (4 : Int) then
    (F.ref07_Copy n (a0.1, a0.2.1, a0.2.2.1, a0.2.2.2.1, a0.2.2.2.2.1, a0.2.2.2.2.2.1, ())).bind fun y3 =>
     some (([(y3.1, y3.2.1, y3.2.2.1, y3.2.2.2.1, y3.2.2.2.2.1, y3.2.2.2.2.2.1)], (0 : Int), ()))
   else
    F.ref09_Cut.L10 n
     (fun e7 g0 g1 g2 g3 g4 g5 ek0 =>
      bif (e7.length : Int) == (0 : Int) then
       some (([], (26 : Int), ()))
      else
       some ((e7, (0 : Int), ()))) n a1 [] (0 : Int) a0.1 a0.2.1 a0.2.2.1 a0.2.2.2.1 a0.2.2.2.2.1 a0.2.2.2.2.2.1 0
noncomputable def F.ref23_Metrics.L8.step {X : Type} (n : Nat) (rec : Z6 → Int → Z6 → Int → Nat → Option X) (k0 : Z6 → Nat → Option X) (kr : Z6 → Int → Int → Nat → Option X) (v0 : Z6) (v2 : Int) (v11 : Z6) (v12 : Int) (vk0 : Nat) : Option X :=
 bif decide (v12 < (v0.length : Int)) then
  (idx v0 v12).bind fun x4 =>
   (F.ref09_Cut n (x4.1, x4.2.1, x4.2.2.1, x4.2.2.2.1, x4.2.2.2.2.1, x4.2.2.2.2.2, ()) v2).bind fun y5 =>
    bif !(y5.2.1 == (0 : Int)) then
     kr [] v12 y5.2.1 0
    else
    bif decide ((v11.length + y5.1.length) * 88 ≤ 2 ^ 46) && decide (0 < 88 ∧ 88 ≤ 2 ^ 20) then
     bif Nat.beq vk0 v11.length then
      bif decide (((v11 ++ y5.1).length : Int) > (1000 : Int)) then
       kr [] v12 (12 : Int) 0
      else
       rec v0 v2 (v11 ++ y5.1) (IntKind.wrap .i64 (v12 + (1 : Int))) ((v11 ++ y5.1).length)
     else
      none
    else
     none
 else
  k0 v11 vk0
noncomputable def F.ref23_Metrics.L8 {X : Type} (n : Nat) (k0 : Z6 → Nat → Option X) (kr : Z6 → Int → Int → Nat → Option X) : Nat → Z6 → Int → Z6 → Int → Nat → Option X
 | 0 => fun _ _ _ _ _ => none
 | m + 1 => fun v0 v2 v11 v12 vk0 => F.ref23_Metrics.L8.step n (F.ref23_Metrics.L8 n k0 kr m) k0 kr v0 v2 v11 v12 vk0
noncomputable def F.ref23_Metrics (n : Nat) (a0 : Z6) (a1 : Int) (a2 : Int) : Option ((Z6) × (Int) × (Int) × Unit) :=
 (F.ref23_Is n a1).bind fun y1 =>
  bif !y1 then
   some (([], (0 : Int), (29 : Int), ()))
  else
   (F.ref23_Is n a2).bind fun y2 =>
    bif !y2 then
     some (([], (0 : Int), (29 : Int), ()))
    else
     (F.ref09_Batch n a0 a1).bind fun y3 =>
      bif !(y3.2.1 == (0 : Int)) then
       some (([], y3.1, y3.2.1, ()))
      else
       F.ref23_Metrics.L8 n
        (fun e11 ek0 =>
         some ((e11, (0 : Int), (0 : Int), ())))
        (fun e6 e7 e8 ek0 =>
         some ((e6, e7, e8, ()))) n a0 a2 [] (0 : Int) 0
noncomputable def F.ref07_Equal.L4.step {X : Type} (n : Nat) (rec : Int → Z0 → Int → Z2 → Int → Z4 → Int → Z0 → Int → Z2 → Int → Z4 → Int → Option X) (k0 : Z0 → Int → Z2 → Int → Z4 → Int → Z0 → Int → Z2 → Int → Z4 → Int → Option X) (kr : Bool → Z0 → Int → Z2 → Int → Z4 → Int → Z0 → Int → Z2 → Int → Z4 → Int → Option X) (v5 : Int) (ab0 : Z0) (ab1 : Int) (ab2 : Z2) (ab3 : Int) (ab4 : Z4) (ab5 : Int) (bb0 : Z0) (bb1 : Int) (bb2 : Z2) (bb3 : Int) (bb4 : Z4) (bb5 : Int) : Option X :=
 bif decide (v5 < (ab2.length : Int)) then
  (idx ab2 v5).bind fun x1 =>
   (idx bb2 v5).bind fun x2 =>
    bif !((x1.1 == x2.1) && ((x1.2.1 == x2.2.1) && (x1.2.2 == x2.2.2))) then
     kr false ab0 ab1 ab2 ab3 ab4 ab5 bb0 bb1 bb2 bb3 bb4 bb5
    else
     rec (IntKind.wrap .i64 (v5 + (1 : Int))) ab0 ab1 ab2 ab3 ab4 ab5 bb0 bb1 bb2 bb3 bb4 bb5
 else
  k0 ab0 ab1 ab2 ab3 ab4 ab5 bb0 bb1 bb2 bb3 bb4 bb5
noncomputable def F.ref07_Equal.L4 {X : Type} (n : Nat) (k0 : Z0 → Int → Z2 → Int → Z4 → Int → Z0 → Int → Z2 → Int → Z4 → Int → Option X) (kr : Bool → Z0 → Int → Z2 → Int → Z4 → Int → Z0 → Int → Z2 → Int → Z4 → Int → Option X) : Nat → Int → Z0 → Int → Z2 → Int → Z4 → Int → Z0 → Int → Z2 → Int → Z4 → Int → Option X
 | 0 => fun _ _ _ _ _ _ _ _ _ _ _ _ _ => none
 | m + 1 => fun v5 ab0 ab1 ab2 ab3 ab4 ab5 bb0 bb1 bb2 bb3 bb4 bb5 => F.ref07_Equal.L4.step n (F.ref07_Equal.L4 n k0 kr m) k0 kr v5 ab0 ab1 ab2 ab3 ab4 ab5 bb0 bb1 bb2 bb3 bb4 bb5
noncomputable def F.ref07_Equal.L9.step {X : Type} (n : Nat) (rec : Int → Z0 → Int → Z2 → Int → Z4 → Int → Z0 → Int → Z2 → Int → Z4 → Int → Option X) (k2 : Z0 → Int → Z2 → Int → Z4 → Int → Z0 → Int → Z2 → Int → Z4 → Int → Option X) (kr : Bool → Z0 → Int → Z2 → Int → Z4 → Int → Z0 → Int → Z2 → Int → Z4 → Int → Option X) (v6 : Int) (ab0 : Z0) (ab1 : Int) (ab2 : Z2) (ab3 : Int) (ab4 : Z4) (ab5 : Int) (bb0 : Z0) (bb1 : Int) (bb2 : Z2) (bb3 : Int) (bb4 : Z4) (bb5 : Int) : Option X :=
 bif decide (v6 < (ab4.length : Int)) then
  (idx ab4 v6).bind fun x4 =>
   (idx bb4 v6).bind fun x5 =>
    bif !((x4.1 == x5.1) && (x4.2 == x5.2)) then
     kr false ab0 ab1 ab2 ab3 ab4 ab5 bb0 bb1 bb2 bb3 bb4 bb5
    else
     rec (IntKind.wrap .i64 (v6 + (1 : Int))) ab0 ab1 ab2 ab3 ab4 ab5 bb0 bb1 bb2 bb3 bb4 bb5
 else
  k2 ab0 ab1 ab2 ab3 ab4 ab5 bb0 bb1 bb2 bb3 bb4 bb5
noncomputable def F.ref07_Equal.L9 {X : Type} (n : Nat) (k2 : Z0 → Int → Z2 → Int → Z4 → Int → Z0 → Int → Z2 → Int → Z4 → Int → Option X) (kr : Bool → Z0 → Int → Z2 → Int → Z4 → Int → Z0 → Int → Z2 → Int → Z4 → Int → Option X) : Nat → Int → Z0 → Int → Z2 → Int → Z4 → Int → Z0 → Int → Z2 → Int → Z4 → Int → Option X
 | 0 => fun _ _ _ _ _ _ _ _ _ _ _ _ _ => none
 | m + 1 => fun v6 ab0 ab1 ab2 ab3 ab4 ab5 bb0 bb1 bb2 bb3 bb4 bb5 => F.ref07_Equal.L9.step n (F.ref07_Equal.L9 n k2 kr m) k2 kr v6 ab0 ab1 ab2 ab3 ab4 ab5 bb0 bb1 bb2 bb3 bb4 bb5
noncomputable def F.ref07_Equal (n : Nat) (a0 : Z7) (a1 : Z7) : Option (Bool) :=
 bif !(a0.1 == a1.1) then
  some (false)
 else
 bif !(a0.2.1 == a1.2.1) then
  some (false)
 else
 bif !(a0.2.2.2.1 == a1.2.2.2.1) then
  some (false)
 else
 bif !(a0.2.2.2.2.2.1 == a1.2.2.2.2.2.1) then
  some (false)
 else
 bif !((a0.2.2.1.length : Int) == (a1.2.2.1.length : Int)) then
  some (false)
 else
 bif !((a0.2.2.2.2.1.length : Int) == (a1.2.2.2.2.1.length : Int)) then
  some (false)
 else
  F.ref07_Equal.L4 n
   (fun g0 g1 g2 g3 g4 g5 h0 h1 h2 h3 h4 h5 =>
    F.ref07_Equal.L9 n
     (fun g0 g1 g2 g3 g4 g5 h0 h1 h2 h3 h4 h5 =>
      some (true))
     (fun e4 g0 g1 g2 g3 g4 g5 h0 h1 h2 h3 h4 h5 =>
      some (e4)) n (0 : Int) g0 g1 g2 g3 g4 g5 h0 h1 h2 h3 h4 h5)
   (fun e4 g0 g1 g2 g3 g4 g5 h0 h1 h2 h3 h4 h5 =>
    some (e4)) n (0 : Int) a0.1 a0.2.1 a0.2.2.1 a0.2.2.2.1 a0.2.2.2.2.1 a0.2.2.2.2.2.1 a1.1 a1.2.1 a1.2.2.1 a1.2.2.2.1 a1.2.2.2.2.1 a1.2.2.2.2.2.1
noncomputable def F.ref08_Equal.L4.step {X : Type} (n : Nat) (rec : Z6 → Z6 → Int → Option X) (k0 : Unit → Option X) (kr : Bool → Option X) (v0 : Z6) (v1 : Z6) (v5 : Int) : Option X :=
 bif decide (v5 < (v0.length : Int)) then
  (idx v0 v5).bind fun x1 =>
   (idx v1 v5).bind fun x2 =>
    (F.ref07_Equal n (x1.1, x1.2.1, x1.2.2.1, x1.2.2.2.1, x1.2.2.2.2.1, x1.2.2.2.2.2, ()) (x2.1, x2.2.1, x2.2.2.1, x2.2.2.2.1, x2.2.2.2.2.1, x2.2.2.2.2.2, ())).bind fun y3 =>
     bif !y3 then
      kr false
     else
      rec v0 v1 (IntKind.wrap .i64 (v5 + (1 : Int)))
 else
  k0 ()
noncomputable def F.ref08_Equal.L4 {X : Type} (n : Nat) (k0 : Unit → Option X) (kr : Bool → Option X) : Nat → Z6 → Z6 → Int → Option X
 | 0 => fun _ _ _ => none
 | m + 1 => fun v0 v1 v5 => F.ref08_Equal.L4.step n (F.ref08_Equal.L4 n k0 kr m) k0 kr v0 v1 v5
noncomputable def F.ref08_Equal (n : Nat) (a0 : Z6) (a1 : Z6) : Option (Bool) :=
 bif !((a0.length : Int) == (a1.length : Int)) then
  some (false)
 else
  F.ref08_Equal.L4 n
   (fun (_ : Unit) =>
    some (true))
   (fun e4 =>
    some (e4)) n a0 a1 (0 : Int)
noncomputable def F.law23_TransMetrics (n : Nat) (a0 : Z6) (a1 : Int) (a2 : Int) : Option (Bool) :=
 (F.law13_Few n a0).bind fun y1 =>
  bif !y1 then
   (F.law23_awake n ).bind fun y2 =>
    some (y2)
  else
   (F.trans_Metrics n a0 a1 a2).bind fun y3 =>
    (F.ref23_Metrics n a0 a1 a2).bind fun y4 =>
     (F.ref08_Equal n y3.1 y4.1).bind fun y5 =>
      bif y5 then
       bif y3.2.1 == y4.2.1 then
        bif y3.2.2.1 == y4.2.2.1 then
         (F.law23_awake n ).bind fun y6 =>
          some (y6)
        else
         some (false)
       else
        some (false)
      else
       some (false)
end Go.AM
namespace Go.Proofs
open Go.Shelf
def Tryz.lays156_ren : Go.Shelf.Ren := ⟨fun | 156 => 304 | 165 => 323 | 166 => 256 | 169 => 260 | 240 => 302 | 241 => 348 | 276 => 336 | 277 => 364 | n => n, fun | 31 => 96 | 9 => 9 | 3 => 3 | 4 => 4 | 0 => 0 | 20 => 20 | 72 => 277 | 76 => 280 | 70 => 275 | 37 => 30 | 75 => 279 | 127 => 322 | 164 => 346 | 5 => 5 | 80 => 285 | n => n, fun | n => n⟩
theorem Tryz.lays156 : Go.Proofs.Lays.n156 Tryz.prog Tryz.lays156_ren := {
  mixed := by kernel_rfl
  f156 := Tryz.func304.trans (congrArg some (by kernel_rfl))
  f165 := Tryz.func323.trans (congrArg some (by kernel_rfl))
  f166 := Tryz.func256.trans (congrArg some (by kernel_rfl))
  f169 := Tryz.func260.trans (congrArg some (by kernel_rfl))
  f240 := Tryz.func302.trans (congrArg some (by kernel_rfl))
  f241 := Tryz.func348.trans (congrArg some (by kernel_rfl))
  f276 := Tryz.func336.trans (congrArg some (by kernel_rfl))
  f277 := Tryz.func364.trans (congrArg some (by kernel_rfl))
  t0 := Tryz.underlying0
  a0 := Tryz.isAgg0
  z0 := Tryz.sizeOf0
  v0 := Tryz.zeroValue0
  t3 := Tryz.underlying3
  a3 := Tryz.isAgg3
  z3 := Tryz.sizeOf3
  v3 := Tryz.zeroValue3
  t4 := Tryz.underlying4
  a4 := Tryz.isAgg4
  z4 := Tryz.sizeOf4
  v4 := Tryz.zeroValue4
  t9 := Tryz.underlying9
  a9 := Tryz.isAgg9
  z9 := Tryz.sizeOf9
  v9 := Tryz.zeroValue9
  t20 := Tryz.underlying20
  a20 := Tryz.isAgg20
  z20 := Tryz.sizeOf20
  v20 := Tryz.zeroValue20
  t31 := Tryz.underlying96
  a31 := Tryz.isAgg96
  z31 := Tryz.sizeOf96
  v31 := Tryz.zeroValue96
  t37 := Tryz.underlying30
  a37 := Tryz.isAgg30
  z37 := Tryz.sizeOf30
  v37 := Tryz.zeroValue30
  t70 := Tryz.underlying275
  a70 := Tryz.isAgg275
  z70 := Tryz.sizeOf275
  v70 := Tryz.zeroValue275
  t72 := Tryz.underlying277
  a72 := Tryz.isAgg277
  z72 := Tryz.sizeOf277
  v72 := Tryz.zeroValue277
  t75 := Tryz.underlying279
  a75 := Tryz.isAgg279
  z75 := Tryz.sizeOf279
  v75 := Tryz.zeroValue279
  t76 := Tryz.underlying280
  a76 := Tryz.isAgg280
  z76 := Tryz.sizeOf280
  v76 := Tryz.zeroValue280
  t127 := Tryz.underlying322
  a127 := Tryz.isAgg322
  z127 := Tryz.sizeOf322
  v127 := Tryz.zeroValue322
  t164 := Tryz.underlying346
  a164 := Tryz.isAgg346
  z164 := Tryz.sizeOf346
  v164 := Tryz.zeroValue346 }
theorem Tryz.Builder_Extra_156 : Builder.Extra Tryz.prog Tryz.lays156_ren := {
  sizeBuilder := by kernel_rfl
  liesBuilder := by kernel_rfl
  t5 := Tryz.underlying5
  a5 := Tryz.isAgg5
  z5 := Tryz.sizeOf5
  v5 := Tryz.zeroValue5
  infoByte := by kernel_rfl
  cellsByte := by kernel_rfl
  sizeByte := by kernel_rfl
  neB5 := by decide }
open Go.RowKit in
theorem Tryz.strings_Join_none (a : Option Addr) (c : Nat) (sep : ByteArray) (w : World) :
    Calls Tryz.prog 304 #[.slice a 0 c, .string sep] w fun e w' => e = .returned (.string ⟨#[]⟩) ∧ w' = w := Any.strings_Join_none Tryz.lays156 Tryz.Builder_Extra_156 a c sep w
open Go.RowKit in
theorem Tryz.strings_Join (bk o c : Nat) (xs : List ByteArray) (sep : ByteArray) (w : World) (hcells : ∀ (j : Nat) x, xs[j]? = some x → w.cell? ⟨bk, o + j, none⟩ = some (.string x)) (hbk : bk < w.heap.size) (hN : xs.length ≤ 140737488355328) (hcap : xs.length ≤ c) (hlen : (Lib.join (xs.map (·.data.toList)) sep.data.toList).length ≤ 140737488355328) :
    Calls Tryz.prog 304 #[.slice (some ⟨bk, o, none⟩) xs.length c, .string sep] w fun e w' => e = .returned (.string ⟨(Lib.join (xs.map (·.data.toList)) sep.data.toList).toArray⟩) ∧ Below w.heap.size w w' := Any.strings_Join Tryz.lays156 Tryz.Builder_Extra_156 bk o c xs sep w hcells hbk hN hcap hlen
def Tryz.lays161_ren : Go.Shelf.Ren := ⟨fun | 161 => 298 | 231 => 333 | 227 => 327 | 233 => 334 | 235 => 335 | 228 => 350 | 197 => 356 | 151 => 352 | 260 => 368 | 152 => 366 | 137 => 189 | 119 => 373 | 224 => 354 | 225 => 353 | 217 => 267 | 266 => 313 | n => n, fun | 9 => 9 | 4 => 4 | 3 => 3 | 5 => 5 | 117 => 342 | 116 => 341 | 0 => 0 | 124 => 345 | 105 => 356 | 21 => 21 | 119 => 366 | 46 => 125 | 139 => 369 | 138 => 368 | n => n, fun | 3 => 2 | 4 => 3 | n => n⟩
theorem Tryz.lays161 : Go.Proofs.Lays.n161 Tryz.prog Tryz.lays161_ren := {
  mixed := by kernel_rfl
  f119 := Tryz.func373.trans (congrArg some (by kernel_rfl))
  f137 := Tryz.func189.trans (congrArg some (by kernel_rfl))
  f151 := Tryz.func352.trans (congrArg some (by kernel_rfl))
  f152 := Tryz.func366.trans (congrArg some (by kernel_rfl))
  f161 := Tryz.func298.trans (congrArg some (by kernel_rfl))
  f197 := Tryz.func356.trans (congrArg some (by kernel_rfl))
  f217 := Tryz.func267.trans (congrArg some (by kernel_rfl))
  f224 := Tryz.func354.trans (congrArg some (by kernel_rfl))
  f225 := Tryz.func353.trans (congrArg some (by kernel_rfl))
  f227 := Tryz.func327.trans (congrArg some (by kernel_rfl))
  f228 := Tryz.func350.trans (congrArg some (by kernel_rfl))
  f231 := Tryz.func333.trans (congrArg some (by kernel_rfl))
  f233 := Tryz.func334.trans (congrArg some (by kernel_rfl))
  f235 := Tryz.func335.trans (congrArg some (by kernel_rfl))
  f260 := Tryz.func368.trans (congrArg some (by kernel_rfl))
  f266 := Tryz.func313.trans (congrArg some (by kernel_rfl))
  t0 := Tryz.underlying0
  a0 := Tryz.isAgg0
  z0 := Tryz.sizeOf0
  v0 := Tryz.zeroValue0
  t3 := Tryz.underlying3
  a3 := Tryz.isAgg3
  z3 := Tryz.sizeOf3
  v3 := Tryz.zeroValue3
  t4 := Tryz.underlying4
  a4 := Tryz.isAgg4
  z4 := Tryz.sizeOf4
  v4 := Tryz.zeroValue4
  t5 := Tryz.underlying5
  a5 := Tryz.isAgg5
  z5 := Tryz.sizeOf5
  v5 := Tryz.zeroValue5
  t9 := Tryz.underlying9
  a9 := Tryz.isAgg9
  z9 := Tryz.sizeOf9
  v9 := Tryz.zeroValue9
  t21 := Tryz.underlying21
  a21 := Tryz.isAgg21
  z21 := Tryz.sizeOf21
  v21 := Tryz.zeroValue21
  t46 := Tryz.underlying125
  a46 := Tryz.isAgg125
  z46 := Tryz.sizeOf125
  v46 := Tryz.zeroValue125
  t105 := Tryz.underlying356
  a105 := Tryz.isAgg356
  z105 := Tryz.sizeOf356
  v105 := Tryz.zeroValue356
  t116 := Tryz.underlying341
  a116 := Tryz.isAgg341
  z116 := Tryz.sizeOf341
  t117 := Tryz.underlying342
  a117 := Tryz.isAgg342
  z117 := Tryz.sizeOf342
  v117 := Tryz.zeroValue342
  t119 := Tryz.underlying366
  a119 := Tryz.isAgg366
  z119 := Tryz.sizeOf366
  t124 := Tryz.underlying345
  a124 := Tryz.isAgg345
  z124 := Tryz.sizeOf345
  v124 := Tryz.zeroValue345
  t138 := Tryz.underlying368
  a138 := Tryz.isAgg368
  z138 := Tryz.sizeOf368
  v138 := Tryz.zeroValue368
  t139 := Tryz.underlying369
  a139 := Tryz.isAgg369
  z139 := Tryz.sizeOf369
  v139 := Tryz.zeroValue369
  g3 := by kernel_rfl
  g4 := by kernel_rfl }
open Go.RowKit in
theorem Tryz.strings_TrimLeft_one (s : ByteArray) (c : UInt8) (hc : c.toNat < 128) (w : World) :
    Calls Tryz.prog 298 #[.string s, .string ⟨#[c]⟩] w fun e w' => e = .returned (.string ⟨(Lib.trimLeftB s.data.toList c).toArray⟩) ∧ w' = w := Any.strings_TrimLeft_one Tryz.lays161 s c hc w
def Tryz.lays162_ren : Go.Shelf.Ren := ⟨fun | 162 => 294 | 232 => 326 | 227 => 327 | 234 => 328 | 236 => 329 | 228 => 350 | 271 => 351 | 151 => 352 | 120 => 365 | 197 => 356 | 152 => 366 | 260 => 368 | 137 => 189 | 119 => 373 | 224 => 354 | 225 => 353 | 217 => 267 | 266 => 313 | n => n, fun | 9 => 9 | 4 => 4 | 3 => 3 | 5 => 5 | 117 => 342 | 116 => 341 | 0 => 0 | 124 => 345 | 21 => 21 | 105 => 356 | 46 => 125 | 119 => 366 | 139 => 369 | 138 => 368 | n => n, fun | 3 => 2 | 4 => 3 | n => n⟩
theorem Tryz.lays162 : Go.Proofs.Lays.n162 Tryz.prog Tryz.lays162_ren := {
  mixed := by kernel_rfl
  f119 := Tryz.func373.trans (congrArg some (by kernel_rfl))
  f120 := Tryz.func365.trans (congrArg some (by kernel_rfl))
  f137 := Tryz.func189.trans (congrArg some (by kernel_rfl))
  f151 := Tryz.func352.trans (congrArg some (by kernel_rfl))
  f152 := Tryz.func366.trans (congrArg some (by kernel_rfl))
  f162 := Tryz.func294.trans (congrArg some (by kernel_rfl))
  f197 := Tryz.func356.trans (congrArg some (by kernel_rfl))
  f217 := Tryz.func267.trans (congrArg some (by kernel_rfl))
  f224 := Tryz.func354.trans (congrArg some (by kernel_rfl))
  f225 := Tryz.func353.trans (congrArg some (by kernel_rfl))
  f227 := Tryz.func327.trans (congrArg some (by kernel_rfl))
  f228 := Tryz.func350.trans (congrArg some (by kernel_rfl))
  f232 := Tryz.func326.trans (congrArg some (by kernel_rfl))
  f234 := Tryz.func328.trans (congrArg some (by kernel_rfl))
  f236 := Tryz.func329.trans (congrArg some (by kernel_rfl))
  f260 := Tryz.func368.trans (congrArg some (by kernel_rfl))
  f266 := Tryz.func313.trans (congrArg some (by kernel_rfl))
  f271 := Tryz.func351.trans (congrArg some (by kernel_rfl))
  t0 := Tryz.underlying0
  a0 := Tryz.isAgg0
  z0 := Tryz.sizeOf0
  v0 := Tryz.zeroValue0
  t3 := Tryz.underlying3
  a3 := Tryz.isAgg3
  z3 := Tryz.sizeOf3
  v3 := Tryz.zeroValue3
  t4 := Tryz.underlying4
  a4 := Tryz.isAgg4
  z4 := Tryz.sizeOf4
  v4 := Tryz.zeroValue4
  t5 := Tryz.underlying5
  a5 := Tryz.isAgg5
  z5 := Tryz.sizeOf5
  v5 := Tryz.zeroValue5
  t9 := Tryz.underlying9
  a9 := Tryz.isAgg9
  z9 := Tryz.sizeOf9
  v9 := Tryz.zeroValue9
  t21 := Tryz.underlying21
  a21 := Tryz.isAgg21
  z21 := Tryz.sizeOf21
  v21 := Tryz.zeroValue21
  t46 := Tryz.underlying125
  a46 := Tryz.isAgg125
  z46 := Tryz.sizeOf125
  v46 := Tryz.zeroValue125
  t105 := Tryz.underlying356
  a105 := Tryz.isAgg356
  z105 := Tryz.sizeOf356
  v105 := Tryz.zeroValue356
  t116 := Tryz.underlying341
  a116 := Tryz.isAgg341
  z116 := Tryz.sizeOf341
  t117 := Tryz.underlying342
  a117 := Tryz.isAgg342
  z117 := Tryz.sizeOf342
  v117 := Tryz.zeroValue342
  t119 := Tryz.underlying366
  a119 := Tryz.isAgg366
  z119 := Tryz.sizeOf366
  t124 := Tryz.underlying345
  a124 := Tryz.isAgg345
  z124 := Tryz.sizeOf345
  v124 := Tryz.zeroValue345
  t138 := Tryz.underlying368
  a138 := Tryz.isAgg368
  z138 := Tryz.sizeOf368
  v138 := Tryz.zeroValue368
  t139 := Tryz.underlying369
  a139 := Tryz.isAgg369
  z139 := Tryz.sizeOf369
  v139 := Tryz.zeroValue369
  g3 := by kernel_rfl
  g4 := by kernel_rfl }
open Go.RowKit in
theorem Tryz.strings_TrimRight_one (s : ByteArray) (c : UInt8) (hc : c.toNat < 128) (w : World) (hs : s.size ≤ 9223372036854775807) :
    Calls Tryz.prog 294 #[.string s, .string ⟨#[c]⟩] w fun e w' => e = .returned (.string ⟨(Lib.trimRightB s.data.toList c).toArray⟩) ∧ w' = w := Any.strings_TrimRight_one Tryz.lays162 s c hc w hs
def Tryz.lays283_ren : Go.Shelf.Ren := ⟨fun | 283 => 343 | n => n, fun | 3 => 3 | 9 => 9 | 4 => 4 | n => n, fun | n => n⟩
theorem Tryz.lays283 : Go.Proofs.Lays.n283 Tryz.prog Tryz.lays283_ren := {
  mixed := by kernel_rfl
  f283 := Tryz.func343.trans (congrArg some (by kernel_rfl))
  t3 := Tryz.underlying3
  a3 := Tryz.isAgg3
  z3 := Tryz.sizeOf3
  v3 := Tryz.zeroValue3
  t4 := Tryz.underlying4
  a4 := Tryz.isAgg4
  z4 := Tryz.sizeOf4
  v4 := Tryz.zeroValue4
  t9 := Tryz.underlying9
  a9 := Tryz.isAgg9
  z9 := Tryz.sizeOf9
  v9 := Tryz.zeroValue9 }
open Go.Lib in
theorem Tryz.internal_strconv_small (i : Nat) (h : i < 100) (w : World) :
    Calls Tryz.prog 343 #[.int .i64 i] w fun e w' => e = .returned (.string ⟨(Lib.decDigits i).toArray⟩) ∧ w' = w := Any.internal_strconv_small Tryz.lays283 i h w
def Tryz.laysM284_ren : Go.Shelf.Ren := ⟨fun | 284 => 344 | 129 => 244 | 317 => 360 | 318 => 361 | n => n, fun | 53 => 85 | 3 => 3 | 212 => 360 | 0 => 0 | 4 => 4 | 46 => 125 | 5 => 5 | 9 => 9 | n => n, fun | 17 => 1 | n => n⟩
theorem Tryz.laysM284 : Go.Proofs.LaysM.n284 Tryz.prog Tryz.laysM284_ren := {
  mixed := by kernel_rfl
  f129 := Tryz.func244.trans (congrArg some (by kernel_rfl))
  f284 := Tryz.func344.trans (congrArg some (by kernel_rfl))
  f317 := Tryz.func360.trans (congrArg some (by kernel_rfl))
  f318 := Tryz.func361.trans (congrArg some (by kernel_rfl))
  t0 := Tryz.underlying0
  a0 := Tryz.isAgg0
  z0 := Tryz.sizeOf0
  v0 := Tryz.zeroValue0
  t3 := Tryz.underlying3
  a3 := Tryz.isAgg3
  z3 := Tryz.sizeOf3
  v3 := Tryz.zeroValue3
  t4 := Tryz.underlying4
  a4 := Tryz.isAgg4
  z4 := Tryz.sizeOf4
  v4 := Tryz.zeroValue4
  t5 := Tryz.underlying5
  a5 := Tryz.isAgg5
  z5 := Tryz.sizeOf5
  v5 := Tryz.zeroValue5
  t9 := Tryz.underlying9
  a9 := Tryz.isAgg9
  z9 := Tryz.sizeOf9
  v9 := Tryz.zeroValue9
  t46 := Tryz.underlying125
  a46 := Tryz.isAgg125
  z46 := Tryz.sizeOf125
  v46 := Tryz.zeroValue125
  t53 := Tryz.underlying85
  a53 := Tryz.isAgg85
  z53 := Tryz.sizeOf85
  v53 := Tryz.zeroValue85
  t212 := Tryz.underlying360
  a212 := Tryz.isAgg360
  z212 := Tryz.sizeOf360
  v212 := Tryz.zeroValue360
  g17 := by kernel_rfl
  i0 := by kernel_rfl
  i3 := by kernel_rfl
  i4 := by kernel_rfl
  i5 := by kernel_rfl
  i9 := by kernel_rfl
  i46 := by kernel_rfl
  i53 := by kernel_rfl
  i212 := by kernel_rfl
  m17 := by kernel_rfl }
open Go.Lib in
theorem Tryz.internal_strconv_numDigits (u : Nat) (h1 : 1 ≤ u) (h2 : u < 18446744073709551616) (w : World) (htab : Lib.TabIs Tryz.prog w "internal/strconv.uint64pow10" .u64 Lib.pow10Tab) :
    Calls Tryz.prog 344 #[.int .u64 u] w fun e w' => e = .returned (.int .i64 (Lib.nDigits u)) ∧ w' = w := Any.internal_strconv_numDigits Tryz.laysM284 u h1 h2 w htab
def Tryz.lays285_ren : Go.Shelf.Ren := ⟨fun | 285 => 345 | n => n, fun | 37 => 30 | 53 => 85 | 3 => 3 | 4 => 4 | 51 => 117 | 9 => 9 | 5 => 5 | 0 => 0 | n => n, fun | n => n⟩
theorem Tryz.lays285 : Go.Proofs.Lays.n285 Tryz.prog Tryz.lays285_ren := {
  mixed := by kernel_rfl
  f285 := Tryz.func345.trans (congrArg some (by kernel_rfl))
  t0 := Tryz.underlying0
  a0 := Tryz.isAgg0
  z0 := Tryz.sizeOf0
  v0 := Tryz.zeroValue0
  t3 := Tryz.underlying3
  a3 := Tryz.isAgg3
  z3 := Tryz.sizeOf3
  v3 := Tryz.zeroValue3
  t4 := Tryz.underlying4
  a4 := Tryz.isAgg4
  z4 := Tryz.sizeOf4
  v4 := Tryz.zeroValue4
  t5 := Tryz.underlying5
  a5 := Tryz.isAgg5
  z5 := Tryz.sizeOf5
  v5 := Tryz.zeroValue5
  t9 := Tryz.underlying9
  a9 := Tryz.isAgg9
  z9 := Tryz.sizeOf9
  v9 := Tryz.zeroValue9
  t37 := Tryz.underlying30
  a37 := Tryz.isAgg30
  z37 := Tryz.sizeOf30
  v37 := Tryz.zeroValue30
  t51 := Tryz.underlying117
  a51 := Tryz.isAgg117
  z51 := Tryz.sizeOf117
  v51 := Tryz.zeroValue117
  t53 := Tryz.underlying85
  a53 := Tryz.isAgg85
  z53 := Tryz.sizeOf85
  v53 := Tryz.zeroValue85 }
open Go.RowKit Go.Sort Go.Lib in
theorem Tryz.internal_strconv_formatBase10 (blk off cap : Nat) (u : Nat) (d : Array UInt8) (w : World) (hH : Holds (fun (b : UInt8) => Value.int .u8 (b.toNat : Int)) w blk off d) (hu : u < 10 ^ d.size) (hu64 : u < 18446744073709551616) (hsz : d.size < 4611686018427387904) :
    Calls Tryz.prog 345 #[.slice (some ⟨blk, off, none⟩) d.size cap, .int .u64 u] w fun e w' =>
      e = .returned (.tuple #[]) ∧ ∃ (n v' : Nat) (dk : Array UInt8), w' = (putRow (fun (b : UInt8) => Value.int .u8 (b.toNat : Int)) w blk off dk).drewN n ∧ FmtInv d.size u 0 v' dk := Any.internal_strconv_formatBase10 Tryz.lays285 blk off cap u d w hH hu hu64 hsz
def Tryz.laysM171_ren : Go.Shelf.Ren := ⟨fun | 171 => 293 | 243 => 325 | 246 => 349 | 283 => 343 | 284 => 344 | 285 => 345 | 286 => 346 | 129 => 244 | 317 => 360 | 318 => 361 | 319 => 362 | 320 => 363 | 337 => 371 | 338 => 372 | n => n, fun | 3 => 3 | 9 => 9 | 2 => 2 | 4 => 4 | 171 => 349 | 0 => 0 | 53 => 85 | 37 => 30 | 5 => 5 | 173 => 351 | 212 => 360 | 51 => 117 | 20 => 20 | 213 => 361 | 46 => 125 | 232 => 376 | 233 => 377 | n => n, fun | 17 => 1 | 18 => 4 | 19 => 5 | n => n⟩
theorem Tryz.laysM171 : Go.Proofs.LaysM.n171 Tryz.prog Tryz.laysM171_ren := {
  mixed := by kernel_rfl
  f129 := Tryz.func244.trans (congrArg some (by kernel_rfl))
  f171 := Tryz.func293.trans (congrArg some (by kernel_rfl))
  f243 := Tryz.func325.trans (congrArg some (by kernel_rfl))
  f246 := Tryz.func349.trans (congrArg some (by kernel_rfl))
  f283 := Tryz.func343.trans (congrArg some (by kernel_rfl))
  f284 := Tryz.func344.trans (congrArg some (by kernel_rfl))
  f285 := Tryz.func345.trans (congrArg some (by kernel_rfl))
  f286 := Tryz.func346.trans (congrArg some (by kernel_rfl))
  f317 := Tryz.func360.trans (congrArg some (by kernel_rfl))
  f318 := Tryz.func361.trans (congrArg some (by kernel_rfl))
  f319 := Tryz.func362.trans (congrArg some (by kernel_rfl))
  f320 := Tryz.func363.trans (congrArg some (by kernel_rfl))
  f337 := Tryz.func371.trans (congrArg some (by kernel_rfl))
  f338 := Tryz.func372.trans (congrArg some (by kernel_rfl))
  t0 := Tryz.underlying0
  a0 := Tryz.isAgg0
  z0 := Tryz.sizeOf0
  v0 := Tryz.zeroValue0
  t2 := Tryz.underlying2
  a2 := Tryz.isAgg2
  z2 := Tryz.sizeOf2
  v2 := Tryz.zeroValue2
  t3 := Tryz.underlying3
  a3 := Tryz.isAgg3
  z3 := Tryz.sizeOf3
  v3 := Tryz.zeroValue3
  t4 := Tryz.underlying4
  a4 := Tryz.isAgg4
  z4 := Tryz.sizeOf4
  v4 := Tryz.zeroValue4
  t5 := Tryz.underlying5
  a5 := Tryz.isAgg5
  z5 := Tryz.sizeOf5
  v5 := Tryz.zeroValue5
  t9 := Tryz.underlying9
  a9 := Tryz.isAgg9
  z9 := Tryz.sizeOf9
  v9 := Tryz.zeroValue9
  t20 := Tryz.underlying20
  a20 := Tryz.isAgg20
  z20 := Tryz.sizeOf20
  v20 := Tryz.zeroValue20
  t37 := Tryz.underlying30
  a37 := Tryz.isAgg30
  z37 := Tryz.sizeOf30
  v37 := Tryz.zeroValue30
  t46 := Tryz.underlying125
  a46 := Tryz.isAgg125
  z46 := Tryz.sizeOf125
  v46 := Tryz.zeroValue125
  t51 := Tryz.underlying117
  a51 := Tryz.isAgg117
  z51 := Tryz.sizeOf117
  v51 := Tryz.zeroValue117
  t53 := Tryz.underlying85
  a53 := Tryz.isAgg85
  z53 := Tryz.sizeOf85
  v53 := Tryz.zeroValue85
  t171 := Tryz.underlying349
  a171 := Tryz.isAgg349
  z171 := Tryz.sizeOf349
  v171 := Tryz.zeroValue349
  t173 := Tryz.underlying351
  a173 := Tryz.isAgg351
  z173 := Tryz.sizeOf351
  v173 := Tryz.zeroValue351
  t212 := Tryz.underlying360
  a212 := Tryz.isAgg360
  z212 := Tryz.sizeOf360
  v212 := Tryz.zeroValue360
  t213 := Tryz.underlying361
  a213 := Tryz.isAgg361
  z213 := Tryz.sizeOf361
  t232 := Tryz.underlying376
  a232 := Tryz.isAgg376
  z232 := Tryz.sizeOf376
  v232 := Tryz.zeroValue376
  t233 := Tryz.underlying377
  a233 := Tryz.isAgg377
  z233 := Tryz.sizeOf377
  v233 := Tryz.zeroValue377
  g17 := by kernel_rfl
  g18 := by kernel_rfl
  g19 := by kernel_rfl
  i0 := by kernel_rfl
  i2 := by kernel_rfl
  i3 := by kernel_rfl
  i4 := by kernel_rfl
  i5 := by kernel_rfl
  i9 := by kernel_rfl
  i20 := by kernel_rfl
  i37 := by kernel_rfl
  i46 := by kernel_rfl
  i51 := by kernel_rfl
  i53 := by kernel_rfl
  i171 := by kernel_rfl
  i173 := by kernel_rfl
  i212 := by kernel_rfl
  i232 := by kernel_rfl
  i233 := by kernel_rfl
  m17 := by kernel_rfl
  m18 := by kernel_rfl
  m19 := by kernel_rfl }
open Go.RowKit Go.Sort Go.Lib in
theorem Tryz.strconv_Itoa (n : Int) (h0 : -9223372036854775808 ≤ n) (h1 : n ≤ 9223372036854775807) (w : World) (htab : Lib.TabIs Tryz.prog w "internal/strconv.uint64pow10" .u64 Lib.pow10Tab) :
    Calls Tryz.prog 293 #[.int .i64 n] w fun e w' => e = .returned (.string ⟨(Lib.itoa n).toArray⟩) ∧ ∃ k os, w' = grow (w.drewN k) os := Any.strconv_Itoa Tryz.laysM171 n h0 h1 w htab
def Tryz.lays217_ren : Go.Shelf.Ren := ⟨fun | 217 => 267 | 266 => 313 | n => n, fun | 9 => 9 | 5 => 5 | 3 => 3 | n => n, fun | n => n⟩
theorem Tryz.lays217 : Go.Proofs.Lays.n217 Tryz.prog Tryz.lays217_ren := {
  mixed := by kernel_rfl
  f217 := Tryz.func267.trans (congrArg some (by kernel_rfl))
  f266 := Tryz.func313.trans (congrArg some (by kernel_rfl))
  t3 := Tryz.underlying3
  a3 := Tryz.isAgg3
  z3 := Tryz.sizeOf3
  v3 := Tryz.zeroValue3
  t5 := Tryz.underlying5
  a5 := Tryz.isAgg5
  z5 := Tryz.sizeOf5
  v5 := Tryz.zeroValue5
  t9 := Tryz.underlying9
  a9 := Tryz.isAgg9
  z9 := Tryz.sizeOf9
  v9 := Tryz.zeroValue9 }
open Go.RowKit Go.Lib in
theorem Tryz.stringslite_IndexByte (s : ByteArray) (c : Int) (w : World) :
    Calls Tryz.prog 267 #[.string s, .int .u8 c] w fun e w' => e = .returned (.int .i64 (Lib.indexByte s.data.toList c.toNat.toUInt8)) ∧ w' = w := Any.stringslite_IndexByte Tryz.lays217 s c w
def Tryz.lays219_ren : Go.Shelf.Ren := ⟨fun | 219 => 330 | 217 => 267 | 225 => 353 | 224 => 354 | 267 => 355 | 266 => 313 | 314 => 367 | n => n, fun | 9 => 9 | 3 => 3 | 4 => 4 | 5 => 5 | 46 => 125 | 146 => 353 | 51 => 117 | n => n, fun | 1 => 0 | n => n⟩
theorem Tryz.lays219 : Go.Proofs.Lays.n219 Tryz.prog Tryz.lays219_ren := {
  mixed := by kernel_rfl
  f217 := Tryz.func267.trans (congrArg some (by kernel_rfl))
  f219 := Tryz.func330.trans (congrArg some (by kernel_rfl))
  f224 := Tryz.func354.trans (congrArg some (by kernel_rfl))
  f225 := Tryz.func353.trans (congrArg some (by kernel_rfl))
  f266 := Tryz.func313.trans (congrArg some (by kernel_rfl))
  f267 := Tryz.func355.trans (congrArg some (by kernel_rfl))
  f314 := Tryz.func367.trans (congrArg some (by kernel_rfl))
  t3 := Tryz.underlying3
  a3 := Tryz.isAgg3
  z3 := Tryz.sizeOf3
  v3 := Tryz.zeroValue3
  t4 := Tryz.underlying4
  a4 := Tryz.isAgg4
  z4 := Tryz.sizeOf4
  v4 := Tryz.zeroValue4
  t5 := Tryz.underlying5
  a5 := Tryz.isAgg5
  z5 := Tryz.sizeOf5
  v5 := Tryz.zeroValue5
  t9 := Tryz.underlying9
  a9 := Tryz.isAgg9
  z9 := Tryz.sizeOf9
  v9 := Tryz.zeroValue9
  t46 := Tryz.underlying125
  a46 := Tryz.isAgg125
  z46 := Tryz.sizeOf125
  v46 := Tryz.zeroValue125
  t51 := Tryz.underlying117
  a51 := Tryz.isAgg117
  z51 := Tryz.sizeOf117
  v51 := Tryz.zeroValue117
  t146 := Tryz.underlying353
  a146 := Tryz.isAgg353
  z146 := Tryz.sizeOf353
  v146 := Tryz.zeroValue353
  g1 := by kernel_rfl }
open Go.RowKit Go.Lib in
theorem Tryz.stringslite_Index_one (s : ByteArray) (c : UInt8) (w : World) :
    Calls Tryz.prog 330 #[.string s, .string ⟨#[c]⟩] w fun e w' => e = .returned (.int .i64 (Lib.indexByte s.data.toList c)) ∧ w' = w := Any.stringslite_Index_one Tryz.lays219 s c w
def Tryz.lays264_ren : Go.Shelf.Ren := ⟨fun | 264 => 176 | n => n, fun | 53 => 85 | 46 => 125 | n => n, fun | n => n⟩
theorem Tryz.lays264 : Go.Proofs.Lays.n264 Tryz.prog Tryz.lays264_ren := {
  mixed := by kernel_rfl
  f264 := Tryz.func176.trans (congrArg some (by kernel_rfl))
  t46 := Tryz.underlying125
  a46 := Tryz.isAgg125
  z46 := Tryz.sizeOf125
  v46 := Tryz.zeroValue125
  t53 := Tryz.underlying85
  a53 := Tryz.isAgg85
  z53 := Tryz.sizeOf85
  v53 := Tryz.zeroValue85 }
open Go.RowKit Go.Lib in
theorem Tryz.bits_Mul64 (x y : Nat) (hx : x < 18446744073709551616) (hy : y < 18446744073709551616) (w : World) :
    Calls Tryz.prog 176 #[.int .u64 x, .int .u64 y] w fun e w' => e = .returned (.tuple #[.int .u64 ((x * y / 18446744073709551616 : Nat) : Int), .int .u64 ((x * y % 18446744073709551616 : Nat) : Int)]) ∧ w' = w := Any.bits_Mul64 Tryz.lays264 x y hx hy w
def Tryz.lays105_ren : Go.Shelf.Ren := ⟨fun | 105 => 292 | 212 => 322 | 99 => 253 | 165 => 323 | 166 => 256 | 170 => 324 | 169 => 260 | 263 => 347 | 264 => 176 | 206 => 299 | 240 => 302 | 241 => 348 | 276 => 336 | 277 => 364 | n => n, fun | 9 => 9 | 3 => 3 | 4 => 4 | 20 => 20 | 0 => 0 | 46 => 125 | 109 => 337 | 5 => 5 | 72 => 277 | 76 => 280 | 51 => 117 | 146 => 353 | 53 => 85 | 148 => 214 | 70 => 275 | 37 => 30 | 75 => 279 | 127 => 322 | 164 => 346 | 80 => 285 | n => n, fun | n => n⟩
theorem Tryz.lays105 : Go.Proofs.Lays.n105 Tryz.prog Tryz.lays105_ren := {
  mixed := by kernel_rfl
  f99 := Tryz.func253.trans (congrArg some (by kernel_rfl))
  f105 := Tryz.func292.trans (congrArg some (by kernel_rfl))
  f165 := Tryz.func323.trans (congrArg some (by kernel_rfl))
  f166 := Tryz.func256.trans (congrArg some (by kernel_rfl))
  f169 := Tryz.func260.trans (congrArg some (by kernel_rfl))
  f170 := Tryz.func324.trans (congrArg some (by kernel_rfl))
  f206 := Tryz.func299.trans (congrArg some (by kernel_rfl))
  f212 := Tryz.func322.trans (congrArg some (by kernel_rfl))
  f240 := Tryz.func302.trans (congrArg some (by kernel_rfl))
  f241 := Tryz.func348.trans (congrArg some (by kernel_rfl))
  f263 := Tryz.func347.trans (congrArg some (by kernel_rfl))
  f264 := Tryz.func176.trans (congrArg some (by kernel_rfl))
  f276 := Tryz.func336.trans (congrArg some (by kernel_rfl))
  f277 := Tryz.func364.trans (congrArg some (by kernel_rfl))
  t0 := Tryz.underlying0
  a0 := Tryz.isAgg0
  z0 := Tryz.sizeOf0
  v0 := Tryz.zeroValue0
  t3 := Tryz.underlying3
  a3 := Tryz.isAgg3
  z3 := Tryz.sizeOf3
  v3 := Tryz.zeroValue3
  t4 := Tryz.underlying4
  a4 := Tryz.isAgg4
  z4 := Tryz.sizeOf4
  v4 := Tryz.zeroValue4
  t5 := Tryz.underlying5
  a5 := Tryz.isAgg5
  z5 := Tryz.sizeOf5
  v5 := Tryz.zeroValue5
  t9 := Tryz.underlying9
  a9 := Tryz.isAgg9
  z9 := Tryz.sizeOf9
  v9 := Tryz.zeroValue9
  t20 := Tryz.underlying20
  a20 := Tryz.isAgg20
  z20 := Tryz.sizeOf20
  v20 := Tryz.zeroValue20
  t37 := Tryz.underlying30
  a37 := Tryz.isAgg30
  z37 := Tryz.sizeOf30
  v37 := Tryz.zeroValue30
  t46 := Tryz.underlying125
  a46 := Tryz.isAgg125
  z46 := Tryz.sizeOf125
  v46 := Tryz.zeroValue125
  t51 := Tryz.underlying117
  a51 := Tryz.isAgg117
  z51 := Tryz.sizeOf117
  v51 := Tryz.zeroValue117
  t53 := Tryz.underlying85
  a53 := Tryz.isAgg85
  z53 := Tryz.sizeOf85
  v53 := Tryz.zeroValue85
  t70 := Tryz.underlying275
  a70 := Tryz.isAgg275
  z70 := Tryz.sizeOf275
  v70 := Tryz.zeroValue275
  t72 := Tryz.underlying277
  a72 := Tryz.isAgg277
  z72 := Tryz.sizeOf277
  v72 := Tryz.zeroValue277
  t75 := Tryz.underlying279
  a75 := Tryz.isAgg279
  z75 := Tryz.sizeOf279
  v75 := Tryz.zeroValue279
  t76 := Tryz.underlying280
  a76 := Tryz.isAgg280
  z76 := Tryz.sizeOf280
  v76 := Tryz.zeroValue280
  t109 := Tryz.underlying337
  a109 := Tryz.isAgg337
  z109 := Tryz.sizeOf337
  v109 := Tryz.zeroValue337
  t127 := Tryz.underlying322
  a127 := Tryz.isAgg322
  z127 := Tryz.sizeOf322
  v127 := Tryz.zeroValue322
  t146 := Tryz.underlying353
  a146 := Tryz.isAgg353
  z146 := Tryz.sizeOf353
  v146 := Tryz.zeroValue353
  t148 := Tryz.underlying214
  a148 := Tryz.isAgg214
  z148 := Tryz.sizeOf214
  v148 := Tryz.zeroValue214
  t164 := Tryz.underlying346
  a164 := Tryz.isAgg346
  z164 := Tryz.sizeOf346
  v164 := Tryz.zeroValue346 }
theorem Tryz.Builder_Extra_105 : Builder.Extra Tryz.prog Tryz.lays105_ren := {
  sizeBuilder := by kernel_rfl
  liesBuilder := by kernel_rfl
  t5 := Tryz.underlying5
  a5 := Tryz.isAgg5
  z5 := Tryz.sizeOf5
  v5 := Tryz.zeroValue5
  infoByte := by kernel_rfl
  cellsByte := by kernel_rfl
  sizeByte := by kernel_rfl
  neB5 := by decide }
open Go.RowKit Go.Lib in
theorem Tryz.strings_Repeat (s : ByteArray) (c : Nat) (w : World) (hc : c ≤ 9223372036854775807) (hlen : s.size * c ≤ 140737488355328) :
    Calls Tryz.prog 292 #[.string s, .int .i64 c] w fun e w' => e = .returned (.string ⟨(Lib.repeatL s.data.toList c).toArray⟩) ∧ Below w.heap.size w w' := Any.strings_Repeat Tryz.lays105 Tryz.Builder_Extra_105 s c w hc hlen
def Tryz.laySort_ren : Go.Shelf.Ren := ⟨fun | 6 => 113 | 15 => 179 | 14 => 178 | 28 => 243 | 29 => 244 | 20 => 235 | 21 => 236 | 22 => 237 | 23 => 238 | 24 => 239 | 25 => 240 | 26 => 241 | 27 => 242 | 46 => 285 | 47 => 286 | 48 => 287 | 49 => 288 | 50 => 289 | 57 => 320 | n => n, fun | 22 => 54 | 24 => 77 | 25 => 151 | 3 => 3 | 39 => 125 | 0 => 0 | 53 => 117 | 55 => 85 | 4 => 4 | 46 => 262 | 45 => 261 | 50 => 224 | 5 => 5 | 9 => 9 | 66 => 306 | 70 => 309 | 76 => 334 | 77 => 335 | n => n, fun | n => n⟩
theorem Tryz.laySort : Go.Proofs.SlLaysF0.n6 Tryz.prog Tryz.laySort_ren := {
  mixed := by kernel_rfl
  f6 := ⟨Tryz.f113.name, by decide, Tryz.func113.trans (congrArg some (by kernel_rfl))⟩
  f14 := ⟨Tryz.f178.name, by decide, Tryz.func178.trans (congrArg some (by kernel_rfl))⟩
  f15 := Tryz.func179.trans (congrArg some (by kernel_rfl))
  f20 := ⟨Tryz.f235.name, by decide, Tryz.func235.trans (congrArg some (by kernel_rfl))⟩
  f21 := ⟨Tryz.f236.name, by decide, Tryz.func236.trans (congrArg some (by kernel_rfl))⟩
  f22 := ⟨Tryz.f237.name, by decide, Tryz.func237.trans (congrArg some (by kernel_rfl))⟩
  f23 := ⟨Tryz.f238.name, by decide, Tryz.func238.trans (congrArg some (by kernel_rfl))⟩
  f24 := ⟨Tryz.f239.name, by decide, Tryz.func239.trans (congrArg some (by kernel_rfl))⟩
  f25 := ⟨Tryz.f240.name, by decide, Tryz.func240.trans (congrArg some (by kernel_rfl))⟩
  f26 := ⟨Tryz.f241.name, by decide, Tryz.func241.trans (congrArg some (by kernel_rfl))⟩
  f27 := ⟨Tryz.f242.name, by decide, Tryz.func242.trans (congrArg some (by kernel_rfl))⟩
  f28 := Tryz.func243.trans (congrArg some (by kernel_rfl))
  f29 := Tryz.func244.trans (congrArg some (by kernel_rfl))
  f46 := ⟨Tryz.f285.name, by decide, Tryz.func285.trans (congrArg some (by kernel_rfl))⟩
  f47 := Tryz.func286.trans (congrArg some (by kernel_rfl))
  f48 := Tryz.func287.trans (congrArg some (by kernel_rfl))
  f49 := ⟨Tryz.f288.name, by decide, Tryz.func288.trans (congrArg some (by kernel_rfl))⟩
  f50 := ⟨Tryz.f289.name, by decide, Tryz.func289.trans (congrArg some (by kernel_rfl))⟩
  f57 := ⟨Tryz.f320.name, by decide, Tryz.func320.trans (congrArg some (by kernel_rfl))⟩
  t0 := Tryz.underlying0
  a0 := Tryz.isAgg0
  z0 := Tryz.sizeOf0
  v0 := Tryz.zeroValue0
  t3 := Tryz.underlying3
  a3 := Tryz.isAgg3
  z3 := Tryz.sizeOf3
  v3 := Tryz.zeroValue3
  t4 := Tryz.underlying4
  a4 := Tryz.isAgg4
  z4 := Tryz.sizeOf4
  v4 := Tryz.zeroValue4
  t5 := Tryz.underlying5
  a5 := Tryz.isAgg5
  z5 := Tryz.sizeOf5
  v5 := Tryz.zeroValue5
  t9 := Tryz.underlying9
  a9 := Tryz.isAgg9
  z9 := Tryz.sizeOf9
  v9 := Tryz.zeroValue9
  t22 := Tryz.underlying54
  a22 := Tryz.isAgg54
  z22 := Tryz.sizeOf54
  v22 := Tryz.zeroValue54
  t25 := Tryz.underlying151
  a25 := Tryz.isAgg151
  z25 := Tryz.sizeOf151
  v25 := Tryz.zeroValue151
  t39 := Tryz.underlying125
  a39 := Tryz.isAgg125
  z39 := Tryz.sizeOf125
  v39 := Tryz.zeroValue125
  t45 := Tryz.underlying261
  a45 := Tryz.isAgg261
  z45 := Tryz.sizeOf261
  v45 := Tryz.zeroValue261
  t46 := Tryz.underlying262
  a46 := Tryz.isAgg262
  z46 := Tryz.sizeOf262
  v46 := Tryz.zeroValue262
  t50 := Tryz.underlying224
  a50 := Tryz.isAgg224
  z50 := Tryz.sizeOf224
  v50 := Tryz.zeroValue224
  t53 := Tryz.underlying117
  a53 := Tryz.isAgg117
  z53 := Tryz.sizeOf117
  v53 := Tryz.zeroValue117
  t55 := Tryz.underlying85
  a55 := Tryz.isAgg85
  z55 := Tryz.sizeOf85
  v55 := Tryz.zeroValue85
  t66 := Tryz.underlying306
  a66 := Tryz.isAgg306
  z66 := Tryz.sizeOf306
  v66 := Tryz.zeroValue306
  t70 := Tryz.underlying309
  a70 := Tryz.isAgg309
  z70 := Tryz.sizeOf309
  v70 := Tryz.zeroValue309
  t76 := Tryz.underlying334
  a76 := Tryz.isAgg334
  z76 := Tryz.sizeOf334
  v76 := Tryz.zeroValue334
  t77 := Tryz.underlying335
  a77 := Tryz.isAgg335
  z77 := Tryz.sizeOf335
  v77 := Tryz.zeroValue335 }
end Go.Proofs
set_option linter.unusedVariables false
set_option linter.unusedSimpArgs false
namespace Go.Proofs
open Go.RowKit Go.Sort Go.Lib
set_option maxHeartbeats 6400000 in
set_option maxRecDepth 100000 in
theorem Tryz.internal_strconv_FormatUint_10 (u : Nat) (hu64 : u < 18446744073709551616) (w : World) (htab : Lib.TabIs Tryz.prog w "internal/strconv.uint64pow10" .u64 Lib.pow10Tab) :
    Calls Tryz.prog 321 #[.int .u64 u, .int .i64 10] w fun e w' => e = .returned (.string ⟨(Lib.decDigits u).toArray⟩) ∧ ∃ k os, w' = grow (w.drewN k) os := by
  have mixed : Tryz.prog.follows .mixedOrders := by kernel_rfl
  have e283 : ∀ args w, (callFunc 343 args).run Tryz.prog w = .ok (.enter 343 args) w := enters_of Tryz.func343 (by kernel_rfl) rfl
  have e284 : ∀ args w, (callFunc 344 args).run Tryz.prog w = .ok (.enter 344 args) w := enters_of Tryz.func344 (by kernel_rfl) rfl
  have e285 : ∀ args w, (callFunc 345 args).run Tryz.prog w = .ok (.enter 345 args) w := enters_of Tryz.func345 (by kernel_rfl) rfl
  by_cases hs : u < 100
  · have hcv : IntKind.wrap .i64 (u : Int) = u := by rw [IntKind.wrap_i64]; omega
    go_enter Tryz.func321, Tryz.ntmps321
    go_wp2_with (go_at_fn 343; refine (Tryz.internal_strconv_small u hs _).mono ?_; rintro e w' ⟨rfl, rfl⟩)
    go_ret
    exact ⟨rfl, 0, #[], by simp [World.drewN_zero]⟩
  · have hu1 : 1 ≤ u := by omega
    have hnd20 : Lib.nDigits u ≤ 20 := by have := Lib.numDigits_eq u hu1 hu64; split at this <;> omega
    have hb3 : Lib.nDigits u ≤ 24 := by omega
    have hal : Tryz.prog.arrayLen 349 = 24 := by simp [Program.arrayLen, Tryz.underlying349]
    have hsl1 : ∀ W, (Instr.sliceAt 349 (.pointer (some ⟨w.heap.size, 0, none⟩)) none (some (.int .i64 (Lib.nDigits u : Int))) none).run Tryz.prog W = .ok (.slice (some ⟨w.heap.size, 0, none⟩) (Lib.nDigits u) 24) W := fun W => by
      rw [run_sliceAt_array_h W 349 ⟨w.heap.size, 0, none⟩ (by simp [Program.arrayLen, Program.elem, Tryz.underlying349]) .i64 (Lib.nDigits u : Int) (by omega) (by rw [hal]; omega)]
      go_simp
      all_goals omega
    have hH0 := Lib.holds_zero0 w 349 (Lib.nDigits u) (by omega)
    have hfmt := Tryz.internal_strconv_formatBase10 w.heap.size 0 24 u (Array.replicate (Lib.nDigits u) 0) (w.alloc (.cells Lib.zeros24 349)) hH0 (by rw [Array.size_replicate]; exact Lib.lt_pow_nDigits u) hu64 (by rw [Array.size_replicate]; omega)
    rw [Array.size_replicate] at hfmt
    have HH0 := Lib.hid hH0
    clear hH0 hal
    go_enter Tryz.func321, Tryz.ntmps321
    go_wp2_with (first
      | (go_at_fn 344; refine (Tryz.internal_strconv_numDigits u hu1 hu64 _ (Lib.tabIs_alloc htab _)).mono ?_; rintro e w' ⟨rfl, rfl⟩))
    go_at_fn 345
    refine hfmt.mono ?_
    rintro e w' ⟨rfl, k, v', dk, rfl, hF⟩
    have hcv : (convert 30 9 (.slice (some ⟨w.heap.size, 0, none⟩) (Lib.nDigits u) 24)).run Tryz.prog ((putRow (fun (b : UInt8) => Value.int .u8 (b.toNat : Int)) (w.alloc (.cells Lib.zeros24 349)) w.heap.size 0 dk).drewN k) = .ok (.string ⟨(Lib.decDigits u).toArray⟩) ((putRow (fun (b : UInt8) => Value.int .u8 (b.toNat : Int)) (w.alloc (.cells Lib.zeros24 349)) w.heap.size 0 dk).drewN k) := by
      have h := run_convert_bytes_back (P := Tryz.prog) ((putRow (fun (b : UInt8) => Value.int .u8 (b.toNat : Int)) (w.alloc (.cells Lib.zeros24 349)) w.heap.size 0 dk).drewN k) 30 9 5 ⟨w.heap.size, 0, none⟩ 24 (Lib.decDigits u) Tryz.underlying30 Tryz.underlying5 Tryz.underlying9 (fun j hj => by
        rw [Lib.row_is_numeral hF j hj, Lib.add_plain, World.cell?_drewN]
        exact cell?_putRow (fun (b : UInt8) => Value.int .u8 (b.toNat : Int)) _ w.heap.size 0 _ dk HH0.out (by rw [hF.size, Array.size_replicate]) j (by rw [hF.size]; rw [Lib.decDigits_length] at hj; exact hj))
      rw [Lib.decDigits_length] at h
      exact h
    go_wp2
    go_ret
    obtain ⟨os, eo⟩ := Lib.fin_at w (.cells Lib.zeros24 349) dk k 0
    exact ⟨rfl, k, os, eo⟩
set_option maxRecDepth 100000 in
theorem Tryz.strconv_FormatUint_10 (u : Nat) (hu64 : u < 18446744073709551616) (w : World) (htab : Lib.TabIs Tryz.prog w "internal/strconv.uint64pow10" .u64 Lib.pow10Tab) :
    Calls Tryz.prog 291 #[.int .u64 u, .int .i64 10] w fun e w' => e = .returned (.string ⟨(Lib.decDigits u).toArray⟩) ∧ ∃ k os, w' = grow (w.drewN k) os := by
  have e51 : ∀ args w, (callFunc 321 args).run Tryz.prog w = .ok (.enter 321 args) w := enters_of Tryz.func321 (by kernel_rfl) rfl
  go_enter Tryz.func291, Tryz.ntmps291
  go_wp2_with (go_at_fn 321; refine (Tryz.internal_strconv_FormatUint_10 u hu64 _ htab).mono ?_; rintro e w' ⟨rfl, k, os, rfl⟩)
  go_ret
  exact ⟨rfl, k, os, rfl⟩
end Go.Proofs
set_option linter.unusedVariables false
set_option linter.unusedSimpArgs false
namespace Go.AM
open Go.Proofs Go.RowKit
set_option maxHeartbeats 2000000 in
set_option maxRecDepth 100000 in
theorem copyCheck_used (b : Nat) (w : World) (h0 : w.cell? ⟨b, 0, none⟩ = some (.pointer (some ⟨b, 0, none⟩))) :
    Calls Tryz.prog 302 #[.pointer (some ⟨b, 0, none⟩)] w fun e w' => e = .returned (.tuple #[]) ∧ w' = w := by
  have mixed : Tryz.prog.follows .mixedOrders = true := by kernel_rfl
  obtain ⟨j, hj, _⟩ := Option.map_eq_some_iff.1 (show (Tryz.prog.info? 277).map (·.size) = some 2 by kernel_rfl)
  go_enter Tryz.func302, Tryz.ntmps302
  go_wp2
  rw [Lib.run_neq_ptr_same w _ Tryz.underlying275 hj]
  go_wp2
  go_end0
  exact ⟨rfl, rfl⟩
set_option maxHeartbeats 2000000 in
set_option maxRecDepth 100000 in
theorem copyCheck_fresh (b : Nat) (w : World) (h0 : w.cell? ⟨b, 0, none⟩ = some (.pointer none)) (hsh : w.shape? b = some (277, 2)) (hfz : w.frozen? ⟨b, 0, none⟩ = false) :
    Calls Tryz.prog 302 #[.pointer (some ⟨b, 0, none⟩)] w fun e w' => e = .returned (.tuple #[]) ∧ w' = w.setCell ⟨b, 0, none⟩ (.pointer (some ⟨b, 0, none⟩)) := by
  have mixed : Tryz.prog.follows .mixedOrders = true := by kernel_rfl
  obtain ⟨j, hj, hjs⟩ := Option.map_eq_some_iff.1 (show (Tryz.prog.info? 277).map (·.size) = some 2 by kernel_rfl)
  go_enter Tryz.func302, Tryz.ntmps302
  go_wp2
  rw [Lib.run_to_unsafe w ⟨b, 0, none⟩ Tryz.underlying275 Tryz.underlying346 hj (by rw [hjs]; decide) hsh (Nat.zero_lt_succ 1)]
  simp only [Result.andThen]
  rw [Oper.upon_value]
  go_wp2
  rw [run_callFunc_extern Tryz.func336 (by kernel_rfl) (by kernel_rfl) (by kernel_rfl) (e := Extern.AbiNoEscape.same) (by kernel_rfl)]
  rw [Lib.run_noEscape]
  simp only [Result.andThen]
  rw [Oper.upon_value]
  go_wp2
  rw [Lib.run_from_unsafe w ⟨b, 0, none⟩ Tryz.underlying346 Tryz.underlying275 hj hsh (by kernel_rfl)]
  simp only [Result.andThen]
  rw [Oper.upon_value]
  go_wp2
  go_end0
  exact ⟨rfl, rfl⟩
theorem copyCheck_ok : PrOK Tryz.prog (fun _ => True) 302 (.bcheck 277) := by
  intro w b vs _ hh hsz h0
  have he : Enters Tryz.prog 302 := enters Tryz.func302 (by kernel_rfl) (by decide)
  rcases h0 with h0 | h0
  · refine goes_of he ((copyCheck_fresh b w (by rw [Lib.cell_of_heap hh]; exact h0) (by simp [World.shape?, hh, hsz]) (by simp [World.frozen?, hh])).mono ?_)
    rintro e w' ⟨rfl, rfl⟩
    refine ⟨_, rfl, rfl, .inr ⟨?_, ?_⟩⟩
    · refine ⟨rfl, rfl, rfl, by simp [World.setCell], fun k _ hk => ?_⟩
      exact Below.heap_setCell _ _ _ _ (fun e => hk (by simp [e]))
    · simp [World.setCell, Array.getElem?_modify, hh]
  · refine goes_of he ((copyCheck_used b w (by rw [Lib.cell_of_heap hh]; exact h0)).mono ?_)
    rintro e w' ⟨rfl, rfl⟩
    exact ⟨_, rfl, rfl, .inl rfl⟩
set_option maxHeartbeats 2000000 in
set_option maxRecDepth 100000 in
theorem bString (b g cap : Nat) (p : Value) (cur : Array Value) (l : List UInt8) (w : World) (h0 : l ≠ []) (hl : l.length ≤ strMax) (hbk : w.heap[b]? = some (.cells #[p, .slice (some ⟨g, 0, none⟩) l.length cap] 277 (0, 0)))
    (hg : w.heap[g]? = some (.cells cur 5 (0, 0))) (hnc : l.length ≤ cap) (hcs : cur.size = cap) (htake : cur.toList.take l.length = Lib.byteCells l) :
    Calls Tryz.prog 260 #[.pointer (some ⟨b, 0, none⟩)] w fun e w' => e = .returned (.string ⟨l.toArray⟩) ∧ w' = w.drew.freeze ⟨g, 0, none⟩ l.length := by
  have mixed : Tryz.prog.follows .mixedOrders = true := by kernel_rfl
  have hl0 : l.length ≠ 0 := by simpa using h0
  have c1 : w.drew.cell? ⟨b, 1, none⟩ = some (.slice (some ⟨g, 0, none⟩) l.length cap) := by
    have : w.drew.heap[b]? = some (.cells #[p, .slice (some ⟨g, 0, none⟩) l.length cap] 277 (0, 0)) := hbk
    rw [Lib.cell_of_heap this]; rfl
  have hSD : (Builtin.unsafeSliceData_ #[30] 322 #[.slice (some ⟨g, 0, none⟩) l.length cap]).run Tryz.prog w.drew = .ok (.pointer (some ⟨g, 0, none⟩)) w.drew :=
    Lib.run_unsafeSliceData_row _ _ _ _ _ _ (by omega)
  have hUS : (Builtin.unsafeString_ #[322, 3] 9 #[.pointer (some ⟨g, 0, none⟩), .int .i64 l.length]).run Tryz.prog w.drew = .ok (.string ⟨l.toArray⟩) (w.drew.freeze ⟨g, 0, none⟩ l.length) := by
    refine Lib.run_unsafeString_row w.drew 322 3 9 5 Tryz.underlying322 (by kernel_rfl) g cur.size (by have hg' : w.drew.heap[g]? = some (.cells cur 5 (0, 0)) := hg; simp [World.shape?, hg']) l h0 (by omega) (by rw [strMax] at hl; omega) ?_
    intro j x hx
    have hg' : w.drew.heap[g]? = some (.cells cur 5 (0, 0)) := hg
    have hj := (List.getElem?_eq_some_iff.1 hx).1
    rw [show (⟨g, 0, none⟩ : Addr).add j = ⟨g, j, none⟩ from by by_cases hj0 : j = 0 <;> simp [Addr.add, hj0], Lib.cell_of_heap hg', ← Array.getElem?_toList]
    have e := congrArg (fun q => q[j]?) htake
    simp only [List.getElem?_take, hj, if_true, Lib.byteCells, List.getElem?_map, hx, Option.map_some] at e
    simpa using e
  go_enter Tryz.func260, Tryz.ntmps260
  go_wp2
  go_region_o
  all_goals (go_wp2; go_ret; exact ⟨rfl, rfl⟩)
theorem freeze_heap (w : World) (g n : Nat) (k : Nat) (hk : k ≠ g) : (w.freeze ⟨g, 0, none⟩ n).heap[k]? = w.heap[k]? := by
  unfold World.freeze
  split
  · rfl
  · simp [Array.getElem?_modify, Ne.symm hk]
theorem freeze_cell (w : World) (g n o : Nat) : (w.freeze ⟨g, 0, none⟩ n).cell? ⟨g, o, none⟩ = w.cell? ⟨g, o, none⟩ := by
  unfold World.freeze
  split
  · rfl
  · simp only [World.cell?, Array.getElem?_modify, if_true]
    cases w.heap[g]? with
    | none => rfl
    | some ob => cases ob <;> rfl
theorem freeze_size (w : World) (g n : Nat) : (w.freeze ⟨g, 0, none⟩ n).heap.size = w.heap.size ∧ (w.freeze ⟨g, 0, none⟩ n).os = w.os ∧ (w.freeze ⟨g, 0, none⟩ n).tape = w.tape ∧ (w.freeze ⟨g, 0, none⟩ n).output = w.output := by
  unfold World.freeze
  split <;> simp
theorem bString_ok : PrOK Tryz.prog (fun _ => True) 260 (.bstring 277 5) := by
  intro w b q cap vs cur l _ hne hl hh hsz h1 hq hlc hcs ht
  have he : Enters Tryz.prog 260 := enters Tryz.func260 (by kernel_rfl) (by decide)
  obtain ⟨p, hvs⟩ : ∃ p, vs = #[p, .slice (some ⟨q, 0, none⟩) l.length cap] := by
    refine ⟨vs[0]'(by omega), ?_⟩
    apply Array.ext
    · simp [hsz]
    · intro i hi1 hi2
      match i, hi1 with
      | 0, _ => rfl
      | 1, _ =>
        have := (Array.getElem?_eq_some_iff.1 h1).2
        simpa using this
      | i + 2, h => omega
  subst hvs
  refine goes_of he ((bString b q cap p cur l w hne hl hh hq hlc hcs ht).mono ?_)
  rintro e w' ⟨rfl, rfl⟩
  obtain ⟨f1, f2, f3, f4⟩ := freeze_size w.drew q l.length
  refine ⟨_, rfl, rfl, ⟨f2, f3, f4, by rw [f1]; exact Nat.le_refl _, fun k _ hk => freeze_heap w.drew q l.length k (fun e => hk (by rw [e]))⟩, fun o => freeze_cell w.drew q l.length o⟩
end Go.AM
set_option linter.unusedVariables false
set_option linter.unusedSimpArgs false
namespace Go.Proofs
open Go.Shelf Go.RowKit Go.Sort
set_option maxHeartbeats 1000000 in
theorem Tryz.isNaN_str (s : ByteArray) (w : World) : Calls Tryz.prog 180 #[.string s] w fun e w' => e = .returned (.bool false) ∧ w' = w := by
  have mixed : Tryz.prog.follows .mixedOrders := by kernel_rfl
  go_enter Tryz.func180, Tryz.ntmps180
  go_wp2
  go_ret
  exact ⟨rfl, rfl⟩
theorem Tryz.gtr_str (x y : ByteArray) (w : World) : (Go.binOp .gtr 9 (.string x) (.string y)).run Tryz.prog w = .ok (.bool (!(Op.bytesLess x.toList y.toList || x.toList == y.toList))) w := by simp [Go.binOp, Op.stringOp]
set_option maxHeartbeats 2000000 in
theorem Tryz.compare_str (x y : ByteArray) (w : World) : Calls Tryz.prog 116 #[.string x, .string y] w fun e w' => e = .returned (.int .i64 (if Op.bytesLess x.toList y.toList then -1 else if Op.bytesLess x.toList y.toList || x.toList == y.toList then 0 else 1)) ∧ w' = w := by
  have mixed : Tryz.prog.follows .mixedOrders := by kernel_rfl
  go_enter Tryz.func116, Tryz.ntmps116
  go_wp2_with (go_at_call 180; refine (Tryz.isNaN_str _ _).mono ?_; rintro e w' ⟨rfl, rfl⟩)
  all_goals try (
    rw [Tryz.gtr_str]
    simp only [Result.andThen]
    rw [Oper.upon_value]
    generalize hq : (Op.bytesLess x.toList y.toList || x.toList == y.toList) = q
    cases q
    all_goals (simp only [Bool.not_true, Bool.not_false]; go_wp2))
  all_goals (go_ret; refine ⟨?_, rfl⟩; simp_all)
set_option maxHeartbeats 4000000 in
theorem Tryz.or_ints (b : Nat) (p q : Int) (w : World) (h0 : w.cell? ⟨b, 0, none⟩ = some (.int .i64 p)) (h1 : w.cell? ⟨b, 1, none⟩ = some (.int .i64 q)) : Calls Tryz.prog 115 #[.slice (some ⟨b, 0, none⟩) 2 2] w fun e w' => e = .returned (.int .i64 (if p = 0 then q else p)) ∧ w' = w := by
  have mixed : Tryz.prog.follows .mixedOrders := by kernel_rfl
  go_enter Tryz.func115, Tryz.ntmps115
  go_wp2
  refine wp_loop_rounds 3 ?_
  rw [rounds_succ]
  by_cases hp : p = 0
  · subst hp
    go_wp2
    rw [rounds_succ]
    by_cases hq : q = 0
    · subst hq
      go_wp2
      rw [rounds_succ]
      go_wp2
      go_ret
      exact ⟨rfl, rfl⟩
    · go_wp2
      all_goals first | (go_ret; refine ⟨?_, rfl⟩; simp_all) | (exfalso; simp_all)
  · go_wp2
    all_goals first | (go_ret; refine ⟨?_, rfl⟩; simp_all) | (exfalso; simp_all)
set_option maxHeartbeats 8000000 in
set_option maxRecDepth 100000 in
theorem Tryz.cmpTag (x y : AM.TagD) (w : World) : Calls Tryz.prog 114 #[.agg (AM.encT x).toArray, .agg (AM.encT y).toArray] w fun e w' => e = .returned (.int .i64 (AM.cmpL x y)) ∧ ∃ q os, w' = grow (w.drewN q) os := by
  have mixed : Tryz.prog.follows .mixedOrders := by kernel_rfl
  obtain ⟨k1, v1⟩ := x
  obtain ⟨k2, v2⟩ := y
  show Calls Tryz.prog 114 #[.agg #[.string ⟨k1.toArray⟩, .string ⟨v1.toArray⟩], .agg #[.string ⟨k2.toArray⟩, .string ⟨v2.toArray⟩]] w _
  have hb : ∀ l : List UInt8, (⟨l.toArray⟩ : ByteArray).toList = l := fun l => by rw [AM.ba_toList]
  have c1 : ∀ W, Calls Tryz.prog 116 #[.string ⟨k1.toArray⟩, .string ⟨k2.toArray⟩] W fun e w' => e = .returned (.int .i64 (AM.cmpS k1 k2)) ∧ w' = W := fun W => by
    have h := Tryz.compare_str ⟨k1.toArray⟩ ⟨k2.toArray⟩ W
    simp only [hb] at h
    exact h
  have c2 : ∀ W, Calls Tryz.prog 116 #[.string ⟨v1.toArray⟩, .string ⟨v2.toArray⟩] W fun e w' => e = .returned (.int .i64 (AM.cmpS v1 v2)) ∧ w' = W := fun W => by
    have h := Tryz.compare_str ⟨v1.toArray⟩ ⟨v2.toArray⟩ W
    simp only [hb] at h
    exact h
  unfold AM.cmpL
  simp only
  clear hb
  generalize AM.cmpS k1 k2 = r1 at c1 ⊢
  generalize AM.cmpS v1 v2 = r2 at c2 ⊢
  generalize (⟨k1.toArray⟩ : ByteArray) = k1 at c1 ⊢
  generalize (⟨k2.toArray⟩ : ByteArray) = k2 at c1 ⊢
  generalize (⟨v1.toArray⟩ : ByteArray) = v1 at c2 ⊢
  generalize (⟨v2.toArray⟩ : ByteArray) = v2 at c2 ⊢
  have c3 : ∀ (W : World) (b : Nat), W.heap.size = b → Calls Tryz.prog 115 #[.slice (some ⟨b, 0, none⟩) 2 2] (W.alloc (.cells #[.int .i64 r1, .int .i64 r2] 3)).drew fun e w' => e = .returned (.int .i64 (if r1 = 0 then r2 else r1)) ∧ w' = (W.alloc (.cells #[.int .i64 r1, .int .i64 r2] 3)).drew := by
    rintro W b rfl
    have hh : (W.alloc (.cells #[.int .i64 r1, .int .i64 r2] 3)).drew.heap[W.heap.size]? = some (.cells #[.int .i64 r1, .int .i64 r2] 3 (0, 0)) := World.alloc_heap_new W _
    exact Tryz.or_ints _ r1 r2 _ (by rw [Lib.cell_of_heap hh]; rfl) (by rw [Lib.cell_of_heap hh]; rfl)
  generalize (if r1 = 0 then r2 else r1) = rr at c3 ⊢
  go_enter Tryz.func114, Tryz.ntmps114
  go_wp2
  go_region_held2 (fun W => W.cell? ⟨w.heap.size, 0, none⟩ = some (.string k1) ∧ W.cell? ⟨w.heap.size, 1, none⟩ = some (.string v1) ∧ W.cell? ⟨w.heap.size + 1, 0, none⟩ = some (.string k2) ∧ W.cell? ⟨w.heap.size + 1, 1, none⟩ = some (.string v2)) (go_keep) (first
    | (go_at_call_of 116 (Value.string k1); refine (c1 _).mono ?_; rintro e w' ⟨rfl, rfl⟩)
    | (go_at_call_of 116 (Value.string v1); refine (c2 _).mono ?_; rintro e w' ⟨rfl, rfl⟩)
    | (go_at_call 115; refine (c3 _ _ (by simp)).mono ?_; rintro e w' ⟨rfl, rfl⟩))
  go_wp2
  go_ret
  exact ⟨rfl, 1, _, by rw [alloc_eq_grow, alloc_eq_grow, alloc_eq_grow, grow_grow, grow_grow]; rfl⟩
set_option maxHeartbeats 4000000 in
set_option maxRecDepth 100000 in
theorem Tryz.sort_none (A : Option Addr) (w : World) : Calls Tryz.prog 113 #[.slice A 0 0, .func (.func 114) #[] #[]] w fun e w' => e = .returned (.tuple #[]) ∧ w.grownBy w' none := by
  have mixed : Tryz.prog.follows .mixedOrders := by kernel_rfl
  go_enter Tryz.func113, Tryz.ntmps113
  go_wp2
  refine wp_loop_rounds 1 ?_
  rw [rounds_succ]
  go_wp2
  refine wp_loop_rounds 1 ?_
  rw [rounds_succ]
  go_wp2
  go_end0
  all_goals try simp only []
  go_wp2
  try simp only [Exit.inBlock, Exit.then]
  refine bodyPost_ret (results_none rfl _ _ _) rfl ?_
  try simp only []
  go_at_K
  go_wp2
  go_end0
  exact ⟨rfl, ⟨rfl, rfl, rfl, Nat.le_refl _, fun _ _ _ => rfl⟩⟩
theorem sortTags_ok : AM.PrOK Tryz.prog (fun _ => True) 113 (.sort AM.TyTag 114 AM.sortTags) := by
  refine AM.sort_ok (AM.enters Tryz.func113 (by kernel_rfl) (by decide)) (fun q cap d w hH hq hd => ?_) Tryz.sort_none
  have eg : ∀ args w, (callFunc 114 args).run Tryz.prog w = .ok (.enter 114 args) w := enters_of Tryz.func114 (by kernel_rfl) rfl
  exact AnyQ.slices_SortFunc Tryz.laySort 2 Tryz.isAgg77 Tryz.sizeOf77 AM.encT (fun _ => rfl) (fun x v hv => by simp [AM.encT] at hv; rcases hv with rfl | rfl <;> rfl) AM.cmpL AM.swoT 114 #[] q 0 cap d w eg (fun _ _ _ _ x y => Tryz.cmpTag x y _) hH hq hd
end Go.Proofs
set_option linter.unusedVariables false
set_option linter.unusedSimpArgs false
namespace Go.AM
open Go.Proofs Go.RowKit
set_option maxHeartbeats 6400000 in
set_option maxRecDepth 100000 in
theorem fm_call (w : World) : Calls Tryz.prog 37 #[] w fun e w' => e = .returned (.map (some w.heap.size)) ∧ w' = w.alloc (.map (fmEnts [(1, 62), (2, 63), (3, 64), (4, 63)]) 4) := by
  have mixed : Tryz.prog.follows .mixedOrders := by kernel_rfl
  have h0 : (Instr.makeMap 68 none).run Tryz.prog w = .ok (.map (some w.heap.size)) (w.alloc (.map #[] 0)) := rfl
  have up := fun es c key v h => mapUpdate_int (P := Tryz.prog) (t := 68) (k := 3) (e := 66) Tryz.underlying68 Tryz.underlying3 w es c key v h
  have h1 := up #[] 0 1 (.func (.func 62) #[] #[]) (by simp)
  have h2 := up #[⟨.int .i64 1, .func (.func 62) #[] #[], 0⟩] 1 2 (.func (.func 63) #[] #[]) (by simp)
  have h3 := up #[⟨.int .i64 1, .func (.func 62) #[] #[], 0⟩, ⟨.int .i64 2, .func (.func 63) #[] #[], 1⟩] 2 3 (.func (.func 64) #[] #[]) (by simp)
  have h4 := up #[⟨.int .i64 1, .func (.func 62) #[] #[], 0⟩, ⟨.int .i64 2, .func (.func 63) #[] #[], 1⟩, ⟨.int .i64 3, .func (.func 64) #[] #[], 2⟩] 3 4 (.func (.func 63) #[] #[]) (by simp)
  clear up
  simp only [List.push_toArray, List.nil_append, List.cons_append] at h1 h2 h3 h4
  go_enter Tryz.func37, Tryz.ntmps37
  go_wp2
  go_ret
  exact ⟨rfl, rfl⟩
theorem fmts_ok : PrOK Tryz.prog (fun _ => True) 37 (.fmts [(1, 62), (2, 63), (3, 64), (4, 63)]) := fun w _ =>
  goes_of (enters Tryz.func37 (by kernel_rfl) (by decide)) ((fm_call w).mono fun e w' ⟨h1, h2⟩ => ⟨_, h1, rfl, 4, h2⟩)
end Go.AM
set_option linter.unusedVariables false
set_option linter.unusedSimpArgs false
namespace Go.Proofs
open Go.RowKit Go.AM
set_option maxHeartbeats 6400000 in
set_option maxRecDepth 100000 in
theorem Tryz.words_call (w : World) : Calls Tryz.prog 290 #[] w fun e w' => e = .returned (.map (some w.heap.size)) ∧ w' = w.alloc (.map wordsMap 4) := by
  have mixed : Tryz.prog.follows .mixedOrders := by kernel_rfl
  have h0 : (Instr.makeMap 311 none).run Tryz.prog w = .ok (.map (some w.heap.size)) (w.alloc (.map #[] 0)) := rfl
  have up := fun es c key v h => mapUpdate_int (P := Tryz.prog) (t := 311) (k := 3) (e := 9) Tryz.underlying311 Tryz.underlying3 w es c key v h
  have h1 := up #[] 0 1 (.string ⟨#[99]⟩) (by simp)
  have h2 := up #[⟨.int .i64 1, .string ⟨#[99]⟩, 0⟩] 1 2 (.string ⟨#[103]⟩) (by simp)
  have h3 := up #[⟨.int .i64 1, .string ⟨#[99]⟩, 0⟩, ⟨.int .i64 2, .string ⟨#[103]⟩, 1⟩] 2 3 (.string ⟨#[109, 115]⟩) (by simp)
  have h4 := up #[⟨.int .i64 1, .string ⟨#[99]⟩, 0⟩, ⟨.int .i64 2, .string ⟨#[103]⟩, 1⟩, ⟨.int .i64 3, .string ⟨#[109, 115]⟩, 2⟩] 3 4 (.string ⟨#[104]⟩) (by simp)
  clear up
  simp only [List.push_toArray, List.nil_append, List.cons_append] at h1 h2 h3 h4
  go_enter Tryz.func290, Tryz.ntmps290
  go_wp2
  go_ret
  exact ⟨rfl, rfl⟩
set_option maxHeartbeats 6400000 in
set_option maxRecDepth 100000 in
theorem Tryz.statsd_Word (k : Int) (w : World) : Calls Tryz.prog 245 #[.int .i64 k] w fun e w' => e = .returned (.tuple #[.string ⟨(wordL k).toArray⟩, .int .i64 (wordE k)]) ∧ Below w.heap.size w w' := by
  have mixed : Tryz.prog.follows .mixedOrders := by kernel_rfl
  have e1 : ∀ args w, (callFunc 290 args).run Tryz.prog w = .ok (.enter 290 args) w := enters_of Tryz.func290 (by kernel_rfl) rfl
  have hz : ∀ w', (zeroValue 9).run Tryz.prog w' = .ok (.string ⟨#[]⟩) w' := fun w' => by rfl
  obtain ⟨v, b, hv, hb, hvb, hl⟩ : ∃ (v : List UInt8) (b : Bool), v = wordL k ∧ b = decide (k = 1 ∨ k = 2 ∨ k = 3 ∨ k = 4) ∧ (b = false → v = []) ∧ (Instr.lookup 311 (.map (some w.heap.size)) (.int .i64 k) true).run Tryz.prog (w.alloc (.map wordsMap 4)) = .ok (.tuple #[.string ⟨v.toArray⟩, .bool b]) (w.alloc (.map wordsMap 4)) := by
    by_cases h1 : k = 1
    · subst h1; exact ⟨[99], true, rfl, rfl, (fun h => by cases h), lookup_int (P := Tryz.prog) (k := 3) (e := 9) Tryz.underlying311 Tryz.underlying3 w wordsMap 4 1 (i := 0) rfl rfl⟩
    by_cases h2 : k = 2
    · subst h2; exact ⟨[103], true, rfl, rfl, (fun h => by cases h), lookup_int (P := Tryz.prog) (k := 3) (e := 9) Tryz.underlying311 Tryz.underlying3 w wordsMap 4 2 (i := 1) rfl rfl⟩
    by_cases h3 : k = 3
    · subst h3; exact ⟨[109, 115], true, rfl, rfl, (fun h => by cases h), lookup_int (P := Tryz.prog) (k := 3) (e := 9) Tryz.underlying311 Tryz.underlying3 w wordsMap 4 3 (i := 2) rfl rfl⟩
    by_cases h4 : k = 4
    · subst h4; exact ⟨[104], true, rfl, rfl, (fun h => by cases h), lookup_int (P := Tryz.prog) (k := 3) (e := 9) Tryz.underlying311 Tryz.underlying3 w wordsMap 4 4 (i := 3) rfl rfl⟩
    refine ⟨[], false, ?_, ?_, (fun _ => rfl), lookup_int_no (P := Tryz.prog) (k := 3) (e := 9) Tryz.underlying311 Tryz.underlying3 w wordsMap 4 k ?_ hz⟩
    · unfold wordL; rw [if_neg h1, if_neg h2, if_neg h3, if_neg h4]
    · simp [h1, h2, h3, h4]
    · intro x hx
      simp only [wordsMap, List.mem_cons, List.mem_nil_iff, or_false] at hx
      rcases hx with rfl | rfl | rfl | rfl
      · exact ⟨1, rfl, Ne.symm h1⟩
      · exact ⟨2, rfl, Ne.symm h2⟩
      · exact ⟨3, rfl, Ne.symm h3⟩
      · exact ⟨4, rfl, Ne.symm h4⟩
  have hE : wordE k = if b then 0 else 16 := by subst hb; unfold wordE; simp
  rw [← hv, hE]
  clear hv hE hb hz
  cases b
  · obtain rfl := hvb rfl
    go_enter Tryz.func245, Tryz.ntmps245
    go_wp2_with (go_at_fn 290; refine (Tryz.words_call _).mono ?_; rintro e w' ⟨rfl, rfl⟩)
    all_goals go_ret2
    all_goals exact ⟨rfl, below_new _⟩
  · go_enter Tryz.func245, Tryz.ntmps245
    go_wp2_with (go_at_fn 290; refine (Tryz.words_call _).mono ?_; rintro e w' ⟨rfl, rfl⟩)
    all_goals go_ret2
    all_goals exact ⟨rfl, below_new _⟩
end Go.Proofs
