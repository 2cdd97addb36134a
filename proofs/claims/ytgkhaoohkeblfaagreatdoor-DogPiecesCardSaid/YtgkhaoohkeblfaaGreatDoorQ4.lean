/- Part 4 of a proof by the abstract machine. -/
import Derived.Test.YtgkhaoohkeblfaaGreatDoorQ3
import Derived.Shelf.Strings.Builder1
import Derived.Shelf.Strings.Builder2
import Derived.Shelf.Strings.OnBuilder
import Derived.Shelf.Strings.Trim
import Derived.Shelf.Small.Utf8
import Derived.Shelf.Small.Bits
import Derived.Shelf.Small.Strs
import Derived.Shelf.Small.Wraps
import Derived.Shelf.Strings.BuilderF
import Derived.Shelf.Utf8.RuneCount
import Derived.Shelf.Strconv.Atoi
import Derived.Shelf.Strconv.Itoa0
import Derived.Shelf.Strconv.Itoa1
import Derived.Shelf.LaysM
import Derived.Shelf.Strconv.Itoa2
import Derived.Shelf.Strconv.Itoa3
import Derived.Shelf.Strconv.AtoiErrFast
import Derived.Shelf.Strconv.ParseIntEmpty
import Derived.Shelf.Strconv.AtoiFail
import Derived.Shelf.Strconv.Clone
import Derived.Shelf.Strconv.SyntaxError
import Derived.Shelf.LaysC
import Derived.Shelf.Strconv.ToError
import Derived.Shelf.Strconv.Lower
import Derived.Shelf.Strconv.ParseUint10
import Derived.Shelf.Strconv.ParseUint10Empty
import Derived.Shelf.Strconv.ParseUint10Any
import Derived.Shelf.Strconv.ParseInt10
import Derived.Shelf.Strconv.AtoiLong
import Derived.Shelf.Strconv.AtoiInnerAll
import Derived.Shelf.Strconv.RangeError
import Derived.Shelf.Strconv.ToErrorRange
import Derived.Shelf.Strconv.AtoiAll
import Derived.Shelf.Strconv.ErrVarAll
import Derived.Shelf.Strings.Search1
import Derived.Shelf.Strings.Search2
import Derived.Shelf.Strings.Search3
import Derived.Shelf.Strings.Cut
import Derived.Shelf.Strings.Count
import Derived.Shelf.Strings.Shaped
import Derived.Shelf.Strings.Prefix
import Derived.Shelf.Strings.Split
import Derived.Shelf.Strings.SplitShaped
import Derived.Shelf.Unicode.Decode
import Derived.Shelf.Strings.Runes
import Derived.Shelf.Strings.RuneCount
import Derived.Shelf.Strings.AsciiSet
import Derived.Shelf.Strings.Explode
import Derived.Shelf.Bits.Mul64
import Derived.Shelf.Strings.Repeat
import Derived.Shelf.Unicode.DecodeSlow
import Derived.Shelf.Unicode.DecodeAny
import Derived.Shelf.Unicode.DecodeLast
import Derived.Shelf.SlGeneric
import Derived.Ground.SlsfProg
import Derived.Shelf.SlSortCmp.WholeK
import Derived.Test.YtgkhaoohkeblfaaGreatDoorProg
import Derived.Lib.AppendIntMem
import Derived.Lib.ItoaMem
import Derived.Lib.Walk
import Derived.WalkKit
import Derived.BigCall
import Derived.BigGuard
import Derived.Lib.IndexBytes
import Derived.Shelf.Strings.BuilderX
import Derived.Lib.Builder
import Derived.Lib.UnsafeStr
import Derived.Laws.Externs
import Derived.Shelf.RegionOpenPlain
import Derived.Deep.RegionHeld2
import Derived.LoopN
set_option linter.unusedVariables false
namespace Go.AM
noncomputable def F.dog_words (n : Nat) : Option ((List UInt8) × (List UInt8) × (List UInt8) × (List UInt8) × (List UInt8) × (List UInt8) × Unit) :=
 some (([], [99], [103], [109, 115], [104], [100], ()))
noncomputable def F.dog_Word (n : Nat) (a0 : Int) : Option ((List UInt8) × (Int) × Unit) :=
 bif decide (a0 < (1 : Int)) then
  some (([], (16 : Int), ()))
 else
 bif decide (a0 > (5 : Int)) then
  some (([], (16 : Int), ()))
 else
  (F.dog_words n ).bind fun y1 =>
   bif a0 == (0 : Int) then
    some ((y1.1, (0 : Int), ()))
   else
   bif a0 == (1 : Int) then
    some ((y1.2.1, (0 : Int), ()))
   else
   bif a0 == (2 : Int) then
    some ((y1.2.2.1, (0 : Int), ()))
   else
   bif a0 == (3 : Int) then
    some ((y1.2.2.2.1, (0 : Int), ()))
   else
   bif a0 == (4 : Int) then
    some ((y1.2.2.2.2.1, (0 : Int), ()))
   else
   bif a0 == (5 : Int) then
    some ((y1.2.2.2.2.2.1, (0 : Int), ()))
   else
    none
noncomputable def F.dec_times (n : Nat) (a0 : Int) (a1 : Int) : Option ((Int) × (Bool) × Unit) :=
 (O.mul64 n a0 (10 : Int)).bind fun y1 =>
  (O.add64 n y1.2.1 a1 (0 : Int)).bind fun y2 =>
   bif y1.1 == (0 : Int) then
    some ((y2.1, y2.2.1 == (0 : Int), ()))
   else
    some ((y2.1, false, ()))
noncomputable def F.dec_Normal.L3.step {X : Type} (n : Nat) (rec : Bool → Int → Int → Bool → Int → Int → Option X) (k0 : Bool → Int → Int → Bool → Int → Int → Option X) (ab0 : Bool) (ab1 : Int) (ab2 : Int) (bb0 : Bool) (bb1 : Int) (bb2 : Int) : Option X :=
 bif (ab1.tmod (10 : Int)) == (0 : Int) then
  bif decide (ab2 < (18 : Int)) then
   rec ab0 (IntKind.wrap .u64 (ab1.tdiv (10 : Int))) (IntKind.wrap .i64 (ab2 + (1 : Int))) bb0 bb1 bb2
  else
   k0 ab0 ab1 ab2 bb0 bb1 bb2
 else
  k0 ab0 ab1 ab2 bb0 bb1 bb2
noncomputable def F.dec_Normal.L3 {X : Type} (n : Nat) (k0 : Bool → Int → Int → Bool → Int → Int → Option X) : Nat → Bool → Int → Int → Bool → Int → Int → Option X
 | 0 => fun _ _ _ _ _ _ => none
 | m + 1 => fun ab0 ab1 ab2 bb0 bb1 bb2 => F.dec_Normal.L3.step n (F.dec_Normal.L3 n k0 m) k0 ab0 ab1 ab2 bb0 bb1 bb2
noncomputable def F.dec_Normal.L5.step {X : Type} (n : Nat) (rec : Bool → Int → Int → Bool → Int → Int → Option X) (k2 : Bool → Int → Int → Bool → Int → Int → Option X) (kr : Int → Bool → Int → Int → Bool → Int → Int → Option X) (ab0 : Bool) (ab1 : Int) (ab2 : Int) (bb0 : Bool) (bb1 : Int) (bb2 : Int) : Option X :=
 bif decide (ab2 > (18 : Int)) then
  (F.dec_times n ab1 (0 : Int)).bind fun y2 =>
   bif !y2.2.1 then
    kr (10 : Int) ab0 ab1 ab2 false (0 : Int) (0 : Int)
   else
    rec ab0 y2.1 (IntKind.wrap .i64 (ab2 - (1 : Int))) bb0 bb1 bb2
 else
  k2 ab0 ab1 ab2 bb0 bb1 bb2
noncomputable def F.dec_Normal.L5 {X : Type} (n : Nat) (k2 : Bool → Int → Int → Bool → Int → Int → Option X) (kr : Int → Bool → Int → Int → Bool → Int → Int → Option X) : Nat → Bool → Int → Int → Bool → Int → Int → Option X
 | 0 => fun _ _ _ _ _ _ => none
 | m + 1 => fun ab0 ab1 ab2 bb0 bb1 bb2 => F.dec_Normal.L5.step n (F.dec_Normal.L5 n k2 kr m) k2 kr ab0 ab1 ab2 bb0 bb1 bb2
noncomputable def F.dec_Normal (n : Nat) (a0 : (Bool) × (Int) × (Int) × Unit) : Option (((Bool) × (Int) × (Int) × Unit) × (Int) × Unit) :=
 bif a0.2.1 == (0 : Int) then
  some (((false, (0 : Int), (0 : Int), ()), (0 : Int), ()))
 else
  F.dec_Normal.L3 n
   (fun g0 g1 g2 h0 h1 h2 =>
    F.dec_Normal.L5 n
     (fun g0 g1 g2 h0 h1 h2 =>
      bif decide (g2 < (-18 : Int)) then
       some (((false, (0 : Int), (0 : Int), ()), (10 : Int), ()))
      else
       some (((g0, g1, g2, ()), (0 : Int), ())))
     (fun e3 g0 g1 g2 h0 h1 h2 =>
      some (((h0, h1, h2, ()), e3, ()))) n g0 g1 g2 h0 h1 h2) n a0.1 a0.2.1 a0.2.2.1 false (0 : Int) (0 : Int)
noncomputable def F.class_may (n : Nat) (a0 : Int) : Option (Bool) :=
 bif decide (a0 ≥ (1 : Int)) then
  some (decide (a0 ≤ (4 : Int)))
 else
  some (false)
noncomputable def F.class_between (n : Nat) (a0 : Int) (a1 : Int) (a2 : Int) : Option (Bool) :=
 bif decide (a0 ≥ a1) then
  some (decide (a0 ≤ a2))
 else
  some (false)
noncomputable def F.class_Is (n : Nat) (a0 : Int) (a1 : Int) : Option (Bool) :=
 bif a0 == (3 : Int) then
  (F.class_between n a1 (33 : Int) (126 : Int)).bind fun y1 =>
   bif y1 then
    bif !(a1 == (44 : Int)) then
     some (!(a1 == (124 : Int)))
    else
     some (false)
   else
    some (false)
 else
 bif a0 == (2 : Int) then
  bif a1 == (47 : Int) then
   some (true)
  else
   (F.class_between n a1 (65 : Int) (90 : Int)).bind fun y2 =>
    bif y2 then
     some (true)
    else
     (F.class_between n a1 (97 : Int) (122 : Int)).bind fun y3 =>
      bif y3 then
       some (true)
      else
      bif a1 == (95 : Int) then
       some (true)
      else
      bif a1 == (46 : Int) then
       some (true)
      else
      bif a1 == (45 : Int) then
       some (true)
      else
       (F.class_between n a1 (48 : Int) (57 : Int)).bind fun y4 =>
        some (y4)
 else
 bif a0 == (1 : Int) then
  (F.class_between n a1 (65 : Int) (90 : Int)).bind fun y5 =>
   bif y5 then
    some (true)
   else
    (F.class_between n a1 (97 : Int) (122 : Int)).bind fun y6 =>
     bif y6 then
      some (true)
     else
     bif a1 == (95 : Int) then
      some (true)
     else
     bif a1 == (46 : Int) then
      some (true)
     else
     bif a1 == (45 : Int) then
      some (true)
     else
      (F.class_between n a1 (48 : Int) (57 : Int)).bind fun y7 =>
       some (y7)
 else
 bif a0 == (4 : Int) then
  (F.class_between n a1 (48 : Int) (57 : Int)).bind fun y8 =>
   some (y8)
 else
  some (false)
noncomputable def F.class_Bad.L4.step {X : Type} (n : Nat) (rec : Int → (List UInt8) → Int → Int → Option X) (k0 : Unit → Option X) (kr : Int → Int → Option X) (v0 : Int) (v1 : List UInt8) (v11 : Int) (v12 : Int) : Option X :=
 bif decide (v12 < v11) then
  (idx v1 v12).bind fun x2 =>
   (F.class_Is n v0 ((x2).toNat)).bind fun y3 =>
    bif !y3 then
     kr v12 (0 : Int)
    else
     rec v0 v1 v11 (IntKind.wrap .i64 (v12 + (1 : Int)))
 else
  k0 ()
noncomputable def F.class_Bad.L4 {X : Type} (n : Nat) (k0 : Unit → Option X) (kr : Int → Int → Option X) : Nat → Int → (List UInt8) → Int → Int → Option X
 | 0 => fun _ _ _ _ => none
 | m + 1 => fun v0 v1 v11 v12 => F.class_Bad.L4.step n (F.class_Bad.L4 n k0 kr m) k0 kr v0 v1 v11 v12
noncomputable def F.class_Bad (n : Nat) (a0 : Int) (a1 : List UInt8) : Option ((Int) × (Int) × Unit) :=
 (F.class_may n a0).bind fun y1 =>
  bif !y1 then
   some (((0 : Int), (1 : Int), ()))
  else
   F.class_Bad.L4 n
    (fun (_ : Unit) =>
     some (((-1 : Int), (0 : Int), ())))
    (fun e4 e5 =>
     some ((e4, e5, ()))) n a0 a1 (a1.length : Int) (0 : Int)
noncomputable def F.class_Text (n : Nat) (a0 : Int) (a1 : List UInt8) (a2 : Int) (a3 : Int) : Option ((Int) × (Int) × Unit) :=
 (F.class_Bad n a0 a1).bind fun y1 =>
  bif !(y1.2.1 == (0 : Int)) then
   some (((1 : Int), (0 : Int), ()))
  else
  bif decide (a2 < (0 : Int)) then
   some (((1 : Int), (0 : Int), ()))
  else
  bif decide (a3 < a2) then
   some (((1 : Int), (0 : Int), ()))
  else
  bif decide ((a1.length : Int) < a2) then
   some (((13 : Int), (a1.length : Int), ()))
  else
  bif decide ((a1.length : Int) > a3) then
   some (((12 : Int), a3, ()))
  else
  bif decide (y1.1 ≥ (0 : Int)) then
   some (((14 : Int), y1.1, ()))
  else
   some (((0 : Int), (0 : Int), ()))
noncomputable def F.metric_look_name (n : Nat) (a0 : (List UInt8) × (Int) × (List ((Bool) × (Int) × (Int))) × (Int) × (List ((List UInt8) × (List UInt8))) × (Int) × Unit) : Option (Bool) :=
 (F.class_Text n (1 : Int) a0.1 (1 : Int) (200 : Int)).bind fun y1 =>
  some ((y1.1 == (0 : Int)) && (y1.2.1 == (0 : Int)))
noncomputable def F.metric_between (n : Nat) (a0 : Int) (a1 : Int) (a2 : Int) : Option (Bool) :=
 bif decide (a0 ≥ a1) then
  some (decide (a0 ≤ a2))
 else
  some (false)
noncomputable def F.metric_look_kind (n : Nat) (a0 : (List UInt8) × (Int) × (List ((Bool) × (Int) × (Int))) × (Int) × (List ((List UInt8) × (List UInt8))) × (Int) × Unit) : Option (Bool) :=
 (F.metric_between n a0.2.1 (1 : Int) (5 : Int)).bind fun y1 =>
  some (y1)
noncomputable def F.dec_Check (n : Nat) (a0 : (Bool) × (Int) × (Int) × Unit) : Option (Int) :=
 bif !(a0.2.1 == (0 : Int)) then
  bif decide (a0.2.2.1 < (-18 : Int)) then
   some ((10 : Int))
  else
  bif decide (a0.2.2.1 > (18 : Int)) then
   some ((10 : Int))
  else
   (F.dec_Normal n (a0.1, a0.2.1, a0.2.2.1, ())).bind fun y1 =>
    bif !(y1.2.1 == (0 : Int)) then
     some ((21 : Int))
    else
    bif !((y1.1.1 == a0.1) && ((y1.1.2.1 == a0.2.1) && (y1.1.2.2.1 == a0.2.2.1))) then
     some ((21 : Int))
    else
     some ((0 : Int))
 else
  (F.dec_Normal n (a0.1, a0.2.1, a0.2.2.1, ())).bind fun y2 =>
   bif !(y2.2.1 == (0 : Int)) then
    some ((21 : Int))
   else
   bif !((y2.1.1 == a0.1) && ((y2.1.2.1 == a0.2.1) && (y2.1.2.2.1 == a0.2.2.1))) then
    some ((21 : Int))
   else
    some ((0 : Int))
noncomputable def F.metric_look_values_1 (n : Nat) (a0 : (Bool) × (Int) × (Int) × Unit) : Option (Bool) :=
 (F.dec_Check n (a0.1, a0.2.1, a0.2.2.1, ())).bind fun y1 =>
  some (!(y1 == (0 : Int)))
noncomputable def F.metric_look_values.L2_slices_IndexFunc_api_Dec_api_Dec.step {X : Type} (n : Nat) (rec : (List ((Bool) × (Int) × (Int))) → Int → Int → (List UInt8) → Int → (List ((Bool) × (Int) × (Int))) → Int → (List ((List UInt8) × (List UInt8))) → Int → Option X) (k0 : (List UInt8) → Int → (List ((Bool) × (Int) × (Int))) → Int → (List ((List UInt8) × (List UInt8))) → Int → Option X) (kr : Int → (List UInt8) → Int → (List ((Bool) × (Int) × (Int))) → Int → (List ((List UInt8) × (List UInt8))) → Int → Option X) (v0 : List ((Bool) × (Int) × (Int))) (v7 : Int) (v8 : Int) (ab0 : List UInt8) (ab1 : Int) (ab2 : List ((Bool) × (Int) × (Int))) (ab3 : Int) (ab4 : List ((List UInt8) × (List UInt8))) (ab5 : Int) : Option X :=
 bif decide (v8 < v7) then
  (idx v0 v8).bind fun x2 =>
   (F.metric_look_values_1 n (x2.1, x2.2.1, x2.2.2, ())).bind fun y3 =>
    bif y3 then
     kr v8 ab0 ab1 ab2 ab3 ab4 ab5
    else
     rec v0 v7 (IntKind.wrap .i64 (v8 + (1 : Int))) ab0 ab1 ab2 ab3 ab4 ab5
 else
  k0 ab0 ab1 ab2 ab3 ab4 ab5
noncomputable def F.metric_look_values.L2_slices_IndexFunc_api_Dec_api_Dec {X : Type} (n : Nat) (k0 : (List UInt8) → Int → (List ((Bool) × (Int) × (Int))) → Int → (List ((List UInt8) × (List UInt8))) → Int → Option X) (kr : Int → (List UInt8) → Int → (List ((Bool) × (Int) × (Int))) → Int → (List ((List UInt8) × (List UInt8))) → Int → Option X) : Nat → (List ((Bool) × (Int) × (Int))) → Int → Int → (List UInt8) → Int → (List ((Bool) × (Int) × (Int))) → Int → (List ((List UInt8) × (List UInt8))) → Int → Option X
 | 0 => fun _ _ _ _ _ _ _ _ _ => none
 | m + 1 => fun v0 v7 v8 ab0 ab1 ab2 ab3 ab4 ab5 => F.metric_look_values.L2_slices_IndexFunc_api_Dec_api_Dec.step n (F.metric_look_values.L2_slices_IndexFunc_api_Dec_api_Dec n k0 kr m) k0 kr v0 v7 v8 ab0 ab1 ab2 ab3 ab4 ab5
noncomputable def F.metric_look_values (n : Nat) (a0 : (List UInt8) × (Int) × (List ((Bool) × (Int) × (Int))) × (Int) × (List ((List UInt8) × (List UInt8))) × (Int) × Unit) : Option (Bool) :=
 (F.metric_between n (a0.2.2.1.length : Int) (1 : Int) (64 : Int)).bind fun y1 =>
  bif y1 then
   F.metric_look_values.L2_slices_IndexFunc_api_Dec_api_Dec n
    (fun g0 g1 g2 g3 g4 g5 =>
     some (true))
    (fun e4 g0 g1 g2 g3 g4 g5 =>
     some (!(decide (e4 ≥ (0 : Int))))) n a0.2.2.1 (a0.2.2.1.length : Int) (0 : Int) a0.1 a0.2.1 a0.2.2.1 a0.2.2.2.1 a0.2.2.2.2.1 a0.2.2.2.2.2.1
  else
   some (false)
noncomputable def F.metric_look_rate (n : Nat) (a0 : (List UInt8) × (Int) × (List ((Bool) × (Int) × (Int))) × (Int) × (List ((List UInt8) × (List UInt8))) × (Int) × Unit) : Option (Bool) :=
 (F.metric_between n a0.2.2.2.1 (1 : Int) (1000000 : Int)).bind fun y1 =>
  bif y1 then
   bif !(a0.2.1 == (2 : Int)) then
    some (true)
   else
    some (a0.2.2.2.1 == (1000000 : Int))
  else
   some (false)
noncomputable def F.tag_Check (n : Nat) (a0 : (List UInt8) × (List UInt8) × Unit) : Option (Int) :=
 (F.class_Text n (2 : Int) a0.1 (1 : Int) (64 : Int)).bind fun y1 =>
  bif !((y1.1 == (0 : Int)) && (y1.2.1 == (0 : Int))) then
   some ((19 : Int))
  else
   (F.class_Text n (3 : Int) a0.2.1 (0 : Int) (100 : Int)).bind fun y2 =>
    bif !((y2.1 == (0 : Int)) && (y2.2.1 == (0 : Int))) then
     some ((19 : Int))
    else
     some ((0 : Int))
noncomputable def F.metric_look_tags_1 (n : Nat) (a0 : (List UInt8) × (List UInt8) × Unit) : Option (Bool) :=
 (F.tag_Check n (a0.1, a0.2.1, ())).bind fun y1 =>
  some (!(y1 == (0 : Int)))
noncomputable def F.metric_look_tags.L2_slices_IndexFunc_api_Tag_api_Tag.step {X : Type} (n : Nat) (rec : (List ((List UInt8) × (List UInt8))) → Int → Int → (List UInt8) → Int → (List ((Bool) × (Int) × (Int))) → Int → (List ((List UInt8) × (List UInt8))) → Int → Option X) (k0 : (List UInt8) → Int → (List ((Bool) × (Int) × (Int))) → Int → (List ((List UInt8) × (List UInt8))) → Int → Option X) (kr : Int → (List UInt8) → Int → (List ((Bool) × (Int) × (Int))) → Int → (List ((List UInt8) × (List UInt8))) → Int → Option X) (v0 : List ((List UInt8) × (List UInt8))) (v7 : Int) (v8 : Int) (ab0 : List UInt8) (ab1 : Int) (ab2 : List ((Bool) × (Int) × (Int))) (ab3 : Int) (ab4 : List ((List UInt8) × (List UInt8))) (ab5 : Int) : Option X :=
 bif decide (v8 < v7) then
  (idx v0 v8).bind fun x1 =>
   (F.metric_look_tags_1 n (x1.1, x1.2, ())).bind fun y2 =>
    bif y2 then
     kr v8 ab0 ab1 ab2 ab3 ab4 ab5
    else
     rec v0 v7 (IntKind.wrap .i64 (v8 + (1 : Int))) ab0 ab1 ab2 ab3 ab4 ab5
 else
  k0 ab0 ab1 ab2 ab3 ab4 ab5
noncomputable def F.metric_look_tags.L2_slices_IndexFunc_api_Tag_api_Tag {X : Type} (n : Nat) (k0 : (List UInt8) → Int → (List ((Bool) × (Int) × (Int))) → Int → (List ((List UInt8) × (List UInt8))) → Int → Option X) (kr : Int → (List UInt8) → Int → (List ((Bool) × (Int) × (Int))) → Int → (List ((List UInt8) × (List UInt8))) → Int → Option X) : Nat → (List ((List UInt8) × (List UInt8))) → Int → Int → (List UInt8) → Int → (List ((Bool) × (Int) × (Int))) → Int → (List ((List UInt8) × (List UInt8))) → Int → Option X
 | 0 => fun _ _ _ _ _ _ _ _ _ => none
 | m + 1 => fun v0 v7 v8 ab0 ab1 ab2 ab3 ab4 ab5 => F.metric_look_tags.L2_slices_IndexFunc_api_Tag_api_Tag.step n (F.metric_look_tags.L2_slices_IndexFunc_api_Tag_api_Tag n k0 kr m) k0 kr v0 v7 v8 ab0 ab1 ab2 ab3 ab4 ab5
noncomputable def F.metric_look_tags (n : Nat) (a0 : (List UInt8) × (Int) × (List ((Bool) × (Int) × (Int))) × (Int) × (List ((List UInt8) × (List UInt8))) × (Int) × Unit) : Option (Bool) :=
 bif decide ((a0.2.2.2.2.1.length : Int) ≤ (32 : Int)) then
  F.metric_look_tags.L2_slices_IndexFunc_api_Tag_api_Tag n
   (fun g0 g1 g2 g3 g4 g5 =>
    some (true))
   (fun e4 g0 g1 g2 g3 g4 g5 =>
    some (!(decide (e4 ≥ (0 : Int))))) n a0.2.2.2.2.1 (a0.2.2.2.2.1.length : Int) (0 : Int) a0.1 a0.2.1 a0.2.2.1 a0.2.2.2.1 a0.2.2.2.2.1 a0.2.2.2.2.2.1
 else
  some (false)
noncomputable def F.metric_look_time (n : Nat) (a0 : (List UInt8) × (Int) × (List ((Bool) × (Int) × (Int))) × (Int) × (List ((List UInt8) × (List UInt8))) × (Int) × Unit) : Option (Bool) :=
 (F.metric_between n a0.2.2.2.2.2.1 (0 : Int) (1099511627776 : Int)).bind fun y1 =>
  some (y1)
noncomputable def F.metric_Check.L3.step {X : Type} (n : Nat) (rec : (((((List UInt8) × (Int) × (List ((Bool) × (Int) × (Int))) × (Int) × (List ((List UInt8) × (List UInt8))) × (Int) × Unit) × Unit) × (Unit)) × (Int) × ((((List UInt8) × (Int) × (List ((Bool) × (Int) × (Int))) × (Int) × (List ((List UInt8) × (List UInt8))) × (Int) × Unit) × Unit) × (Unit)) × (Int) × ((((List UInt8) × (Int) × (List ((Bool) × (Int) × (Int))) × (Int) × (List ((List UInt8) × (List UInt8))) × (Int) × Unit) × Unit) × (Unit)) × (Int) × ((((List UInt8) × (Int) × (List ((Bool) × (Int) × (Int))) × (Int) × (List ((List UInt8) × (List UInt8))) × (Int) × Unit) × Unit) × (Unit)) × (Int) × ((((List UInt8) × (Int) × (List ((Bool) × (Int) × (Int))) × (Int) × (List ((List UInt8) × (List UInt8))) × (Int) × Unit) × Unit) × (Unit)) × (Int) × ((((List UInt8) × (Int) × (List ((Bool) × (Int) × (Int))) × (Int) × (List ((List UInt8) × (List UInt8))) × (Int) × Unit) × Unit) × (Unit)) × (Int) × Unit) → Int → (List UInt8) → Int → (List ((Bool) × (Int) × (Int))) → Int → (List ((List UInt8) × (List UInt8))) → Int → (List UInt8) → Int → (List ((Bool) × (Int) × (Int))) → Int → (List ((List UInt8) × (List UInt8))) → Int → Option X) (k0 : (List UInt8) → Int → (List ((Bool) × (Int) × (Int))) → Int → (List ((List UInt8) × (List UInt8))) → Int → (List UInt8) → Int → (List ((Bool) × (Int) × (Int))) → Int → (List ((List UInt8) × (List UInt8))) → Int → Option X) (kr : Int → (List UInt8) → Int → (List ((Bool) × (Int) × (Int))) → Int → (List ((List UInt8) × (List UInt8))) → Int → (List UInt8) → Int → (List ((Bool) × (Int) × (Int))) → Int → (List ((List UInt8) × (List UInt8))) → Int → Option X) (v26 : ((((List UInt8) × (Int) × (List ((Bool) × (Int) × (Int))) × (Int) × (List ((List UInt8) × (List UInt8))) × (Int) × Unit) × Unit) × (Unit)) × (Int) × ((((List UInt8) × (Int) × (List ((Bool) × (Int) × (Int))) × (Int) × (List ((List UInt8) × (List UInt8))) × (Int) × Unit) × Unit) × (Unit)) × (Int) × ((((List UInt8) × (Int) × (List ((Bool) × (Int) × (Int))) × (Int) × (List ((List UInt8) × (List UInt8))) × (Int) × Unit) × Unit) × (Unit)) × (Int) × ((((List UInt8) × (Int) × (List ((Bool) × (Int) × (Int))) × (Int) × (List ((List UInt8) × (List UInt8))) × (Int) × Unit) × Unit) × (Unit)) × (Int) × ((((List UInt8) × (Int) × (List ((Bool) × (Int) × (Int))) × (Int) × (List ((List UInt8) × (List UInt8))) × (Int) × Unit) × Unit) × (Unit)) × (Int) × ((((List UInt8) × (Int) × (List ((Bool) × (Int) × (Int))) × (Int) × (List ((List UInt8) × (List UInt8))) × (Int) × Unit) × Unit) × (Unit)) × (Int) × Unit) (v27 : Int) (ab0 : List UInt8) (ab1 : Int) (ab2 : List ((Bool) × (Int) × (Int))) (ab3 : Int) (ab4 : List ((List UInt8) × (List UInt8))) (ab5 : Int) (bb0 : List UInt8) (bb1 : Int) (bb2 : List ((Bool) × (Int) × (Int))) (bb3 : Int) (bb4 : List ((List UInt8) × (List UInt8))) (bb5 : Int) : Option X :=
 bif decide (v27 < (6 : Int)) then
  bif v27 == (0 : Int) then
   (F.metric_look_name n (v26.1.1.1.1, v26.1.1.1.2.1, v26.1.1.1.2.2.1, v26.1.1.1.2.2.2.1, v26.1.1.1.2.2.2.2.1, v26.1.1.1.2.2.2.2.2.1, ())).bind fun y1 =>
    bif !y1 then
     kr v26.2.1 ab0 ab1 ab2 ab3 ab4 ab5 bb0 bb1 bb2 bb3 bb4 bb5
    else
     rec ((((v26.1.1.1.1, v26.1.1.1.2.1, v26.1.1.1.2.2.1, v26.1.1.1.2.2.2.1, v26.1.1.1.2.2.2.2.1, v26.1.1.1.2.2.2.2.2.1, ()), ()), (())), v26.2.1, (((v26.2.2.1.1.1.1, v26.2.2.1.1.1.2.1, v26.2.2.1.1.1.2.2.1, v26.2.2.1.1.1.2.2.2.1, v26.2.2.1.1.1.2.2.2.2.1, v26.2.2.1.1.1.2.2.2.2.2.1, ()), ()), (())), v26.2.2.2.1, (((v26.2.2.2.2.1.1.1.1, v26.2.2.2.2.1.1.1.2.1, v26.2.2.2.2.1.1.1.2.2.1, v26.2.2.2.2.1.1.1.2.2.2.1, v26.2.2.2.2.1.1.1.2.2.2.2.1, v26.2.2.2.2.1.1.1.2.2.2.2.2.1, ()), ()), (())), v26.2.2.2.2.2.1, (((v26.2.2.2.2.2.2.1.1.1.1, v26.2.2.2.2.2.2.1.1.1.2.1, v26.2.2.2.2.2.2.1.1.1.2.2.1, v26.2.2.2.2.2.2.1.1.1.2.2.2.1, v26.2.2.2.2.2.2.1.1.1.2.2.2.2.1, v26.2.2.2.2.2.2.1.1.1.2.2.2.2.2.1, ()), ()), (())), v26.2.2.2.2.2.2.2.1, (((v26.2.2.2.2.2.2.2.2.1.1.1.1, v26.2.2.2.2.2.2.2.2.1.1.1.2.1, v26.2.2.2.2.2.2.2.2.1.1.1.2.2.1, v26.2.2.2.2.2.2.2.2.1.1.1.2.2.2.1, v26.2.2.2.2.2.2.2.2.1.1.1.2.2.2.2.1, v26.2.2.2.2.2.2.2.2.1.1.1.2.2.2.2.2.1, ()), ()), (())), v26.2.2.2.2.2.2.2.2.2.1, (((v26.2.2.2.2.2.2.2.2.2.2.1.1.1.1, v26.2.2.2.2.2.2.2.2.2.2.1.1.1.2.1, v26.2.2.2.2.2.2.2.2.2.2.1.1.1.2.2.1, v26.2.2.2.2.2.2.2.2.2.2.1.1.1.2.2.2.1, v26.2.2.2.2.2.2.2.2.2.2.1.1.1.2.2.2.2.1, v26.2.2.2.2.2.2.2.2.2.2.1.1.1.2.2.2.2.2.1, ()), ()), (())), v26.2.2.2.2.2.2.2.2.2.2.2.1, ()) (IntKind.wrap .i64 (v27 + (1 : Int))) ab0 ab1 ab2 ab3 ab4 ab5 bb0 bb1 bb2 bb3 bb4 bb5
  else
  bif v27 == (1 : Int) then
   (F.metric_look_kind n (v26.2.2.1.1.1.1, v26.2.2.1.1.1.2.1, v26.2.2.1.1.1.2.2.1, v26.2.2.1.1.1.2.2.2.1, v26.2.2.1.1.1.2.2.2.2.1, v26.2.2.1.1.1.2.2.2.2.2.1, ())).bind fun y2 =>
    bif !y2 then
     kr v26.2.2.2.1 ab0 ab1 ab2 ab3 ab4 ab5 bb0 bb1 bb2 bb3 bb4 bb5
    else
     rec ((((v26.1.1.1.1, v26.1.1.1.2.1, v26.1.1.1.2.2.1, v26.1.1.1.2.2.2.1, v26.1.1.1.2.2.2.2.1, v26.1.1.1.2.2.2.2.2.1, ()), ()), (())), v26.2.1, (((v26.2.2.1.1.1.1, v26.2.2.1.1.1.2.1, v26.2.2.1.1.1.2.2.1, v26.2.2.1.1.1.2.2.2.1, v26.2.2.1.1.1.2.2.2.2.1, v26.2.2.1.1.1.2.2.2.2.2.1, ()), ()), (())), v26.2.2.2.1, (((v26.2.2.2.2.1.1.1.1, v26.2.2.2.2.1.1.1.2.1, v26.2.2.2.2.1.1.1.2.2.1, v26.2.2.2.2.1.1.1.2.2.2.1, v26.2.2.2.2.1.1.1.2.2.2.2.1, v26.2.2.2.2.1.1.1.2.2.2.2.2.1, ()), ()), (())), v26.2.2.2.2.2.1, (((v26.2.2.2.2.2.2.1.1.1.1, v26.2.2.2.2.2.2.1.1.1.2.1, v26.2.2.2.2.2.2.1.1.1.2.2.1, v26.2.2.2.2.2.2.1.1.1.2.2.2.1, v26.2.2.2.2.2.2.1.1.1.2.2.2.2.1, v26.2.2.2.2.2.2.1.1.1.2.2.2.2.2.1, ()), ()), (())), v26.2.2.2.2.2.2.2.1, (((v26.2.2.2.2.2.2.2.2.1.1.1.1, v26.2.2.2.2.2.2.2.2.1.1.1.2.1, v26.2.2.2.2.2.2.2.2.1.1.1.2.2.1, v26.2.2.2.2.2.2.2.2.1.1.1.2.2.2.1, v26.2.2.2.2.2.2.2.2.1.1.1.2.2.2.2.1, v26.2.2.2.2.2.2.2.2.1.1.1.2.2.2.2.2.1, ()), ()), (())), v26.2.2.2.2.2.2.2.2.2.1, (((v26.2.2.2.2.2.2.2.2.2.2.1.1.1.1, v26.2.2.2.2.2.2.2.2.2.2.1.1.1.2.1, v26.2.2.2.2.2.2.2.2.2.2.1.1.1.2.2.1, v26.2.2.2.2.2.2.2.2.2.2.1.1.1.2.2.2.1, v26.2.2.2.2.2.2.2.2.2.2.1.1.1.2.2.2.2.1, v26.2.2.2.2.2.2.2.2.2.2.1.1.1.2.2.2.2.2.1, ()), ()), (())), v26.2.2.2.2.2.2.2.2.2.2.2.1, ()) (IntKind.wrap .i64 (v27 + (1 : Int))) ab0 ab1 ab2 ab3 ab4 ab5 bb0 bb1 bb2 bb3 bb4 bb5
  else
  bif v27 == (2 : Int) then
   (F.metric_look_values n (v26.2.2.2.2.1.1.1.1, v26.2.2.2.2.1.1.1.2.1, v26.2.2.2.2.1.1.1.2.2.1, v26.2.2.2.2.1.1.1.2.2.2.1, v26.2.2.2.2.1.1.1.2.2.2.2.1, v26.2.2.2.2.1.1.1.2.2.2.2.2.1, ())).bind fun y3 =>
    bif !y3 then
     kr v26.2.2.2.2.2.1 ab0 ab1 ab2 ab3 ab4 ab5 bb0 bb1 bb2 bb3 bb4 bb5
    else
     rec ((((v26.1.1.1.1, v26.1.1.1.2.1, v26.1.1.1.2.2.1, v26.1.1.1.2.2.2.1, v26.1.1.1.2.2.2.2.1, v26.1.1.1.2.2.2.2.2.1, ()), ()), (())), v26.2.1, (((v26.2.2.1.1.1.1, v26.2.2.1.1.1.2.1, v26.2.2.1.1.1.2.2.1, v26.2.2.1.1.1.2.2.2.1, v26.2.2.1.1.1.2.2.2.2.1, v26.2.2.1.1.1.2.2.2.2.2.1, ()), ()), (())), v26.2.2.2.1, (((v26.2.2.2.2.1.1.1.1, v26.2.2.2.2.1.1.1.2.1, v26.2.2.2.2.1.1.1.2.2.1, v26.2.2.2.2.1.1.1.2.2.2.1, v26.2.2.2.2.1.1.1.2.2.2.2.1, v26.2.2.2.2.1.1.1.2.2.2.2.2.1, ()), ()), (())), v26.2.2.2.2.2.1, (((v26.2.2.2.2.2.2.1.1.1.1, v26.2.2.2.2.2.2.1.1.1.2.1, v26.2.2.2.2.2.2.1.1.1.2.2.1, v26.2.2.2.2.2.2.1.1.1.2.2.2.1, v26.2.2.2.2.2.2.1.1.1.2.2.2.2.1, v26.2.2.2.2.2.2.1.1.1.2.2.2.2.2.1, ()), ()), (())), v26.2.2.2.2.2.2.2.1, (((v26.2.2.2.2.2.2.2.2.1.1.1.1, v26.2.2.2.2.2.2.2.2.1.1.1.2.1, v26.2.2.2.2.2.2.2.2.1.1.1.2.2.1, v26.2.2.2.2.2.2.2.2.1.1.1.2.2.2.1, v26.2.2.2.2.2.2.2.2.1.1.1.2.2.2.2.1, v26.2.2.2.2.2.2.2.2.1.1.1.2.2.2.2.2.1, ()), ()), (())), v26.2.2.2.2.2.2.2.2.2.1, (((v26.2.2.2.2.2.2.2.2.2.2.1.1.1.1, v26.2.2.2.2.2.2.2.2.2.2.1.1.1.2.1, v26.2.2.2.2.2.2.2.2.2.2.1.1.1.2.2.1, v26.2.2.2.2.2.2.2.2.2.2.1.1.1.2.2.2.1, v26.2.2.2.2.2.2.2.2.2.2.1.1.1.2.2.2.2.1, v26.2.2.2.2.2.2.2.2.2.2.1.1.1.2.2.2.2.2.1, ()), ()), (())), v26.2.2.2.2.2.2.2.2.2.2.2.1, ()) (IntKind.wrap .i64 (v27 + (1 : Int))) ab0 ab1 ab2 ab3 ab4 ab5 bb0 bb1 bb2 bb3 bb4 bb5
  else
  bif v27 == (3 : Int) then
   (F.metric_look_rate n (v26.2.2.2.2.2.2.1.1.1.1, v26.2.2.2.2.2.2.1.1.1.2.1, v26.2.2.2.2.2.2.1.1.1.2.2.1, v26.2.2.2.2.2.2.1.1.1.2.2.2.1, v26.2.2.2.2.2.2.1.1.1.2.2.2.2.1, v26.2.2.2.2.2.2.1.1.1.2.2.2.2.2.1, ())).bind fun y4 =>
    bif !y4 then
     kr v26.2.2.2.2.2.2.2.1 ab0 ab1 ab2 ab3 ab4 ab5 bb0 bb1 bb2 bb3 bb4 bb5
    else
     rec ((((v26.1.1.1.1, v26.1.1.1.2.1, v26.1.1.1.2.2.1, v26.1.1.1.2.2.2.1, v26.1.1.1.2.2.2.2.1, v26.1.1.1.2.2.2.2.2.1, ()), ()), (())), v26.2.1, (((v26.2.2.1.1.1.1, v26.2.2.1.1.1.2.1, v26.2.2.1.1.1.2.2.1, v26.2.2.1.1.1.2.2.2.1, v26.2.2.1.1.1.2.2.2.2.1, v26.2.2.1.1.1.2.2.2.2.2.1, ()), ()), (())), v26.2.2.2.1, (((v26.2.2.2.2.1.1.1.1, v26.2.2.2.2.1.1.1.2.1, v26.2.2.2.2.1.1.1.2.2.1, v26.2.2.2.2.1.1.1.2.2.2.1, v26.2.2.2.2.1.1.1.2.2.2.2.1, v26.2.2.2.2.1.1.1.2.2.2.2.2.1, ()), ()), (())), v26.2.2.2.2.2.1, (((v26.2.2.2.2.2.2.1.1.1.1, v26.2.2.2.2.2.2.1.1.1.2.1, v26.2.2.2.2.2.2.1.1.1.2.2.1, v26.2.2.2.2.2.2.1.1.1.2.2.2.1, v26.2.2.2.2.2.2.1.1.1.2.2.2.2.1, v26.2.2.2.2.2.2.1.1.1.2.2.2.2.2.1, ()), ()), (())), v26.2.2.2.2.2.2.2.1, (((v26.2.2.2.2.2.2.2.2.1.1.1.1, v26.2.2.2.2.2.2.2.2.1.1.1.2.1, v26.2.2.2.2.2.2.2.2.1.1.1.2.2.1, v26.2.2.2.2.2.2.2.2.1.1.1.2.2.2.1, v26.2.2.2.2.2.2.2.2.1.1.1.2.2.2.2.1, v26.2.2.2.2.2.2.2.2.1.1.1.2.2.2.2.2.1, ()), ()), (())), v26.2.2.2.2.2.2.2.2.2.1, (((v26.2.2.2.2.2.2.2.2.2.2.1.1.1.1, v26.2.2.2.2.2.2.2.2.2.2.1.1.1.2.1, v26.2.2.2.2.2.2.2.2.2.2.1.1.1.2.2.1, v26.2.2.2.2.2.2.2.2.2.2.1.1.1.2.2.2.1, v26.2.2.2.2.2.2.2.2.2.2.1.1.1.2.2.2.2.1, v26.2.2.2.2.2.2.2.2.2.2.1.1.1.2.2.2.2.2.1, ()), ()), (())), v26.2.2.2.2.2.2.2.2.2.2.2.1, ()) (IntKind.wrap .i64 (v27 + (1 : Int))) ab0 ab1 ab2 ab3 ab4 ab5 bb0 bb1 bb2 bb3 bb4 bb5
  else
  bif v27 == (4 : Int) then
   (F.metric_look_tags n (v26.2.2.2.2.2.2.2.2.1.1.1.1, v26.2.2.2.2.2.2.2.2.1.1.1.2.1, v26.2.2.2.2.2.2.2.2.1.1.1.2.2.1, v26.2.2.2.2.2.2.2.2.1.1.1.2.2.2.1, v26.2.2.2.2.2.2.2.2.1.1.1.2.2.2.2.1, v26.2.2.2.2.2.2.2.2.1.1.1.2.2.2.2.2.1, ())).bind fun y5 =>
    bif !y5 then
     kr v26.2.2.2.2.2.2.2.2.2.1 ab0 ab1 ab2 ab3 ab4 ab5 bb0 bb1 bb2 bb3 bb4 bb5
    else
     rec ((((v26.1.1.1.1, v26.1.1.1.2.1, v26.1.1.1.2.2.1, v26.1.1.1.2.2.2.1, v26.1.1.1.2.2.2.2.1, v26.1.1.1.2.2.2.2.2.1, ()), ()), (())), v26.2.1, (((v26.2.2.1.1.1.1, v26.2.2.1.1.1.2.1, v26.2.2.1.1.1.2.2.1, v26.2.2.1.1.1.2.2.2.1, v26.2.2.1.1.1.2.2.2.2.1, v26.2.2.1.1.1.2.2.2.2.2.1, ()), ()), (())), v26.2.2.2.1, (((v26.2.2.2.2.1.1.1.1, v26.2.2.2.2.1.1.1.2.1, v26.2.2.2.2.1.1.1.2.2.1, v26.2.2.2.2.1.1.1.2.2.2.1, v26.2.2.2.2.1.1.1.2.2.2.2.1, v26.2.2.2.2.1.1.1.2.2.2.2.2.1, ()), ()), (())), v26.2.2.2.2.2.1, (((v26.2.2.2.2.2.2.1.1.1.1, v26.2.2.2.2.2.2.1.1.1.2.1, v26.2.2.2.2.2.2.1.1.1.2.2.1, v26.2.2.2.2.2.2.1.1.1.2.2.2.1, v26.2.2.2.2.2.2.1.1.1.2.2.2.2.1, v26.2.2.2.2.2.2.1.1.1.2.2.2.2.2.1, ()), ()), (())), v26.2.2.2.2.2.2.2.1, (((v26.2.2.2.2.2.2.2.2.1.1.1.1, v26.2.2.2.2.2.2.2.2.1.1.1.2.1, v26.2.2.2.2.2.2.2.2.1.1.1.2.2.1, v26.2.2.2.2.2.2.2.2.1.1.1.2.2.2.1, v26.2.2.2.2.2.2.2.2.1.1.1.2.2.2.2.1, v26.2.2.2.2.2.2.2.2.1.1.1.2.2.2.2.2.1, ()), ()), (())), v26.2.2.2.2.2.2.2.2.2.1, (((v26.2.2.2.2.2.2.2.2.2.2.1.1.1.1, v26.2.2.2.2.2.2.2.2.2.2.1.1.1.2.1, v26.2.2.2.2.2.2.2.2.2.2.1.1.1.2.2.1, v26.2.2.2.2.2.2.2.2.2.2.1.1.1.2.2.2.1, v26.2.2.2.2.2.2.2.2.2.2.1.1.1.2.2.2.2.1, v26.2.2.2.2.2.2.2.2.2.2.1.1.1.2.2.2.2.2.1, ()), ()), (())), v26.2.2.2.2.2.2.2.2.2.2.2.1, ()) (IntKind.wrap .i64 (v27 + (1 : Int))) ab0 ab1 ab2 ab3 ab4 ab5 bb0 bb1 bb2 bb3 bb4 bb5
  else
  bif v27 == (5 : Int) then
   (F.metric_look_time n (v26.2.2.2.2.2.2.2.2.2.2.1.1.1.1, v26.2.2.2.2.2.2.2.2.2.2.1.1.1.2.1, v26.2.2.2.2.2.2.2.2.2.2.1.1.1.2.2.1, v26.2.2.2.2.2.2.2.2.2.2.1.1.1.2.2.2.1, v26.2.2.2.2.2.2.2.2.2.2.1.1.1.2.2.2.2.1, v26.2.2.2.2.2.2.2.2.2.2.1.1.1.2.2.2.2.2.1, ())).bind fun y6 =>
    bif !y6 then
     kr v26.2.2.2.2.2.2.2.2.2.2.2.1 ab0 ab1 ab2 ab3 ab4 ab5 bb0 bb1 bb2 bb3 bb4 bb5
    else
     rec ((((v26.1.1.1.1, v26.1.1.1.2.1, v26.1.1.1.2.2.1, v26.1.1.1.2.2.2.1, v26.1.1.1.2.2.2.2.1, v26.1.1.1.2.2.2.2.2.1, ()), ()), (())), v26.2.1, (((v26.2.2.1.1.1.1, v26.2.2.1.1.1.2.1, v26.2.2.1.1.1.2.2.1, v26.2.2.1.1.1.2.2.2.1, v26.2.2.1.1.1.2.2.2.2.1, v26.2.2.1.1.1.2.2.2.2.2.1, ()), ()), (())), v26.2.2.2.1, (((v26.2.2.2.2.1.1.1.1, v26.2.2.2.2.1.1.1.2.1, v26.2.2.2.2.1.1.1.2.2.1, v26.2.2.2.2.1.1.1.2.2.2.1, v26.2.2.2.2.1.1.1.2.2.2.2.1, v26.2.2.2.2.1.1.1.2.2.2.2.2.1, ()), ()), (())), v26.2.2.2.2.2.1, (((v26.2.2.2.2.2.2.1.1.1.1, v26.2.2.2.2.2.2.1.1.1.2.1, v26.2.2.2.2.2.2.1.1.1.2.2.1, v26.2.2.2.2.2.2.1.1.1.2.2.2.1, v26.2.2.2.2.2.2.1.1.1.2.2.2.2.1, v26.2.2.2.2.2.2.1.1.1.2.2.2.2.2.1, ()), ()), (())), v26.2.2.2.2.2.2.2.1, (((v26.2.2.2.2.2.2.2.2.1.1.1.1, v26.2.2.2.2.2.2.2.2.1.1.1.2.1, v26.2.2.2.2.2.2.2.2.1.1.1.2.2.1, v26.2.2.2.2.2.2.2.2.1.1.1.2.2.2.1, v26.2.2.2.2.2.2.2.2.1.1.1.2.2.2.2.1, v26.2.2.2.2.2.2.2.2.1.1.1.2.2.2.2.2.1, ()), ()), (())), v26.2.2.2.2.2.2.2.2.2.1, (((v26.2.2.2.2.2.2.2.2.2.2.1.1.1.1, v26.2.2.2.2.2.2.2.2.2.2.1.1.1.2.1, v26.2.2.2.2.2.2.2.2.2.2.1.1.1.2.2.1, v26.2.2.2.2.2.2.2.2.2.2.1.1.1.2.2.2.1, v26.2.2.2.2.2.2.2.2.2.2.1.1.1.2.2.2.2.1, v26.2.2.2.2.2.2.2.2.2.2.1.1.1.2.2.2.2.2.1, ()), ()), (())), v26.2.2.2.2.2.2.2.2.2.2.2.1, ()) (IntKind.wrap .i64 (v27 + (1 : Int))) ab0 ab1 ab2 ab3 ab4 ab5 bb0 bb1 bb2 bb3 bb4 bb5
  else
   none
 else
  k0 ab0 ab1 ab2 ab3 ab4 ab5 bb0 bb1 bb2 bb3 bb4 bb5
noncomputable def F.metric_Check.L3 {X : Type} (n : Nat) (k0 : (List UInt8) → Int → (List ((Bool) × (Int) × (Int))) → Int → (List ((List UInt8) × (List UInt8))) → Int → (List UInt8) → Int → (List ((Bool) × (Int) × (Int))) → Int → (List ((List UInt8) × (List UInt8))) → Int → Option X) (kr : Int → (List UInt8) → Int → (List ((Bool) × (Int) × (Int))) → Int → (List ((List UInt8) × (List UInt8))) → Int → (List UInt8) → Int → (List ((Bool) × (Int) × (Int))) → Int → (List ((List UInt8) × (List UInt8))) → Int → Option X) : Nat → (((((List UInt8) × (Int) × (List ((Bool) × (Int) × (Int))) × (Int) × (List ((List UInt8) × (List UInt8))) × (Int) × Unit) × Unit) × (Unit)) × (Int) × ((((List UInt8) × (Int) × (List ((Bool) × (Int) × (Int))) × (Int) × (List ((List UInt8) × (List UInt8))) × (Int) × Unit) × Unit) × (Unit)) × (Int) × ((((List UInt8) × (Int) × (List ((Bool) × (Int) × (Int))) × (Int) × (List ((List UInt8) × (List UInt8))) × (Int) × Unit) × Unit) × (Unit)) × (Int) × ((((List UInt8) × (Int) × (List ((Bool) × (Int) × (Int))) × (Int) × (List ((List UInt8) × (List UInt8))) × (Int) × Unit) × Unit) × (Unit)) × (Int) × ((((List UInt8) × (Int) × (List ((Bool) × (Int) × (Int))) × (Int) × (List ((List UInt8) × (List UInt8))) × (Int) × Unit) × Unit) × (Unit)) × (Int) × ((((List UInt8) × (Int) × (List ((Bool) × (Int) × (Int))) × (Int) × (List ((List UInt8) × (List UInt8))) × (Int) × Unit) × Unit) × (Unit)) × (Int) × Unit) → Int → (List UInt8) → Int → (List ((Bool) × (Int) × (Int))) → Int → (List ((List UInt8) × (List UInt8))) → Int → (List UInt8) → Int → (List ((Bool) × (Int) × (Int))) → Int → (List ((List UInt8) × (List UInt8))) → Int → Option X
 | 0 => fun _ _ _ _ _ _ _ _ _ _ _ _ _ _ => none
 | m + 1 => fun v26 v27 ab0 ab1 ab2 ab3 ab4 ab5 bb0 bb1 bb2 bb3 bb4 bb5 => F.metric_Check.L3.step n (F.metric_Check.L3 n k0 kr m) k0 kr v26 v27 ab0 ab1 ab2 ab3 ab4 ab5 bb0 bb1 bb2 bb3 bb4 bb5
noncomputable def F.metric_Check (n : Nat) (a0 : (List UInt8) × (Int) × (List ((Bool) × (Int) × (Int))) × (Int) × (List ((List UInt8) × (List UInt8))) × (Int) × Unit) : Option (Int) :=
 F.metric_Check.L3 n
  (fun g0 g1 g2 g3 g4 g5 h0 h1 h2 h3 h4 h5 =>
   some ((0 : Int)))
  (fun e2 g0 g1 g2 g3 g4 g5 h0 h1 h2 h3 h4 h5 =>
   some (e2)) n ((((a0.1, a0.2.1, a0.2.2.1, a0.2.2.2.1, a0.2.2.2.2.1, a0.2.2.2.2.2.1, ()), ()), (())), (15 : Int), (((a0.1, a0.2.1, a0.2.2.1, a0.2.2.2.1, a0.2.2.2.2.1, a0.2.2.2.2.2.1, ()), ()), (())), (16 : Int), (((a0.1, a0.2.1, a0.2.2.1, a0.2.2.2.1, a0.2.2.2.2.1, a0.2.2.2.2.2.1, ()), ()), (())), (17 : Int), (((a0.1, a0.2.1, a0.2.2.1, a0.2.2.2.1, a0.2.2.2.2.1, a0.2.2.2.2.2.1, ()), ()), (())), (18 : Int), (((a0.1, a0.2.1, a0.2.2.1, a0.2.2.2.1, a0.2.2.2.2.1, a0.2.2.2.2.2.1, ()), ()), (())), (19 : Int), (((a0.1, a0.2.1, a0.2.2.1, a0.2.2.2.1, a0.2.2.2.2.1, a0.2.2.2.2.2.1, ()), ()), (())), (20 : Int), ()) (0 : Int) a0.1 a0.2.1 a0.2.2.1 a0.2.2.2.1 a0.2.2.2.2.1 a0.2.2.2.2.2.1 a0.1 a0.2.1 a0.2.2.1 a0.2.2.2.1 a0.2.2.2.2.1 a0.2.2.2.2.2.1
noncomputable def F.slices_Clip_api_Tag_api_Tag (n : Nat) (a0 : List ((List UInt8) × (List UInt8))) : Option (List ((List UInt8) × (List UInt8))) :=
 bif (a0.length : Int) == (a0.length : Int) then
  (sub a0 (0 : Int) (a0.length : Int)).bind fun x1 =>
   some (x1)
 else
  none
noncomputable def F.tag_Normal.L5.step {X : Type} (n : Nat) (rec : (Nat × Nat) → Int → (Nat × Nat) → Int → Int → (Nat × List ((List UInt8) × (List UInt8))) → (Nat × List ((List UInt8) × (List UInt8))) → (Nat × List ((List UInt8) × (List UInt8))) → Option X) (k0 : (Nat × Nat) → Int → (Nat × List ((List UInt8) × (List UInt8))) → (Nat × List ((List UInt8) × (List UInt8))) → (Nat × List ((List UInt8) × (List UInt8))) → Option X) (v3 : Nat × Nat) (v4 : Int) (v11 : Nat × Nat) (v12 : Int) (v13 : Int) (ab0 : Nat × List ((List UInt8) × (List UInt8))) (bb0 : Nat × List ((List UInt8) × (List UInt8))) (cb0 : Nat × List ((List UInt8) × (List UInt8))) : Option X :=
 bif decide (v13 < v12) then
  bif decide (0 ≤ v13) && decide (v13 < ((v11.2 : Nat) : Int)) then
   bif Nat.beq v11.1 cb0.1 then
    (idx cb0.2 v13).bind fun x1 =>
     bif v13 == (0 : Int) then
      bif decide (0 ≤ v4) && decide (v4 < ((v3.2 : Nat) : Int)) then
       bif Nat.beq v3.1 cb0.1 then
        (idx cb0.2 v4).bind fun x2 =>
         rec (v3.1, v3.2) (IntKind.wrap .i64 (v4 + (1 : Int))) (v11.1, v11.2) v12 (IntKind.wrap .i64 (v13 + (1 : Int))) (ab0.1, ab0.2) (bb0.1, bb0.2) (v3.1, upd cb0.2 (Int.toNat v4) (x1.1, x1.2))
       else
        none
      else
       none
     else
     bif decide (0 ≤ (IntKind.wrap .i64 (v4 - (1 : Int)))) && decide ((IntKind.wrap .i64 (v4 - (1 : Int))) < ((v3.2 : Nat) : Int)) then
      bif Nat.beq v3.1 cb0.1 then
       (idx cb0.2 (IntKind.wrap .i64 (v4 - (1 : Int)))).bind fun x3 =>
        bif !((x1.1 == x3.1) && (x1.2 == x3.2)) then
         bif decide (0 ≤ v4) && decide (v4 < ((v3.2 : Nat) : Int)) then
          bif Nat.beq v3.1 cb0.1 then
           (idx cb0.2 v4).bind fun x4 =>
            rec (v3.1, v3.2) (IntKind.wrap .i64 (v4 + (1 : Int))) (v11.1, v11.2) v12 (IntKind.wrap .i64 (v13 + (1 : Int))) (ab0.1, ab0.2) (bb0.1, bb0.2) (v3.1, upd cb0.2 (Int.toNat v4) (x1.1, x1.2))
          else
           none
         else
          none
        else
         rec (v3.1, v3.2) v4 (v11.1, v11.2) v12 (IntKind.wrap .i64 (v13 + (1 : Int))) (ab0.1, ab0.2) (bb0.1, bb0.2) (cb0.1, cb0.2)
      else
       none
     else
      none
   else
    none
  else
   none
 else
  k0 (v3.1, v3.2) v4 (ab0.1, ab0.2) (bb0.1, bb0.2) (cb0.1, cb0.2)
noncomputable def F.tag_Normal.L5 {X : Type} (n : Nat) (k0 : (Nat × Nat) → Int → (Nat × List ((List UInt8) × (List UInt8))) → (Nat × List ((List UInt8) × (List UInt8))) → (Nat × List ((List UInt8) × (List UInt8))) → Option X) : Nat → (Nat × Nat) → Int → (Nat × Nat) → Int → Int → (Nat × List ((List UInt8) × (List UInt8))) → (Nat × List ((List UInt8) × (List UInt8))) → (Nat × List ((List UInt8) × (List UInt8))) → Option X
 | 0 => fun _ _ _ _ _ _ _ _ => none
 | m + 1 => fun v3 v4 v11 v12 v13 ab0 bb0 cb0 => F.tag_Normal.L5.step n (F.tag_Normal.L5 n k0 m) k0 v3 v4 v11 v12 v13 ab0 bb0 cb0
noncomputable def F.tag_Normal (n : Nat) (a0 : List ((List UInt8) × (List UInt8))) : Option (List ((List UInt8) × (List UInt8))) :=
 bif List.isEmpty a0 then
  both
   (
    bif Nat.beq (sortTags []).length 0 && Nat.blt 0 strMax then
     F.tag_Normal.L5 n
      (fun e3 e4 g0 h0 i0 =>
       bif Nat.beq e3.1 i0.1 then
        (sub i0.2 (0 : Int) e4).bind fun x6 =>
         (F.slices_Clip_api_Tag_api_Tag n x6).bind fun y7 =>
          some (y7)
       else
        none) n (1, 0) (0 : Int) (1, 0) (0 : Int) (0 : Int) (1, []) (1, []) (1, sortTags [])
    else
     none)
   (
    bif decide ((0 + a0.length) * 32 ≤ 2 ^ 46) && decide (0 < 32 ∧ 32 ≤ 2 ^ 20) then
     bif Nat.beq (sortTags ([] ++ a0)).length (([] ++ a0).length) && Nat.blt (([] ++ a0).length) strMax then
      F.tag_Normal.L5 n
       (fun e3 e4 g0 h0 i0 =>
        bif Nat.beq e3.1 i0.1 then
         (sub i0.2 (0 : Int) e4).bind fun x9 =>
          (F.slices_Clip_api_Tag_api_Tag n x9).bind fun y10 =>
           some (y10)
        else
         none) n (2, ([] ++ a0).length) (0 : Int) (2, ([] ++ a0).length) ((([] ++ a0).length : Nat) : Int) (0 : Int) (1, []) (1, []) (2, sortTags ([] ++ a0))
     else
      none
    else
     none)
 else
 bif decide ((0 + a0.length) * 32 ≤ 2 ^ 46) && decide (0 < 32 ∧ 32 ≤ 2 ^ 20) then
  bif Nat.beq (sortTags ([] ++ a0)).length (([] ++ a0).length) && Nat.blt (([] ++ a0).length) strMax then
   F.tag_Normal.L5 n
    (fun e3 e4 g0 h0 i0 =>
     bif Nat.beq e3.1 i0.1 then
      (sub i0.2 (0 : Int) e4).bind fun x12 =>
       (F.slices_Clip_api_Tag_api_Tag n x12).bind fun y13 =>
        some (y13)
     else
      none) n (2, ([] ++ a0).length) (0 : Int) (2, ([] ++ a0).length) ((([] ++ a0).length : Nat) : Int) (0 : Int) (1, []) (1, []) (2, sortTags ([] ++ a0))
  else
   none
 else
  none
noncomputable def F.metric_Normal.L3.step {X : Type} (n : Nat) (rec : (Nat × Nat) → (Nat × Nat) → Int → Int → (List UInt8) → Int → (List ((Bool) × (Int) × (Int))) → Int → (List ((List UInt8) × (List UInt8))) → Int → (List UInt8) → Int → (List ((Bool) × (Int) × (Int))) → Int → (List ((List UInt8) × (List UInt8))) → Int → (Nat × List ((Bool) × (Int) × (Int))) → (Nat × List ((Bool) × (Int) × (Int))) → Nat → Nat → Option X) (k0 : (Nat × Nat) → (List UInt8) → Int → (List ((Bool) × (Int) × (Int))) → Int → (List ((List UInt8) × (List UInt8))) → Int → (List UInt8) → Int → (List ((Bool) × (Int) × (Int))) → Int → (List ((List UInt8) × (List UInt8))) → Int → (Nat × List ((Bool) × (Int) × (Int))) → (Nat × List ((Bool) × (Int) × (Int))) → Nat → Nat → Option X) (v4 : Nat × Nat) (v13 : Nat × Nat) (v14 : Int) (v15 : Int) (ab0 : List UInt8) (ab1 : Int) (ab2 : List ((Bool) × (Int) × (Int))) (ab3 : Int) (ab4 : List ((List UInt8) × (List UInt8))) (ab5 : Int) (bb0 : List UInt8) (bb1 : Int) (bb2 : List ((Bool) × (Int) × (Int))) (bb3 : Int) (bb4 : List ((List UInt8) × (List UInt8))) (bb5 : Int) (cb0 : Nat × List ((Bool) × (Int) × (Int))) (db0 : Nat × List ((Bool) × (Int) × (Int))) (vk0 : Nat) (vk1 : Nat) : Option X :=
 bif decide (v15 < v14) then
  bif decide (0 ≤ v15) && decide (v15 < ((v13.2 : Nat) : Int)) then
   bif Nat.beq v13.1 db0.1 then
    (idx db0.2 v15).bind fun x1 =>
     (F.dec_Normal n (x1.1, x1.2.1, x1.2.2, ())).bind fun y2 =>
      bif y2.2.1 == (0 : Int) then
       bif decide (0 ≤ v15) && decide (v15 < ((v4.2 : Nat) : Int)) then
        bif Nat.beq v4.1 db0.1 then
         (idx db0.2 v15).bind fun x3 =>
          rec (v4.1, v4.2) (v13.1, v13.2) v14 (IntKind.wrap .i64 (v15 + (1 : Int))) ab0 ab1 ab2 ab3 ab4 ab5 bb0 bb1 bb2 bb3 bb4 bb5 (cb0.1, cb0.2) (v4.1, upd db0.2 (Int.toNat v15) (y2.1.1, y2.1.2.1, y2.1.2.2.1)) vk0 vk1
        else
         none
       else
        none
      else
       rec (v4.1, v4.2) (v13.1, v13.2) v14 (IntKind.wrap .i64 (v15 + (1 : Int))) ab0 ab1 ab2 ab3 ab4 ab5 bb0 bb1 bb2 bb3 bb4 bb5 (cb0.1, cb0.2) (db0.1, db0.2) vk0 vk1
   else
    none
  else
   none
 else
  k0 (v4.1, v4.2) ab0 ab1 ab2 ab3 ab4 ab5 bb0 bb1 bb2 bb3 bb4 bb5 (cb0.1, cb0.2) (db0.1, db0.2) vk0 vk1
noncomputable def F.metric_Normal.L3 {X : Type} (n : Nat) (k0 : (Nat × Nat) → (List UInt8) → Int → (List ((Bool) × (Int) × (Int))) → Int → (List ((List UInt8) × (List UInt8))) → Int → (List UInt8) → Int → (List ((Bool) × (Int) × (Int))) → Int → (List ((List UInt8) × (List UInt8))) → Int → (Nat × List ((Bool) × (Int) × (Int))) → (Nat × List ((Bool) × (Int) × (Int))) → Nat → Nat → Option X) : Nat → (Nat × Nat) → (Nat × Nat) → Int → Int → (List UInt8) → Int → (List ((Bool) × (Int) × (Int))) → Int → (List ((List UInt8) × (List UInt8))) → Int → (List UInt8) → Int → (List ((Bool) × (Int) × (Int))) → Int → (List ((List UInt8) × (List UInt8))) → Int → (Nat × List ((Bool) × (Int) × (Int))) → (Nat × List ((Bool) × (Int) × (Int))) → Nat → Nat → Option X
 | 0 => fun _ _ _ _ _ _ _ _ _ _ _ _ _ _ _ _ _ _ _ _ => none
 | m + 1 => fun v4 v13 v14 v15 ab0 ab1 ab2 ab3 ab4 ab5 bb0 bb1 bb2 bb3 bb4 bb5 cb0 db0 vk0 vk1 => F.metric_Normal.L3.step n (F.metric_Normal.L3 n k0 m) k0 v4 v13 v14 v15 ab0 ab1 ab2 ab3 ab4 ab5 bb0 bb1 bb2 bb3 bb4 bb5 cb0 db0 vk0 vk1
noncomputable def F.metric_Normal (n : Nat) (a0 : (List UInt8) × (Int) × (List ((Bool) × (Int) × (Int))) × (Int) × (List ((List UInt8) × (List UInt8))) × (Int) × Unit) : Option (((List UInt8) × (Int) × (List ((Bool) × (Int) × (Int))) × (Int) × (List ((List UInt8) × (List UInt8))) × (Int) × Unit) × (Int) × Unit) :=
 bif List.isEmpty a0.2.2.1 then
  both
   (
    F.metric_Normal.L3 n
     (fun e4 g0 g1 g2 g3 g4 g5 h0 h1 h2 h3 h4 h5 i0 j0 ek0 ek1 =>
      bif Nat.beq e4.1 j0.1 then
       (F.metric_Check n (g0, g1, j0.2, g3, g4, g5, ())).bind fun y5 =>
        bif !(y5 == (0 : Int)) then
         some ((([], (0 : Int), [], (0 : Int), [], (0 : Int), ()), y5, ()))
        else
         (F.tag_Normal n g4).bind fun y6 =>
          some (((g0, g1, j0.2, g3, y6, g5, ()), (0 : Int), ()))
      else
       none) n (1, 0) (1, 0) (0 : Int) (0 : Int) a0.1 a0.2.1 a0.2.2.1 a0.2.2.2.1 a0.2.2.2.2.1 a0.2.2.2.2.2.1 [] (0 : Int) [] (0 : Int) [] (0 : Int) (1, []) (1, []) 0 0)
   (
    bif decide ((0 + a0.2.2.1.length) * 24 ≤ 2 ^ 46) && decide (0 < 24 ∧ 24 ≤ 2 ^ 20) then
     F.metric_Normal.L3 n
      (fun e4 g0 g1 g2 g3 g4 g5 h0 h1 h2 h3 h4 h5 i0 j0 ek0 ek1 =>
       bif Nat.beq e4.1 j0.1 then
        (F.metric_Check n (g0, g1, j0.2, g3, g4, g5, ())).bind fun y8 =>
         bif !(y8 == (0 : Int)) then
          some ((([], (0 : Int), [], (0 : Int), [], (0 : Int), ()), y8, ()))
         else
          (F.tag_Normal n g4).bind fun y9 =>
           some (((g0, g1, j0.2, g3, y9, g5, ()), (0 : Int), ()))
       else
        none) n (2, ([] ++ a0.2.2.1).length) (2, ([] ++ a0.2.2.1).length) ((([] ++ a0.2.2.1).length : Nat) : Int) (0 : Int) a0.1 a0.2.1 a0.2.2.1 a0.2.2.2.1 a0.2.2.2.2.1 a0.2.2.2.2.2.1 [] (0 : Int) [] (0 : Int) [] (0 : Int) (1, []) (2, [] ++ a0.2.2.1) 0 0
    else
     none)
 else
 bif decide ((0 + a0.2.2.1.length) * 24 ≤ 2 ^ 46) && decide (0 < 24 ∧ 24 ≤ 2 ^ 20) then
  F.metric_Normal.L3 n
   (fun e4 g0 g1 g2 g3 g4 g5 h0 h1 h2 h3 h4 h5 i0 j0 ek0 ek1 =>
    bif Nat.beq e4.1 j0.1 then
     (F.metric_Check n (g0, g1, j0.2, g3, g4, g5, ())).bind fun y11 =>
      bif !(y11 == (0 : Int)) then
       some ((([], (0 : Int), [], (0 : Int), [], (0 : Int), ()), y11, ()))
      else
       (F.tag_Normal n g4).bind fun y12 =>
        some (((g0, g1, j0.2, g3, y12, g5, ()), (0 : Int), ()))
    else
     none) n (2, ([] ++ a0.2.2.1).length) (2, ([] ++ a0.2.2.1).length) ((([] ++ a0.2.2.1).length : Nat) : Int) (0 : Int) a0.1 a0.2.1 a0.2.2.1 a0.2.2.2.1 a0.2.2.2.2.1 a0.2.2.2.2.2.1 [] (0 : Int) [] (0 : Int) [] (0 : Int) (1, []) (2, [] ++ a0.2.2.1) 0 0
 else
  none
noncomputable def F.dec_Text (n : Nat) (a0 : (Bool) × (Int) × (Int) × Unit) : Option ((List UInt8) × (Int) × Unit) :=
 (F.dec_Check n (a0.1, a0.2.1, a0.2.2.1, ())).bind fun y1 =>
  bif !(y1 == (0 : Int)) then
   some (([], y1, ()))
  else
   (O.futoa n a0.2.1 (10 : Int)).bind fun y2 =>
    bif decide (a0.2.2.1 ≥ (0 : Int)) then
     (O.repeat' n ([48]) a0.2.2.1).bind fun y3 =>
      bif decide (y2.length + y3.length ≤ strMax) then
       bif a0.1 then
        bif decide (1 + ((y2 ++ y3).length) ≤ strMax) then
         some ((([45]) ++ (y2 ++ y3), (0 : Int), ()))
        else
         none
       else
        some ((y2 ++ y3, (0 : Int), ()))
      else
       none
    else
     (O.repeat' n ([48]) (if (IntKind.wrap .i64 ((IntKind.wrap .i64 ((1 : Int) - a0.2.2.1)) - (y2.length : Int))) > (0 : Int) then (IntKind.wrap .i64 ((IntKind.wrap .i64 ((1 : Int) - a0.2.2.1)) - (y2.length : Int))) else (0 : Int))).bind fun y4 =>
      bif decide (y4.length + y2.length ≤ strMax) then
       (sub (y4 ++ y2) (0 : Int) (IntKind.wrap .i64 (((y4 ++ y2).length : Int) + a0.2.2.1))).bind fun x5 =>
        bif decide (x5.length + 1 ≤ strMax) then
         (sub (y4 ++ y2) (IntKind.wrap .i64 (((y4 ++ y2).length : Int) + a0.2.2.1)) ((y4 ++ y2).length : Int)).bind fun x6 =>
          bif decide (((x5 ++ ([46])).length) + x6.length ≤ strMax) then
           bif a0.1 then
            bif decide (1 + (((x5 ++ ([46])) ++ x6).length) ≤ strMax) then
             some ((([45]) ++ ((x5 ++ ([46])) ++ x6), (0 : Int), ()))
            else
             none
           else
            some (((x5 ++ ([46])) ++ x6, (0 : Int), ()))
          else
           none
        else
         none
      else
       none
noncomputable def F.num_RateText (n : Nat) (a0 : Int) : Option ((List UInt8) × (Int) × Unit) :=
 bif decide (a0 < (1 : Int)) then
  some (([], (10 : Int), ()))
 else
 bif decide (a0 > (1000000 : Int)) then
  some (([], (10 : Int), ()))
 else
 bif a0 == (1000000 : Int) then
  some (([49], (0 : Int), ()))
 else
  (O.itoa n (IntKind.wrap .i64 ((1000000 : Int) + a0))).bind fun y1 =>
   (sub y1 (1 : Int) (y1.length : Int)).bind fun x2 =>
    (O.trimR n x2 ([48])).bind fun y3 =>
     bif decide (2 + y3.length ≤ strMax) then
      some ((([48, 46]) ++ y3, (0 : Int), ()))
     else
      none
noncomputable def F.tag_Text.L3.step {X : Type} (n : Nat) (rec : (List (List UInt8)) → (List ((List UInt8) × (List UInt8))) → Int → Int → Nat → Option X) (k0 : (List (List UInt8)) → Nat → Option X) (kr : (List UInt8) → Int → Int → Option X) (v5 : List (List UInt8)) (v10 : List ((List UInt8) × (List UInt8))) (v11 : Int) (v12 : Int) (vk0 : Nat) : Option X :=
 bif decide (v12 < v11) then
  (idx v10 v12).bind fun x1 =>
   (F.tag_Check n (x1.1, x1.2, ())).bind fun y2 =>
    bif !(y2 == (0 : Int)) then
     kr [] v12 y2
    else
    bif !(x1.2 == []) then
     bif decide (1 + x1.2.length ≤ strMax) then
      bif decide (x1.1.length + ((([58]) ++ x1.2).length) ≤ strMax) then
       bif decide ((v5.length + 1) * 16 ≤ 2 ^ 46) && decide (0 < 16 ∧ 16 ≤ 2 ^ 20) then
        bif Nat.beq vk0 v5.length then
         rec (v5 ++ ([x1.1 ++ (([58]) ++ x1.2)])) v10 v11 (IntKind.wrap .i64 (v12 + (1 : Int))) ((v5 ++ ([x1.1 ++ (([58]) ++ x1.2)])).length)
        else
         none
       else
        none
      else
       none
     else
      none
    else
    bif decide ((v5.length + 1) * 16 ≤ 2 ^ 46) && decide (0 < 16 ∧ 16 ≤ 2 ^ 20) then
     bif Nat.beq vk0 v5.length then
      rec (v5 ++ ([x1.1])) v10 v11 (IntKind.wrap .i64 (v12 + (1 : Int))) ((v5 ++ ([x1.1])).length)
     else
      none
    else
     none
 else
  k0 v5 vk0
noncomputable def F.tag_Text.L3 {X : Type} (n : Nat) (k0 : (List (List UInt8)) → Nat → Option X) (kr : (List UInt8) → Int → Int → Option X) : Nat → (List (List UInt8)) → (List ((List UInt8) × (List UInt8))) → Int → Int → Nat → Option X
 | 0 => fun _ _ _ _ _ => none
 | m + 1 => fun v5 v10 v11 v12 vk0 => F.tag_Text.L3.step n (F.tag_Text.L3 n k0 kr m) k0 kr v5 v10 v11 v12 vk0
noncomputable def F.tag_Text (n : Nat) (a0 : List ((List UInt8) × (List UInt8))) : Option ((List UInt8) × (Int) × (Int) × Unit) :=
 F.tag_Text.L3 n
  (fun e5 ek0 =>
   (O.join n e5 ([44])).bind fun y4 =>
    some ((y4, (0 : Int), (0 : Int), ())))
  (fun e2 e3 e4 =>
   some ((e2, e3, e4, ()))) n [] a0 (a0.length : Int) (0 : Int) 0
noncomputable def F.num_Text (n : Nat) (a0 : Int) : Option ((List UInt8) × (Int) × Unit) :=
 bif decide (a0 < (0 : Int)) then
  some (([], (10 : Int), ()))
 else
  (O.itoa n a0).bind fun y1 =>
   some ((y1, (0 : Int), ()))
noncomputable def F.dog_Line.L9.step {X : Type} (n : Nat) (rec : (List ((Bool) × (Int) × (Int))) → Int → Int → (List UInt8) → Int → (List ((Bool) × (Int) × (Int))) → Int → (List ((List UInt8) × (List UInt8))) → Int → (Nat × List (UInt8)) → (Nat × Nat) → Int → Option X) (k0 : (List UInt8) → Int → (List ((Bool) × (Int) × (Int))) → Int → (List ((List UInt8) × (List UInt8))) → Int → (Nat × List (UInt8)) → (Nat × Nat) → Int → Option X) (v34 : List ((Bool) × (Int) × (Int))) (v35 : Int) (v36 : Int) (ab0 : List UInt8) (ab1 : Int) (ab2 : List ((Bool) × (Int) × (Int))) (ab3 : Int) (ab4 : List ((List UInt8) × (List UInt8))) (ab5 : Int) (bb0 : Nat × List (UInt8)) (cb1 : Nat × Nat) (db0 : Int) : Option X :=
 bif decide (v36 < v35) then
  (idx v34 v36).bind fun x2 =>
   (F.dec_Text n (x2.1, x2.2.1, x2.2.2, ())).bind fun y3 =>
    bif db0 == (0 : Int) then
     bif decide (1 + y3.1.length ≤ strMax) then
      bif Nat.beq cb1.1 bb0.1 then
       bif decide ((bb0.2.length + ((([58]) ++ y3.1).length)) * 1 ≤ 2 ^ 46) && decide (0 < 1 ∧ 1 ≤ 2 ^ 20) then
        rec v34 v35 (IntKind.wrap .i64 (v36 + (1 : Int))) ab0 ab1 ab2 ab3 ab4 ab5 (cb1.1 + 1, bb0.2 ++ (([58]) ++ y3.1)) (cb1.1 + 1, (bb0.2 ++ (([58]) ++ y3.1)).length) y3.2.1
       else
        none
      else
       none
     else
      none
    else
    bif decide (1 + y3.1.length ≤ strMax) then
     bif Nat.beq cb1.1 bb0.1 then
      bif decide ((bb0.2.length + ((([58]) ++ y3.1).length)) * 1 ≤ 2 ^ 46) && decide (0 < 1 ∧ 1 ≤ 2 ^ 20) then
       rec v34 v35 (IntKind.wrap .i64 (v36 + (1 : Int))) ab0 ab1 ab2 ab3 ab4 ab5 (cb1.1 + 1, bb0.2 ++ (([58]) ++ y3.1)) (cb1.1 + 1, (bb0.2 ++ (([58]) ++ y3.1)).length) db0
      else
       none
     else
      none
    else
     none
 else
  k0 ab0 ab1 ab2 ab3 ab4 ab5 (bb0.1, bb0.2) (cb1.1, cb1.2) db0
noncomputable def F.dog_Line.L9 {X : Type} (n : Nat) (k0 : (List UInt8) → Int → (List ((Bool) × (Int) × (Int))) → Int → (List ((List UInt8) × (List UInt8))) → Int → (Nat × List (UInt8)) → (Nat × Nat) → Int → Option X) : Nat → (List ((Bool) × (Int) × (Int))) → Int → Int → (List UInt8) → Int → (List ((Bool) × (Int) × (Int))) → Int → (List ((List UInt8) × (List UInt8))) → Int → (Nat × List (UInt8)) → (Nat × Nat) → Int → Option X
 | 0 => fun _ _ _ _ _ _ _ _ _ _ _ _ => none
 | m + 1 => fun v34 v35 v36 ab0 ab1 ab2 ab3 ab4 ab5 bb0 cb1 db0 => F.dog_Line.L9.step n (F.dog_Line.L9 n k0 m) k0 v34 v35 v36 ab0 ab1 ab2 ab3 ab4 ab5 bb0 cb1 db0
noncomputable def F.dog_Line.C25 {X : Type} (n : Nat) (kr : (List UInt8) → Int → Option X) (ab0 : List UInt8) (ab1 : Int) (ab2 : List ((Bool) × (Int) × (Int))) (ab3 : Int) (ab4 : List ((List UInt8) × (List UInt8))) (ab5 : Int) (bb0 : Nat × List (UInt8)) (cb1 : Nat × Nat) (db0 : Int) : Option X :=
 bif !(db0 == (0 : Int)) then
  kr [] db0
 else
 bif Nat.beq cb1.1 bb0.1 then
  bif List.isEmpty bb0.2 then
   none
  else
   kr bb0.2 (0 : Int)
 else
  none
noncomputable def F.dog_Line.C22 {X : Type} (n : Nat) (kr : (List UInt8) → Int → Option X) (ab0 : List UInt8) (ab1 : Int) (ab2 : List ((Bool) × (Int) × (Int))) (ab3 : Int) (ab4 : List ((List UInt8) × (List UInt8))) (ab5 : Int) (bb0 : Nat × List (UInt8)) (cb1 : Nat × Nat) (db0 : Int) : Option X :=
 bif !(ab5 == (0 : Int)) then
  (F.num_Text n ab5).bind fun y12 =>
   bif db0 == (0 : Int) then
    bif decide (2 + y12.1.length ≤ strMax) then
     bif Nat.beq cb1.1 bb0.1 then
      bif decide ((bb0.2.length + ((([124, 84]) ++ y12.1).length)) * 1 ≤ 2 ^ 46) && decide (0 < 1 ∧ 1 ≤ 2 ^ 20) then
       F.dog_Line.C25 n
        (fun e2 e3 =>
         kr e2 e3) ab0 ab1 ab2 ab3 ab4 ab5 (cb1.1 + 1, bb0.2 ++ (([124, 84]) ++ y12.1)) (cb1.1 + 1, (bb0.2 ++ (([124, 84]) ++ y12.1)).length) y12.2.1
      else
       none
     else
      none
    else
     none
   else
   bif decide (2 + y12.1.length ≤ strMax) then
    bif Nat.beq cb1.1 bb0.1 then
     bif decide ((bb0.2.length + ((([124, 84]) ++ y12.1).length)) * 1 ≤ 2 ^ 46) && decide (0 < 1 ∧ 1 ≤ 2 ^ 20) then
      F.dog_Line.C25 n
       (fun e2 e3 =>
        kr e2 e3) ab0 ab1 ab2 ab3 ab4 ab5 (cb1.1 + 1, bb0.2 ++ (([124, 84]) ++ y12.1)) (cb1.1 + 1, (bb0.2 ++ (([124, 84]) ++ y12.1)).length) db0
     else
      none
    else
     none
   else
    none
 else
  F.dog_Line.C25 n
   (fun e2 e3 =>
    kr e2 e3) ab0 ab1 ab2 ab3 ab4 ab5 (bb0.1, bb0.2) (cb1.1, cb1.2) db0
noncomputable def F.dog_Line.C19 {X : Type} (n : Nat) (kr : (List UInt8) → Int → Option X) (ab0 : List UInt8) (ab1 : Int) (ab2 : List ((Bool) × (Int) × (Int))) (ab3 : Int) (ab4 : List ((List UInt8) × (List UInt8))) (ab5 : Int) (bb0 : Nat × List (UInt8)) (cb1 : Nat × Nat) (db0 : Int) : Option X :=
 bif decide ((ab4.length : Int) > (0 : Int)) then
  (F.tag_Text n ab4).bind fun y19 =>
   bif db0 == (0 : Int) then
    bif decide (2 + y19.1.length ≤ strMax) then
     bif Nat.beq cb1.1 bb0.1 then
      bif decide ((bb0.2.length + ((([124, 35]) ++ y19.1).length)) * 1 ≤ 2 ^ 46) && decide (0 < 1 ∧ 1 ≤ 2 ^ 20) then
       F.dog_Line.C22 n
        (fun e2 e3 =>
         kr e2 e3) ab0 ab1 ab2 ab3 ab4 ab5 (cb1.1 + 1, bb0.2 ++ (([124, 35]) ++ y19.1)) (cb1.1 + 1, (bb0.2 ++ (([124, 35]) ++ y19.1)).length) y19.2.2.1
      else
       none
     else
      none
    else
     none
   else
   bif decide (2 + y19.1.length ≤ strMax) then
    bif Nat.beq cb1.1 bb0.1 then
     bif decide ((bb0.2.length + ((([124, 35]) ++ y19.1).length)) * 1 ≤ 2 ^ 46) && decide (0 < 1 ∧ 1 ≤ 2 ^ 20) then
      F.dog_Line.C22 n
       (fun e2 e3 =>
        kr e2 e3) ab0 ab1 ab2 ab3 ab4 ab5 (cb1.1 + 1, bb0.2 ++ (([124, 35]) ++ y19.1)) (cb1.1 + 1, (bb0.2 ++ (([124, 35]) ++ y19.1)).length) db0
     else
      none
    else
     none
   else
    none
 else
  F.dog_Line.C22 n
   (fun e2 e3 =>
    kr e2 e3) ab0 ab1 ab2 ab3 ab4 ab5 (bb0.1, bb0.2) (cb1.1, cb1.2) db0
noncomputable def F.dog_Line.C16 {X : Type} (n : Nat) (kr : (List UInt8) → Int → Option X) (ab0 : List UInt8) (ab1 : Int) (ab2 : List ((Bool) × (Int) × (Int))) (ab3 : Int) (ab4 : List ((List UInt8) × (List UInt8))) (ab5 : Int) (bb0 : Nat × List (UInt8)) (cb1 : Nat × Nat) (db0 : Int) : Option X :=
 bif !(ab3 == (1000000 : Int)) then
  (F.num_RateText n ab3).bind fun y26 =>
   bif db0 == (0 : Int) then
    bif decide (2 + y26.1.length ≤ strMax) then
     bif Nat.beq cb1.1 bb0.1 then
      bif decide ((bb0.2.length + ((([124, 64]) ++ y26.1).length)) * 1 ≤ 2 ^ 46) && decide (0 < 1 ∧ 1 ≤ 2 ^ 20) then
       F.dog_Line.C19 n
        (fun e2 e3 =>
         kr e2 e3) ab0 ab1 ab2 ab3 ab4 ab5 (cb1.1 + 1, bb0.2 ++ (([124, 64]) ++ y26.1)) (cb1.1 + 1, (bb0.2 ++ (([124, 64]) ++ y26.1)).length) y26.2.1
      else
       none
     else
      none
    else
     none
   else
   bif decide (2 + y26.1.length ≤ strMax) then
    bif Nat.beq cb1.1 bb0.1 then
     bif decide ((bb0.2.length + ((([124, 64]) ++ y26.1).length)) * 1 ≤ 2 ^ 46) && decide (0 < 1 ∧ 1 ≤ 2 ^ 20) then
      F.dog_Line.C19 n
       (fun e2 e3 =>
        kr e2 e3) ab0 ab1 ab2 ab3 ab4 ab5 (cb1.1 + 1, bb0.2 ++ (([124, 64]) ++ y26.1)) (cb1.1 + 1, (bb0.2 ++ (([124, 64]) ++ y26.1)).length) db0
     else
      none
    else
     none
   else
    none
 else
  F.dog_Line.C19 n
   (fun e2 e3 =>
    kr e2 e3) ab0 ab1 ab2 ab3 ab4 ab5 (bb0.1, bb0.2) (cb1.1, cb1.2) db0
noncomputable def F.dog_Line (n : Nat) (a0 : (List UInt8) × (Int) × (List ((Bool) × (Int) × (Int))) × (Int) × (List ((List UInt8) × (List UInt8))) × (Int) × Unit) : Option ((List UInt8) × (Int) × Unit) :=
 (F.metric_Normal n (a0.1, a0.2.1, a0.2.2.1, a0.2.2.2.1, a0.2.2.2.2.1, a0.2.2.2.2.2.1, ())).bind fun y1 =>
  bif !(y1.2.1 == (0 : Int)) then
   some (([], y1.2.1, ()))
  else
  bif decide (0 + y1.1.1.length ≤ strMax) then
   bif decide ((0 + (([] ++ y1.1.1).length)) * 1 ≤ 2 ^ 46) && decide (0 < 1 ∧ 1 ≤ 2 ^ 20) then
    F.dog_Line.L9 n
     (fun g0 g1 g2 g3 g4 g5 h0 i1 j0 =>
      (F.dog_Word n g1).bind fun y5 =>
       bif j0 == (0 : Int) then
        bif decide (1 + y5.1.length ≤ strMax) then
         bif Nat.beq i1.1 h0.1 then
          bif decide ((h0.2.length + ((([124]) ++ y5.1).length)) * 1 ≤ 2 ^ 46) && decide (0 < 1 ∧ 1 ≤ 2 ^ 20) then
           F.dog_Line.C16 n
            (fun e2 e3 =>
             some ((e2, e3, ()))) g0 g1 g2 g3 g4 g5 (i1.1 + 1, h0.2 ++ (([124]) ++ y5.1)) (i1.1 + 1, (h0.2 ++ (([124]) ++ y5.1)).length) y5.2.1
          else
           none
         else
          none
        else
         none
       else
       bif decide (1 + y5.1.length ≤ strMax) then
        bif Nat.beq i1.1 h0.1 then
         bif decide ((h0.2.length + ((([124]) ++ y5.1).length)) * 1 ≤ 2 ^ 46) && decide (0 < 1 ∧ 1 ≤ 2 ^ 20) then
          F.dog_Line.C16 n
           (fun e2 e3 =>
            some ((e2, e3, ()))) g0 g1 g2 g3 g4 g5 (i1.1 + 1, h0.2 ++ (([124]) ++ y5.1)) (i1.1 + 1, (h0.2 ++ (([124]) ++ y5.1)).length) j0
         else
          none
        else
         none
       else
        none) n y1.1.2.2.1 (y1.1.2.2.1.length : Int) (0 : Int) y1.1.1 y1.1.2.1 y1.1.2.2.1 y1.1.2.2.2.1 y1.1.2.2.2.2.1 y1.1.2.2.2.2.2.1 (2, [] ++ ([] ++ y1.1.1)) (2, ([] ++ ([] ++ y1.1.1)).length) (0 : Int)
   else
    none
  else
   none
noncomputable def F.dog_Kind.L2.step {X : Type} (n : Nat) (rec : (List UInt8) → ((List UInt8) × (List UInt8) × (List UInt8) × (List UInt8) × (List UInt8) × (List UInt8) × Unit) → Int → Option X) (k0 : Unit → Option X) (kr : Int → Int → Option X) (v0 : List UInt8) (v6 : (List UInt8) × (List UInt8) × (List UInt8) × (List UInt8) × (List UInt8) × (List UInt8) × Unit) (v7 : Int) : Option X :=
 bif decide (v7 < (6 : Int)) then
  bif v7 == (0 : Int) then
   bif !(v6.1 == []) then
    bif v6.1 == v0 then
     kr v7 (0 : Int)
    else
     rec v0 (v6.1, v6.2.1, v6.2.2.1, v6.2.2.2.1, v6.2.2.2.2.1, v6.2.2.2.2.2.1, ()) (IntKind.wrap .i64 (v7 + (1 : Int)))
   else
    rec v0 (v6.1, v6.2.1, v6.2.2.1, v6.2.2.2.1, v6.2.2.2.2.1, v6.2.2.2.2.2.1, ()) (IntKind.wrap .i64 (v7 + (1 : Int)))
  else
  bif v7 == (1 : Int) then
   bif !(v6.2.1 == []) then
    bif v6.2.1 == v0 then
     kr v7 (0 : Int)
    else
     rec v0 (v6.1, v6.2.1, v6.2.2.1, v6.2.2.2.1, v6.2.2.2.2.1, v6.2.2.2.2.2.1, ()) (IntKind.wrap .i64 (v7 + (1 : Int)))
   else
    rec v0 (v6.1, v6.2.1, v6.2.2.1, v6.2.2.2.1, v6.2.2.2.2.1, v6.2.2.2.2.2.1, ()) (IntKind.wrap .i64 (v7 + (1 : Int)))
  else
  bif v7 == (2 : Int) then
   bif !(v6.2.2.1 == []) then
    bif v6.2.2.1 == v0 then
     kr v7 (0 : Int)
    else
     rec v0 (v6.1, v6.2.1, v6.2.2.1, v6.2.2.2.1, v6.2.2.2.2.1, v6.2.2.2.2.2.1, ()) (IntKind.wrap .i64 (v7 + (1 : Int)))
   else
    rec v0 (v6.1, v6.2.1, v6.2.2.1, v6.2.2.2.1, v6.2.2.2.2.1, v6.2.2.2.2.2.1, ()) (IntKind.wrap .i64 (v7 + (1 : Int)))
  else
  bif v7 == (3 : Int) then
   bif !(v6.2.2.2.1 == []) then
    bif v6.2.2.2.1 == v0 then
     kr v7 (0 : Int)
    else
     rec v0 (v6.1, v6.2.1, v6.2.2.1, v6.2.2.2.1, v6.2.2.2.2.1, v6.2.2.2.2.2.1, ()) (IntKind.wrap .i64 (v7 + (1 : Int)))
   else
    rec v0 (v6.1, v6.2.1, v6.2.2.1, v6.2.2.2.1, v6.2.2.2.2.1, v6.2.2.2.2.2.1, ()) (IntKind.wrap .i64 (v7 + (1 : Int)))
  else
  bif v7 == (4 : Int) then
   bif !(v6.2.2.2.2.1 == []) then
    bif v6.2.2.2.2.1 == v0 then
     kr v7 (0 : Int)
    else
     rec v0 (v6.1, v6.2.1, v6.2.2.1, v6.2.2.2.1, v6.2.2.2.2.1, v6.2.2.2.2.2.1, ()) (IntKind.wrap .i64 (v7 + (1 : Int)))
   else
    rec v0 (v6.1, v6.2.1, v6.2.2.1, v6.2.2.2.1, v6.2.2.2.2.1, v6.2.2.2.2.2.1, ()) (IntKind.wrap .i64 (v7 + (1 : Int)))
  else
  bif v7 == (5 : Int) then
   bif !(v6.2.2.2.2.2.1 == []) then
    bif v6.2.2.2.2.2.1 == v0 then
     kr v7 (0 : Int)
    else
     rec v0 (v6.1, v6.2.1, v6.2.2.1, v6.2.2.2.1, v6.2.2.2.2.1, v6.2.2.2.2.2.1, ()) (IntKind.wrap .i64 (v7 + (1 : Int)))
   else
    rec v0 (v6.1, v6.2.1, v6.2.2.1, v6.2.2.2.1, v6.2.2.2.2.1, v6.2.2.2.2.2.1, ()) (IntKind.wrap .i64 (v7 + (1 : Int)))
  else
   none
 else
  k0 ()
noncomputable def F.dog_Kind.L2 {X : Type} (n : Nat) (k0 : Unit → Option X) (kr : Int → Int → Option X) : Nat → (List UInt8) → ((List UInt8) × (List UInt8) × (List UInt8) × (List UInt8) × (List UInt8) × (List UInt8) × Unit) → Int → Option X
 | 0 => fun _ _ _ => none
 | m + 1 => fun v0 v6 v7 => F.dog_Kind.L2.step n (F.dog_Kind.L2 n k0 kr m) k0 kr v0 v6 v7
noncomputable def F.dog_Kind (n : Nat) (a0 : List UInt8) : Option ((Int) × (Int) × Unit) :=
 (F.dog_words n ).bind fun y1 =>
  F.dog_Kind.L2 n
   (fun (_ : Unit) =>
    some (((0 : Int), (16 : Int), ())))
   (fun e2 e3 =>
    some ((e2, e3, ()))) n a0 (y1.1, y1.2.1, y1.2.2.1, y1.2.2.2.1, y1.2.2.2.2.1, y1.2.2.2.2.2.1, ()) (0 : Int)
noncomputable def F.stringslite_Cut (n : Nat) (a0 : List UInt8) (a1 : List UInt8) : Option ((List UInt8) × (List UInt8) × (Bool) × Unit) :=
 (O.index1 n a0 a1).bind fun y1 =>
  bif decide (y1 ≥ (0 : Int)) then
   (sub a0 (0 : Int) y1).bind fun x2 =>
    (sub a0 (IntKind.wrap .i64 (y1 + (a1.length : Int))) (a0.length : Int)).bind fun x3 =>
     some ((x2, x3, true, ()))
  else
   some ((a0, [], false, ()))
noncomputable def F.strings_Cut (n : Nat) (a0 : List UInt8) (a1 : List UInt8) : Option ((List UInt8) × (List UInt8) × (Bool) × Unit) :=
 (F.stringslite_Cut n a0 a1).bind fun y1 =>
  some ((y1.1, y1.2.1, y1.2.2.1, ()))
noncomputable def F.stringslite_HasPrefix (n : Nat) (a0 : List UInt8) (a1 : List UInt8) : Option (Bool) :=
 bif decide ((a0.length : Int) ≥ (a1.length : Int)) then
  (sub a0 (0 : Int) (a1.length : Int)).bind fun x1 =>
   some (x1 == a1)
 else
  some (false)
noncomputable def F.stringslite_CutPrefix (n : Nat) (a0 : List UInt8) (a1 : List UInt8) : Option ((List UInt8) × (Bool) × Unit) :=
 (F.stringslite_HasPrefix n a0 a1).bind fun y1 =>
  bif !y1 then
   some ((a0, false, ()))
  else
   (sub a0 (a1.length : Int) (a0.length : Int)).bind fun x2 =>
    some ((x2, true, ()))
noncomputable def F.strings_CutPrefix (n : Nat) (a0 : List UInt8) (a1 : List UInt8) : Option ((List UInt8) × (Bool) × Unit) :=
 (F.stringslite_CutPrefix n a0 a1).bind fun y1 =>
  some ((y1.1, y1.2.1, ()))
noncomputable def F.strings_HasPrefix (n : Nat) (a0 : List UInt8) (a1 : List UInt8) : Option (Bool) :=
 (F.stringslite_HasPrefix n a0 a1).bind fun y1 =>
  some (y1)
noncomputable def F.dec_look.L2_dec_look_1.step {X : Type} (n : Nat) (rec : Int → (List UInt8) → Int → Int → Int → Option X) (k0 : Int → (List UInt8) → Int → Int → Int → Option X) (v3 : Int) (ab0 : List UInt8) (bb0 : Int) (bb1 : Int) (cb0 : Int) : Option X :=
 bif decide (cb0 < (ab0.length : Int)) then
  (idx ab0 cb0).bind fun x2 =>
   bif decide (((x2).toNat) ≥ (48 : Int)) then
    (idx ab0 cb0).bind fun x3 =>
     bif decide (((x3).toNat) ≤ (57 : Int)) then
      rec v3 ab0 bb0 bb1 (IntKind.wrap .i64 (cb0 + (1 : Int)))
     else
      k0 v3 ab0 bb0 bb1 cb0
   else
    k0 v3 ab0 bb0 bb1 cb0
 else
  k0 v3 ab0 bb0 bb1 cb0
noncomputable def F.dec_look.L2_dec_look_1 {X : Type} (n : Nat) (k0 : Int → (List UInt8) → Int → Int → Int → Option X) : Nat → Int → (List UInt8) → Int → Int → Int → Option X
 | 0 => fun _ _ _ _ _ => none
 | m + 1 => fun v3 ab0 bb0 bb1 cb0 => F.dec_look.L2_dec_look_1.step n (F.dec_look.L2_dec_look_1 n k0 m) k0 v3 ab0 bb0 bb1 cb0
noncomputable def F.dec_look (n : Nat) (a0 : List UInt8) : Option ((Int) × (Int) × Unit) :=
 (F.strings_HasPrefix n a0 ([45])).bind fun y1 =>
  bif y1 then
   F.dec_look.L2_dec_look_1 n
    (fun e3 g0 h0 h1 i0 =>
     bif decide (i0 > e3) then
      (sub g0 i0 (g0.length : Int)).bind fun x5 =>
       (F.strings_HasPrefix n x5 ([46])).bind fun y6 =>
        bif y6 then
         F.dec_look.L2_dec_look_1 n
          (fun e3 g0 h0 h1 i0 =>
           bif decide (i0 > e3) then
            bif i0 == (g0.length : Int) then
             some (((0 : Int), (0 : Int), ()))
            else
            bif i0 == (g0.length : Int) then
             some (((11 : Int), i0, ()))
            else
             some (((14 : Int), i0, ()))
           else
           bif i0 == (g0.length : Int) then
            some (((11 : Int), i0, ()))
           else
            some (((14 : Int), i0, ()))) n (IntKind.wrap .i64 (i0 + (1 : Int))) g0 h0 h1 (IntKind.wrap .i64 (i0 + (1 : Int)))
        else
        bif decide (i0 > e3) then
         bif i0 == (g0.length : Int) then
          some (((0 : Int), (0 : Int), ()))
         else
         bif i0 == (g0.length : Int) then
          some (((11 : Int), i0, ()))
         else
          some (((14 : Int), i0, ()))
        else
        bif i0 == (g0.length : Int) then
         some (((11 : Int), i0, ()))
        else
         some (((14 : Int), i0, ()))
     else
     bif decide (i0 > e3) then
      bif i0 == (g0.length : Int) then
       some (((0 : Int), (0 : Int), ()))
      else
      bif i0 == (g0.length : Int) then
       some (((11 : Int), i0, ()))
      else
       some (((14 : Int), i0, ()))
     else
     bif i0 == (g0.length : Int) then
      some (((11 : Int), i0, ()))
     else
      some (((14 : Int), i0, ()))) n (1 : Int) a0 (0 : Int) (0 : Int) (1 : Int)
  else
   F.dec_look.L2_dec_look_1 n
    (fun e3 g0 h0 h1 i0 =>
     bif decide (i0 > e3) then
      (sub g0 i0 (g0.length : Int)).bind fun x9 =>
       (F.strings_HasPrefix n x9 ([46])).bind fun y10 =>
        bif y10 then
         F.dec_look.L2_dec_look_1 n
          (fun e3 g0 h0 h1 i0 =>
           bif decide (i0 > e3) then
            bif i0 == (g0.length : Int) then
             some (((0 : Int), (0 : Int), ()))
            else
            bif i0 == (g0.length : Int) then
             some (((11 : Int), i0, ()))
            else
             some (((14 : Int), i0, ()))
           else
           bif i0 == (g0.length : Int) then
            some (((11 : Int), i0, ()))
           else
            some (((14 : Int), i0, ()))) n (IntKind.wrap .i64 (i0 + (1 : Int))) g0 h0 h1 (IntKind.wrap .i64 (i0 + (1 : Int)))
        else
        bif decide (i0 > e3) then
         bif i0 == (g0.length : Int) then
          some (((0 : Int), (0 : Int), ()))
         else
         bif i0 == (g0.length : Int) then
          some (((11 : Int), i0, ()))
         else
          some (((14 : Int), i0, ()))
        else
        bif i0 == (g0.length : Int) then
         some (((11 : Int), i0, ()))
        else
         some (((14 : Int), i0, ()))
     else
     bif decide (i0 > e3) then
      bif i0 == (g0.length : Int) then
       some (((0 : Int), (0 : Int), ()))
      else
      bif i0 == (g0.length : Int) then
       some (((11 : Int), i0, ()))
      else
       some (((14 : Int), i0, ()))
     else
     bif i0 == (g0.length : Int) then
      some (((11 : Int), i0, ()))
     else
      some (((14 : Int), i0, ()))) n (0 : Int) a0 (0 : Int) (0 : Int) (0 : Int)
noncomputable def F.dec_Parse.L14.step {X : Type} (n : Nat) (rec : (List UInt8) → Int → Int → Bool → Int → Int → Int → Int → Int → Int → Bool → Int → Int → Option X) (k0 : Bool → Int → Int → Int → Int → Int → Int → Bool → Int → Int → Option X) (v10 : List UInt8) (v66 : Int) (v67 : Int) (ab0 : Bool) (ab1 : Int) (ab2 : Int) (bb0 : Int) (bb1 : Int) (cb0 : Int) (cb1 : Int) (db0 : Bool) (db1 : Int) (db2 : Int) : Option X :=
 bif decide (v67 < v66) then
  (idx v10 v67).bind fun x7 =>
   (F.dec_times n db1 (IntKind.wrap .u64 (IntKind.wrap .u8 (((x7).toNat) - (48 : Int))))).bind fun y8 =>
    bif !y8.2.1 then
     k0 ab0 ab1 ab2 bb0 bb1 cb0 cb1 db0 (1 : Int) (-19 : Int)
    else
     rec v10 v66 (IntKind.wrap .i64 (v67 + (1 : Int))) ab0 ab1 ab2 bb0 bb1 cb0 cb1 db0 y8.1 db2
 else
  k0 ab0 ab1 ab2 bb0 bb1 cb0 cb1 db0 db1 db2
noncomputable def F.dec_Parse.L14 {X : Type} (n : Nat) (k0 : Bool → Int → Int → Int → Int → Int → Int → Bool → Int → Int → Option X) : Nat → (List UInt8) → Int → Int → Bool → Int → Int → Int → Int → Int → Int → Bool → Int → Int → Option X
 | 0 => fun _ _ _ _ _ _ _ _ _ _ _ _ _ => none
 | m + 1 => fun v10 v66 v67 ab0 ab1 ab2 bb0 bb1 cb0 cb1 db0 db1 db2 => F.dec_Parse.L14.step n (F.dec_Parse.L14 n k0 m) k0 v10 v66 v67 ab0 ab1 ab2 bb0 bb1 cb0 cb1 db0 db1 db2
noncomputable def F.dec_Parse (n : Nat) (a0 : List UInt8) : Option (((Bool) × (Int) × (Int) × Unit) × ((Int) × (Int) × Unit) × Unit) :=
 (F.dec_look n a0).bind fun y1 =>
  bif !((y1.1 == (0 : Int)) && (y1.2.1 == (0 : Int))) then
   some (((false, (0 : Int), (0 : Int), ()), (y1.1, y1.2.1, ()), ()))
  else
   (F.strings_CutPrefix n a0 ([45])).bind fun y2 =>
    (F.strings_Cut n y2.1 ([46])).bind fun y3 =>
     (O.trimR n y3.2.1 ([48])).bind fun y4 =>
      bif decide (y3.1.length + y4.length ≤ strMax) then
       (O.trimL n (y3.1 ++ y4) ([48])).bind fun y5 =>
        (O.trimR n y5 ([48])).bind fun y6 =>
         bif (IntKind.wrap .i64 (0 - (y4.length : Int))) == (0 : Int) then
          bif decide ((y6.length : Int) < (y5.length : Int)) then
           F.dec_Parse.L14 n
            (fun g0 g1 g2 h0 h1 i0 i1 j0 j1 j2 =>
             (F.dec_Normal n (j0, j1, j2, ())).bind fun y10 =>
              bif !(y10.2.1 == (0 : Int)) then
               some (((false, (0 : Int), (0 : Int), ()), (y10.2.1, (0 : Int), ()), ()))
              else
               some (((y10.1.1, y10.1.2.1, y10.1.2.2.1, ()), ((0 : Int), (0 : Int), ()), ()))) n y6 (y6.length : Int) (0 : Int) false (0 : Int) (0 : Int) (0 : Int) (0 : Int) y1.1 y1.2.1 y2.2.1 (0 : Int) (IntKind.wrap .i64 ((y5.length : Int) - (y6.length : Int)))
          else
           F.dec_Parse.L14 n
            (fun g0 g1 g2 h0 h1 i0 i1 j0 j1 j2 =>
             (F.dec_Normal n (j0, j1, j2, ())).bind fun y12 =>
              bif !(y12.2.1 == (0 : Int)) then
               some (((false, (0 : Int), (0 : Int), ()), (y12.2.1, (0 : Int), ()), ()))
              else
               some (((y12.1.1, y12.1.2.1, y12.1.2.2.1, ()), ((0 : Int), (0 : Int), ()), ()))) n y5 (y5.length : Int) (0 : Int) false (0 : Int) (0 : Int) (0 : Int) (0 : Int) y1.1 y1.2.1 y2.2.1 (0 : Int) (IntKind.wrap .i64 (0 - (y4.length : Int)))
         else
          F.dec_Parse.L14 n
           (fun g0 g1 g2 h0 h1 i0 i1 j0 j1 j2 =>
            (F.dec_Normal n (j0, j1, j2, ())).bind fun y14 =>
             bif !(y14.2.1 == (0 : Int)) then
              some (((false, (0 : Int), (0 : Int), ()), (y14.2.1, (0 : Int), ()), ()))
             else
              some (((y14.1.1, y14.1.2.1, y14.1.2.2.1, ()), ((0 : Int), (0 : Int), ()), ()))) n y5 (y5.length : Int) (0 : Int) false (0 : Int) (0 : Int) (0 : Int) (0 : Int) y1.1 y1.2.1 y2.2.1 (0 : Int) (IntKind.wrap .i64 (0 - (y4.length : Int)))
      else
       none
noncomputable def F.num_fault (n : Nat) (a0 : Int) (a1 : Int) : Option ((Int) × ((Int) × (Int) × Unit) × Unit) :=
 some (((0 : Int), (a0, a1, ()), ()))
noncomputable def F.num_Rate.L5.step {X : Type} (n : Nat) (rec : (List UInt8) → ((Int) × (Int) × Unit) → Int → Int → Int → Int → Int → Option X) (k0 : (List UInt8) → Int → Int → Int → Int → Option X) (v0 : List UInt8) (v16 : (Int) × (Int) × Unit) (v17 : Int) (ab0 : Int) (ab1 : Int) (bb0 : Int) (bb1 : Int) : Option X :=
 bif decide (v17 < (2 : Int)) then
  bif v17 == (0 : Int) then
   bif v17 == (v0.length : Int) then
    bif v17 == (0 : Int) then
     k0 v0 ab0 ab1 (13 : Int) (0 : Int)
    else
    bif decide (v17 ≥ (v0.length : Int)) then
     k0 v0 ab0 ab1 (11 : Int) v17
    else
     (idx v0 v17).bind fun x1 =>
      bif !(((x1).toNat) == v16.1) then
       k0 v0 ab0 ab1 (11 : Int) v17
      else
       rec v0 (v16.1, v16.2.1, ()) (IntKind.wrap .i64 (v17 + (1 : Int))) ab0 ab1 bb0 bb1
   else
   bif decide (v17 ≥ (v0.length : Int)) then
    k0 v0 ab0 ab1 (11 : Int) v17
   else
    (idx v0 v17).bind fun x2 =>
     bif !(((x2).toNat) == v16.1) then
      k0 v0 ab0 ab1 (11 : Int) v17
     else
      rec v0 (v16.1, v16.2.1, ()) (IntKind.wrap .i64 (v17 + (1 : Int))) ab0 ab1 bb0 bb1
  else
  bif v17 == (1 : Int) then
   bif v17 == (v0.length : Int) then
    bif v17 == (0 : Int) then
     k0 v0 ab0 ab1 (13 : Int) (0 : Int)
    else
    bif decide (v17 ≥ (v0.length : Int)) then
     k0 v0 ab0 ab1 (11 : Int) v17
    else
     (idx v0 v17).bind fun x3 =>
      bif !(((x3).toNat) == v16.2.1) then
       k0 v0 ab0 ab1 (11 : Int) v17
      else
       rec v0 (v16.1, v16.2.1, ()) (IntKind.wrap .i64 (v17 + (1 : Int))) ab0 ab1 bb0 bb1
   else
   bif decide (v17 ≥ (v0.length : Int)) then
    k0 v0 ab0 ab1 (11 : Int) v17
   else
    (idx v0 v17).bind fun x4 =>
     bif !(((x4).toNat) == v16.2.1) then
      k0 v0 ab0 ab1 (11 : Int) v17
     else
      rec v0 (v16.1, v16.2.1, ()) (IntKind.wrap .i64 (v17 + (1 : Int))) ab0 ab1 bb0 bb1
  else
   none
 else
  k0 v0 ab0 ab1 bb0 bb1
noncomputable def F.num_Rate.L5 {X : Type} (n : Nat) (k0 : (List UInt8) → Int → Int → Int → Int → Option X) : Nat → (List UInt8) → ((Int) × (Int) × Unit) → Int → Int → Int → Int → Int → Option X
 | 0 => fun _ _ _ _ _ _ _ => none
 | m + 1 => fun v0 v16 v17 ab0 ab1 bb0 bb1 => F.num_Rate.L5.step n (F.num_Rate.L5 n k0 m) k0 v0 v16 v17 ab0 ab1 bb0 bb1
noncomputable def F.num_Rate.L23.step {X : Type} (n : Nat) (rec : (List UInt8) → Int → Int → Int → Int → Int → Int → Int → Int → Option X) (k3 : Int → Int → Int → Int → Int → Int → Int → Option X) (v7 : List UInt8) (v81 : Int) (ab0 : Int) (ab1 : Int) (bb0 : Int) (bb1 : Int) (cb0 : Int) (cb1 : Int) (db0 : Int) : Option X :=
 bif decide (v81 < (6 : Int)) then
  bif decide (v81 < (v7.length : Int)) then
   (idx v7 v81).bind fun x11 =>
    rec v7 (IntKind.wrap .i64 (v81 + (1 : Int))) ab0 ab1 bb0 bb1 cb0 cb1 (IntKind.wrap .i64 ((IntKind.wrap .i64 ((10 : Int) * db0)) + (IntKind.wrap .i64 (IntKind.wrap .u8 (((x11).toNat) - (48 : Int))))))
  else
   rec v7 (IntKind.wrap .i64 (v81 + (1 : Int))) ab0 ab1 bb0 bb1 cb0 cb1 (IntKind.wrap .i64 ((IntKind.wrap .i64 ((10 : Int) * db0)) + (0 : Int)))
 else
  k3 ab0 ab1 bb0 bb1 cb0 cb1 db0
noncomputable def F.num_Rate.L23 {X : Type} (n : Nat) (k3 : Int → Int → Int → Int → Int → Int → Int → Option X) : Nat → (List UInt8) → Int → Int → Int → Int → Int → Int → Int → Int → Option X
 | 0 => fun _ _ _ _ _ _ _ _ _ => none
 | m + 1 => fun v7 v81 ab0 ab1 bb0 bb1 cb0 cb1 db0 => F.num_Rate.L23.step n (F.num_Rate.L23 n k3 m) k3 v7 v81 ab0 ab1 bb0 bb1 cb0 cb1 db0
noncomputable def F.num_Rate (n : Nat) (a0 : List UInt8) : Option ((Int) × ((Int) × (Int) × Unit) × Unit) :=
 bif a0 == ([49]) then
  some (((1000000 : Int), ((0 : Int), (0 : Int), ()), ()))
 else
  F.num_Rate.L5 n
   (fun e0 g0 g1 h0 h1 =>
    bif !((h0 == (0 : Int)) && (h1 == (0 : Int))) then
     (F.num_fault n h0 h1).bind fun y6 =>
      some ((y6.1, (y6.2.1.1, y6.2.1.2.1, ()), ()))
    else
     (sub e0 (2 : Int) (e0.length : Int)).bind fun x7 =>
      (F.class_Text n (4 : Int) x7 (1 : Int) (IntKind.wrap .i64 ((x7.length : Int) + (1 : Int)))).bind fun y8 =>
       bif !((y8.1 == (0 : Int)) && (y8.2.1 == (0 : Int))) then
        (F.num_fault n y8.1 (IntKind.wrap .i64 ((2 : Int) + y8.2.1))).bind fun y9 =>
         some ((y9.1, (y9.2.1.1, y9.2.1.2.1, ()), ()))
       else
       bif decide ((x7.length : Int) > (6 : Int)) then
        (F.num_fault n (12 : Int) (8 : Int)).bind fun y10 =>
         some ((y10.1, (y10.2.1.1, y10.2.1.2.1, ()), ()))
       else
        F.num_Rate.L23 n
         (fun g0 g1 h0 h1 i0 i1 j0 =>
          bif j0 == (0 : Int) then
           (F.num_fault n (10 : Int) (0 : Int)).bind fun y13 =>
            some ((y13.1, (y13.2.1.1, y13.2.1.2.1, ()), ()))
          else
           some ((j0, ((0 : Int), (0 : Int), ()), ()))) n x7 (0 : Int) g0 g1 h0 h1 y8.1 y8.2.1 (0 : Int)) n a0 ((48 : Int), (46 : Int), ()) (0 : Int) (0 : Int) (0 : Int) (0 : Int) (0 : Int)
noncomputable def F.tag_Parse.L4.step {X : Type} (n : Nat) (rec : (List ((List UInt8) × (List UInt8))) → Int → (List (List UInt8)) → Int → Int → Int → Int → Nat → Option X) (k0 : (List ((List UInt8) × (List UInt8))) → Int → Int → Nat → Option X) (kr : (List ((List UInt8) × (List UInt8))) → Int → Int → Nat → Option X) (v4 : List ((List UInt8) × (List UInt8))) (v5 : Int) (v13 : List (List UInt8)) (v14 : Int) (v15 : Int) (ab0 : Int) (ab1 : Int) (vk0 : Nat) : Option X :=
 bif decide (v15 < v14) then
  (idx v13 v15).bind fun x2 =>
   (F.strings_Cut n x2 ([58])).bind fun y3 =>
    (F.tag_Check n (y3.1, y3.2.1, ())).bind fun y4 =>
     bif !(y4 == (0 : Int)) then
      kr [] (19 : Int) v5 0
     else
     bif y3.2.2.1 then
      bif y3.2.1 == [] then
       kr [] (19 : Int) v5 0
      else
      bif decide ((v4.length + 1) * 32 ≤ 2 ^ 46) && decide (0 < 32 ∧ 32 ≤ 2 ^ 20) then
       bif Nat.beq vk0 v4.length then
        rec (v4 ++ ([(y3.1, y3.2.1)])) (IntKind.wrap .i64 (v5 + (IntKind.wrap .i64 ((x2.length : Int) + (1 : Int))))) v13 v14 (IntKind.wrap .i64 (v15 + (1 : Int))) ab0 ab1 ((v4 ++ ([(y3.1, y3.2.1)])).length)
       else
        none
      else
       none
     else
     bif decide ((v4.length + 1) * 32 ≤ 2 ^ 46) && decide (0 < 32 ∧ 32 ≤ 2 ^ 20) then
      bif Nat.beq vk0 v4.length then
       rec (v4 ++ ([(y3.1, y3.2.1)])) (IntKind.wrap .i64 (v5 + (IntKind.wrap .i64 ((x2.length : Int) + (1 : Int))))) v13 v14 (IntKind.wrap .i64 (v15 + (1 : Int))) ab0 ab1 ((v4 ++ ([(y3.1, y3.2.1)])).length)
      else
       none
     else
      none
 else
  k0 v4 ab0 ab1 vk0
noncomputable def F.tag_Parse.L4 {X : Type} (n : Nat) (k0 : (List ((List UInt8) × (List UInt8))) → Int → Int → Nat → Option X) (kr : (List ((List UInt8) × (List UInt8))) → Int → Int → Nat → Option X) : Nat → (List ((List UInt8) × (List UInt8))) → Int → (List (List UInt8)) → Int → Int → Int → Int → Nat → Option X
 | 0 => fun _ _ _ _ _ _ _ _ => none
 | m + 1 => fun v4 v5 v13 v14 v15 ab0 ab1 vk0 => F.tag_Parse.L4.step n (F.tag_Parse.L4 n k0 kr m) k0 kr v4 v5 v13 v14 v15 ab0 ab1 vk0
noncomputable def F.tag_Parse (n : Nat) (a0 : List UInt8) : Option ((List ((List UInt8) × (List UInt8))) × ((Int) × (Int) × Unit) × Unit) :=
 (O.split1 n a0 ([44])).bind fun y1 =>
  F.tag_Parse.L4 n
   (fun e4 g0 g1 ek0 =>
    some ((e4, ((0 : Int), (0 : Int), ()), ())))
   (fun e2 g0 g1 ek0 =>
    some ((e2, (g0, g1, ()), ()))) n [] (0 : Int) y1 (y1.length : Int) (0 : Int) (0 : Int) (0 : Int) 0
noncomputable def F.num_Parse (n : Nat) (a0 : List UInt8) (a1 : Int) (a2 : Int) : Option ((Int) × ((Int) × (Int) × Unit) × Unit) :=
 (F.class_Text n (4 : Int) a0 (1 : Int) (IntKind.wrap .i64 ((a0.length : Int) + (1 : Int)))).bind fun y1 =>
  bif !((y1.1 == (0 : Int)) && (y1.2.1 == (0 : Int))) then
   (F.num_fault n y1.1 y1.2.1).bind fun y2 =>
    some ((y2.1, (y2.2.1.1, y2.2.1.2.1, ()), ()))
  else
   (idx a0 (0 : Int)).bind fun x3 =>
    bif ((x3).toNat) == (48 : Int) then
     bif decide ((a0.length : Int) > (1 : Int)) then
      (F.num_fault n (11 : Int) (0 : Int)).bind fun y4 =>
       some ((y4.1, (y4.2.1.1, y4.2.1.2.1, ()), ()))
     else
      (O.atoi n a0).bind fun y5 =>
       bif y5.2.1 then
        (F.num_fault n (10 : Int) (0 : Int)).bind fun y6 =>
         some ((y6.1, (y6.2.1.1, y6.2.1.2.1, ()), ()))
       else
       bif decide (y5.1 < a1) then
        (F.num_fault n (10 : Int) (0 : Int)).bind fun y7 =>
         some ((y7.1, (y7.2.1.1, y7.2.1.2.1, ()), ()))
       else
       bif decide (y5.1 > a2) then
        (F.num_fault n (10 : Int) (0 : Int)).bind fun y8 =>
         some ((y8.1, (y8.2.1.1, y8.2.1.2.1, ()), ()))
       else
        some ((y5.1, ((0 : Int), (0 : Int), ()), ()))
    else
     (O.atoi n a0).bind fun y9 =>
      bif y9.2.1 then
       (F.num_fault n (10 : Int) (0 : Int)).bind fun y10 =>
        some ((y10.1, (y10.2.1.1, y10.2.1.2.1, ()), ()))
      else
      bif decide (y9.1 < a1) then
       (F.num_fault n (10 : Int) (0 : Int)).bind fun y11 =>
        some ((y11.1, (y11.2.1.1, y11.2.1.2.1, ()), ()))
      else
      bif decide (y9.1 > a2) then
       (F.num_fault n (10 : Int) (0 : Int)).bind fun y12 =>
        some ((y12.1, (y12.2.1.1, y12.2.1.2.1, ()), ()))
      else
       some ((y9.1, ((0 : Int), (0 : Int), ()), ()))
noncomputable def F.num_Time (n : Nat) (a0 : List UInt8) : Option ((Int) × ((Int) × (Int) × Unit) × Unit) :=
 (F.num_Parse n a0 (1 : Int) (1099511627776 : Int)).bind fun y1 =>
  some ((y1.1, (y1.2.1.1, y1.2.1.2.1, ()), ()))
noncomputable def F.dog_Parse.L9_dog_reader_first.step {X : Type} (n : Nat) (rec : Int → (List (List UInt8)) → Int → Int → (List UInt8) → Int → (List ((Bool) × (Int) × (Int))) → Int → (List ((List UInt8) × (List UInt8))) → Int → Int → Int → (List UInt8) → Int → (List ((Bool) × (Int) × (Int))) → Int → (List ((List UInt8) × (List UInt8))) → Int → Int → Int → Int → Int → Int → Int → Nat → Nat → Nat → Option X) (k1 : (List UInt8) → Int → (List ((Bool) × (Int) × (Int))) → Int → (List ((List UInt8) × (List UInt8))) → Int → Int → Int → (List UInt8) → Int → (List ((Bool) × (Int) × (Int))) → Int → (List ((List UInt8) × (List UInt8))) → Int → Int → Int → Int → Int → Int → Int → Nat → Nat → Nat → Option X) (kr : (List UInt8) → Int → (List ((Bool) × (Int) × (Int))) → Int → (List ((List UInt8) × (List UInt8))) → Int → Int → Int → (List UInt8) → Int → (List ((Bool) × (Int) × (Int))) → Int → (List ((List UInt8) × (List UInt8))) → Int → Int → Int → Int → Int → Int → Int → Nat → Nat → Nat → Option X) (v8 : Int) (v42 : List (List UInt8)) (v43 : Int) (v44 : Int) (ab0 : List UInt8) (ab1 : Int) (ab2 : List ((Bool) × (Int) × (Int))) (ab3 : Int) (ab4 : List ((List UInt8) × (List UInt8))) (ab5 : Int) (bb0 : Int) (bb1 : Int) (cb0 : List UInt8) (cb1 : Int) (cb2 : List ((Bool) × (Int) × (Int))) (cb3 : Int) (cb4 : List ((List UInt8) × (List UInt8))) (cb5 : Int) (cb6 : Int) (cb7 : Int) (db0 : Int) (db1 : Int) (hb0 : Int) (hb1 : Int) (vk0 : Nat) (vk1 : Nat) (vk2 : Nat) : Option X :=
 bif decide (v44 < v43) then
  (idx v42 v44).bind fun x6 =>
   (F.dec_Parse n x6).bind fun y7 =>
    bif !((y7.2.1.1 == (0 : Int)) && (y7.2.1.2.1 == (0 : Int))) then
     kr ab0 ab1 ab2 ab3 ab4 ab5 bb0 bb1 cb0 cb1 cb2 cb3 cb4 cb5 cb6 cb7 db0 db1 (17 : Int) (IntKind.wrap .i64 (cb6 + v8)) vk0 vk1 vk2
    else
    bif (cb2.length : Int) == (64 : Int) then
     kr ab0 ab1 ab2 ab3 ab4 ab5 bb0 bb1 cb0 cb1 cb2 cb3 cb4 cb5 cb6 cb7 db0 db1 (17 : Int) (IntKind.wrap .i64 (cb6 + v8)) vk0 vk1 vk2
    else
    bif decide ((cb2.length + 1) * 24 ≤ 2 ^ 46) && decide (0 < 24 ∧ 24 ≤ 2 ^ 20) then
     bif Nat.beq vk2 cb2.length then
      rec (IntKind.wrap .i64 (v8 + (IntKind.wrap .i64 ((x6.length : Int) + (1 : Int))))) v42 v43 (IntKind.wrap .i64 (v44 + (1 : Int))) ab0 ab1 ab2 ab3 ab4 ab5 bb0 bb1 cb0 cb1 (cb2 ++ ([(y7.1.1, y7.1.2.1, y7.1.2.2.1)])) cb3 cb4 cb5 cb6 cb7 db0 db1 hb0 hb1 vk0 vk1 ((cb2 ++ ([(y7.1.1, y7.1.2.1, y7.1.2.2.1)])).length)
     else
      none
    else
     none
 else
  k1 ab0 ab1 ab2 ab3 ab4 ab5 bb0 bb1 cb0 cb1 cb2 cb3 cb4 cb5 cb6 cb7 db0 db1 hb0 hb1 vk0 vk1 vk2
noncomputable def F.dog_Parse.L9_dog_reader_first {X : Type} (n : Nat) (k1 : (List UInt8) → Int → (List ((Bool) × (Int) × (Int))) → Int → (List ((List UInt8) × (List UInt8))) → Int → Int → Int → (List UInt8) → Int → (List ((Bool) × (Int) × (Int))) → Int → (List ((List UInt8) × (List UInt8))) → Int → Int → Int → Int → Int → Int → Int → Nat → Nat → Nat → Option X) (kr : (List UInt8) → Int → (List ((Bool) × (Int) × (Int))) → Int → (List ((List UInt8) × (List UInt8))) → Int → Int → Int → (List UInt8) → Int → (List ((Bool) × (Int) × (Int))) → Int → (List ((List UInt8) × (List UInt8))) → Int → Int → Int → Int → Int → Int → Int → Nat → Nat → Nat → Option X) : Nat → Int → (List (List UInt8)) → Int → Int → (List UInt8) → Int → (List ((Bool) × (Int) × (Int))) → Int → (List ((List UInt8) × (List UInt8))) → Int → Int → Int → (List UInt8) → Int → (List ((Bool) × (Int) × (Int))) → Int → (List ((List UInt8) × (List UInt8))) → Int → Int → Int → Int → Int → Int → Int → Nat → Nat → Nat → Option X
 | 0 => fun _ _ _ _ _ _ _ _ _ _ _ _ _ _ _ _ _ _ _ _ _ _ _ _ _ _ _ => none
 | m + 1 => fun v8 v42 v43 v44 ab0 ab1 ab2 ab3 ab4 ab5 bb0 bb1 cb0 cb1 cb2 cb3 cb4 cb5 cb6 cb7 db0 db1 hb0 hb1 vk0 vk1 vk2 => F.dog_Parse.L9_dog_reader_first.step n (F.dog_Parse.L9_dog_reader_first n k1 kr m) k1 kr v8 v42 v43 v44 ab0 ab1 ab2 ab3 ab4 ab5 bb0 bb1 cb0 cb1 cb2 cb3 cb4 cb5 cb6 cb7 db0 db1 hb0 hb1 vk0 vk1 vk2
noncomputable def F.dog_Parse.L2_dog_reader_more.step {X : Type} (n : Nat) (rec : (List UInt8) → ((List UInt8) × (Unit) × (List UInt8) × (Unit) × (List UInt8) × (Unit) × Unit) → Int → (List UInt8) → Int → (List ((Bool) × (Int) × (Int))) → Int → (List ((List UInt8) × (List UInt8))) → Int → Int → Int → (List UInt8) → Int → (List ((Bool) × (Int) × (Int))) → Int → (List ((List UInt8) × (List UInt8))) → Int → Int → Int → Int → Int → Int → Int → Nat → Nat → Nat → Option X) (k0 : (List UInt8) → Int → (List ((Bool) × (Int) × (Int))) → Int → (List ((List UInt8) × (List UInt8))) → Int → Int → Int → (List UInt8) → Int → (List ((Bool) × (Int) × (Int))) → Int → (List ((List UInt8) × (List UInt8))) → Int → Int → Int → Int → Int → Int → Int → Nat → Nat → Nat → Option X) (kr : (List UInt8) → Int → (List ((Bool) × (Int) × (Int))) → Int → (List ((List UInt8) × (List UInt8))) → Int → Int → Int → (List UInt8) → Int → (List ((Bool) × (Int) × (Int))) → Int → (List ((List UInt8) × (List UInt8))) → Int → Int → Int → Int → Int → Int → Int → Nat → Nat → Nat → Option X) (v1 : List UInt8) (v19 : (List UInt8) × (Unit) × (List UInt8) × (Unit) × (List UInt8) × (Unit) × Unit) (v20 : Int) (ab0 : List UInt8) (ab1 : Int) (ab2 : List ((Bool) × (Int) × (Int))) (ab3 : Int) (ab4 : List ((List UInt8) × (List UInt8))) (ab5 : Int) (bb0 : Int) (bb1 : Int) (cb0 : List UInt8) (cb1 : Int) (cb2 : List ((Bool) × (Int) × (Int))) (cb3 : Int) (cb4 : List ((List UInt8) × (List UInt8))) (cb5 : Int) (cb6 : Int) (cb7 : Int) (db0 : Int) (db1 : Int) (hb0 : Int) (hb1 : Int) (vk0 : Nat) (vk1 : Nat) (vk2 : Nat) : Option X :=
 bif decide (v20 < (3 : Int)) then
  bif v20 == (0 : Int) then
   (F.strings_CutPrefix n v1 v19.1).bind fun y11 =>
    bif !y11.2.1 then
     rec v1 (v19.1, (), v19.2.2.1, (), v19.2.2.2.2.1, (), ()) (IntKind.wrap .i64 (v20 + (1 : Int))) ab0 ab1 ab2 ab3 ab4 ab5 bb0 bb1 cb0 cb1 cb2 cb3 cb4 cb5 cb6 cb7 db0 db1 hb0 hb1 vk0 vk1 vk2
    else
    bif decide (v20 < cb7) then
     k0 ab0 ab1 ab2 ab3 ab4 ab5 bb0 bb1 cb0 cb1 cb2 cb3 cb4 cb5 cb6 cb7 db0 db1 hb0 hb1 vk0 vk1 vk2
    else
     (F.num_Rate n y11.1).bind fun y12 =>
      bif !((y12.2.1.1 == (0 : Int)) && (y12.2.1.2.1 == (0 : Int))) then
       kr ab0 ab1 ab2 ab3 ab4 ab5 bb0 bb1 cb0 cb1 cb2 cb3 cb4 cb5 cb6 (IntKind.wrap .i64 (v20 + (1 : Int))) db0 db1 (18 : Int) (IntKind.wrap .i64 (cb6 + (0 : Int))) vk0 vk1 vk2
      else
      bif cb1 == (2 : Int) then
       bif !(y12.1 == (1000000 : Int)) then
        kr ab0 ab1 ab2 ab3 ab4 ab5 bb0 bb1 cb0 cb1 cb2 cb3 cb4 cb5 cb6 (IntKind.wrap .i64 (v20 + (1 : Int))) db0 db1 (18 : Int) (IntKind.wrap .i64 (cb6 + (0 : Int))) vk0 vk1 vk2
       else
        kr ab0 ab1 ab2 ab3 ab4 ab5 bb0 bb1 cb0 cb1 cb2 y12.1 cb4 cb5 cb6 (IntKind.wrap .i64 (v20 + (1 : Int))) db0 db1 (0 : Int) (0 : Int) vk0 vk1 vk2
      else
       kr ab0 ab1 ab2 ab3 ab4 ab5 bb0 bb1 cb0 cb1 cb2 y12.1 cb4 cb5 cb6 (IntKind.wrap .i64 (v20 + (1 : Int))) db0 db1 (0 : Int) (0 : Int) vk0 vk1 vk2
  else
  bif v20 == (1 : Int) then
   (F.strings_CutPrefix n v1 v19.2.2.1).bind fun y13 =>
    bif !y13.2.1 then
     rec v1 (v19.1, (), v19.2.2.1, (), v19.2.2.2.2.1, (), ()) (IntKind.wrap .i64 (v20 + (1 : Int))) ab0 ab1 ab2 ab3 ab4 ab5 bb0 bb1 cb0 cb1 cb2 cb3 cb4 cb5 cb6 cb7 db0 db1 hb0 hb1 vk0 vk1 vk2
    else
    bif decide (v20 < cb7) then
     k0 ab0 ab1 ab2 ab3 ab4 ab5 bb0 bb1 cb0 cb1 cb2 cb3 cb4 cb5 cb6 cb7 db0 db1 hb0 hb1 vk0 vk1 vk2
    else
     (F.tag_Parse n y13.1).bind fun y14 =>
      bif !((y14.2.1.1 == (0 : Int)) && (y14.2.1.2.1 == (0 : Int))) then
       kr ab0 ab1 ab2 ab3 ab4 ab5 bb0 bb1 cb0 cb1 cb2 cb3 cb4 cb5 cb6 (IntKind.wrap .i64 (v20 + (1 : Int))) db0 db1 (19 : Int) (IntKind.wrap .i64 (cb6 + (0 : Int))) vk0 vk1 vk2
      else
      bif decide ((y14.1.length : Int) > (32 : Int)) then
       kr ab0 ab1 ab2 ab3 ab4 ab5 bb0 bb1 cb0 cb1 cb2 cb3 cb4 cb5 cb6 (IntKind.wrap .i64 (v20 + (1 : Int))) db0 db1 (19 : Int) (IntKind.wrap .i64 (cb6 + (0 : Int))) vk0 vk1 vk2
      else
       (F.tag_Normal n y14.1).bind fun y15 =>
        kr ab0 ab1 ab2 ab3 ab4 ab5 bb0 bb1 cb0 cb1 cb2 cb3 y15 cb5 cb6 (IntKind.wrap .i64 (v20 + (1 : Int))) db0 db1 (0 : Int) (0 : Int) vk0 vk1 vk2
  else
  bif v20 == (2 : Int) then
   (F.strings_CutPrefix n v1 v19.2.2.2.2.1).bind fun y16 =>
    bif !y16.2.1 then
     rec v1 (v19.1, (), v19.2.2.1, (), v19.2.2.2.2.1, (), ()) (IntKind.wrap .i64 (v20 + (1 : Int))) ab0 ab1 ab2 ab3 ab4 ab5 bb0 bb1 cb0 cb1 cb2 cb3 cb4 cb5 cb6 cb7 db0 db1 hb0 hb1 vk0 vk1 vk2
    else
    bif decide (v20 < cb7) then
     k0 ab0 ab1 ab2 ab3 ab4 ab5 bb0 bb1 cb0 cb1 cb2 cb3 cb4 cb5 cb6 cb7 db0 db1 hb0 hb1 vk0 vk1 vk2
    else
     (F.num_Time n y16.1).bind fun y17 =>
      bif !((y17.2.1.1 == (0 : Int)) && (y17.2.1.2.1 == (0 : Int))) then
       kr ab0 ab1 ab2 ab3 ab4 ab5 bb0 bb1 cb0 cb1 cb2 cb3 cb4 cb5 cb6 (IntKind.wrap .i64 (v20 + (1 : Int))) db0 db1 (20 : Int) (IntKind.wrap .i64 (cb6 + (0 : Int))) vk0 vk1 vk2
      else
       kr ab0 ab1 ab2 ab3 ab4 ab5 bb0 bb1 cb0 cb1 cb2 cb3 cb4 y17.1 cb6 (IntKind.wrap .i64 (v20 + (1 : Int))) db0 db1 (0 : Int) (0 : Int) vk0 vk1 vk2
  else
   none
 else
  k0 ab0 ab1 ab2 ab3 ab4 ab5 bb0 bb1 cb0 cb1 cb2 cb3 cb4 cb5 cb6 cb7 db0 db1 hb0 hb1 vk0 vk1 vk2
noncomputable def F.dog_Parse.L2_dog_reader_more {X : Type} (n : Nat) (k0 : (List UInt8) → Int → (List ((Bool) × (Int) × (Int))) → Int → (List ((List UInt8) × (List UInt8))) → Int → Int → Int → (List UInt8) → Int → (List ((Bool) × (Int) × (Int))) → Int → (List ((List UInt8) × (List UInt8))) → Int → Int → Int → Int → Int → Int → Int → Nat → Nat → Nat → Option X) (kr : (List UInt8) → Int → (List ((Bool) × (Int) × (Int))) → Int → (List ((List UInt8) × (List UInt8))) → Int → Int → Int → (List UInt8) → Int → (List ((Bool) × (Int) × (Int))) → Int → (List ((List UInt8) × (List UInt8))) → Int → Int → Int → Int → Int → Int → Int → Nat → Nat → Nat → Option X) : Nat → (List UInt8) → ((List UInt8) × (Unit) × (List UInt8) × (Unit) × (List UInt8) × (Unit) × Unit) → Int → (List UInt8) → Int → (List ((Bool) × (Int) × (Int))) → Int → (List ((List UInt8) × (List UInt8))) → Int → Int → Int → (List UInt8) → Int → (List ((Bool) × (Int) × (Int))) → Int → (List ((List UInt8) × (List UInt8))) → Int → Int → Int → Int → Int → Int → Int → Nat → Nat → Nat → Option X
 | 0 => fun _ _ _ _ _ _ _ _ _ _ _ _ _ _ _ _ _ _ _ _ _ _ _ _ _ _ => none
 | m + 1 => fun v1 v19 v20 ab0 ab1 ab2 ab3 ab4 ab5 bb0 bb1 cb0 cb1 cb2 cb3 cb4 cb5 cb6 cb7 db0 db1 hb0 hb1 vk0 vk1 vk2 => F.dog_Parse.L2_dog_reader_more.step n (F.dog_Parse.L2_dog_reader_more n k0 kr m) k0 kr v1 v19 v20 ab0 ab1 ab2 ab3 ab4 ab5 bb0 bb1 cb0 cb1 cb2 cb3 cb4 cb5 cb6 cb7 db0 db1 hb0 hb1 vk0 vk1 vk2
noncomputable def F.dog_Parse.L8.step {X : Type} (n : Nat) (rec : (List UInt8) → (List (List UInt8)) → (List (List UInt8)) → Int → Int → (List UInt8) → Int → (List ((Bool) × (Int) × (Int))) → Int → (List ((List UInt8) × (List UInt8))) → Int → Int → Int → (List UInt8) → Int → (List ((Bool) × (Int) × (Int))) → Int → (List ((List UInt8) × (List UInt8))) → Int → Int → Int → Int → Int → Nat → Nat → Nat → Option X) (k0 : (List UInt8) → (List (List UInt8)) → (List UInt8) → Int → (List ((Bool) × (Int) × (Int))) → Int → (List ((List UInt8) × (List UInt8))) → Int → Int → Int → (List UInt8) → Int → (List ((Bool) × (Int) × (Int))) → Int → (List ((List UInt8) × (List UInt8))) → Int → Int → Int → Int → Int → Nat → Nat → Nat → Option X) (v0 : List UInt8) (v5 : List (List UInt8)) (v26 : List (List UInt8)) (v27 : Int) (v28 : Int) (ab0 : List UInt8) (ab1 : Int) (ab2 : List ((Bool) × (Int) × (Int))) (ab3 : Int) (ab4 : List ((List UInt8) × (List UInt8))) (ab5 : Int) (bb0 : Int) (bb1 : Int) (cb0 : List UInt8) (cb1 : Int) (cb2 : List ((Bool) × (Int) × (Int))) (cb3 : Int) (cb4 : List ((List UInt8) × (List UInt8))) (cb5 : Int) (cb6 : Int) (cb7 : Int) (db0 : Int) (db1 : Int) (vk0 : Nat) (vk1 : Nat) (vk2 : Nat) : Option X :=
 bif decide (v28 < v27) then
  (idx v26 v28).bind fun x2 =>
   bif decide (v28 < (2 : Int)) then
    bif v28 == (0 : Int) then
     (F.strings_Cut n x2 ([58])).bind fun y3 =>
      (F.class_Text n (1 : Int) y3.1 (1 : Int) (200 : Int)).bind fun y4 =>
       bif !((y4.1 == (0 : Int)) && (y4.2.1 == (0 : Int))) then
        bif !(false && ((IntKind.wrap .i64 (cb6 + (0 : Int))) == (0 : Int))) then
         k0 v0 v5 ab0 ab1 ab2 ab3 ab4 ab5 bb0 bb1 cb0 cb1 cb2 cb3 cb4 cb5 cb6 cb7 (15 : Int) (IntKind.wrap .i64 (cb6 + (0 : Int))) vk0 vk1 vk2
        else
         rec v0 v5 v26 v27 (IntKind.wrap .i64 (v28 + (1 : Int))) ab0 ab1 ab2 ab3 ab4 ab5 bb0 bb1 cb0 cb1 cb2 cb3 cb4 cb5 (IntKind.wrap .i64 (cb6 + (IntKind.wrap .i64 ((x2.length : Int) + (1 : Int))))) cb7 (15 : Int) (IntKind.wrap .i64 (cb6 + (0 : Int))) vk0 vk1 vk2
       else
       bif !y3.2.2.1 then
        bif !(false && ((IntKind.wrap .i64 (cb6 + (x2.length : Int))) == (0 : Int))) then
         k0 v0 v5 ab0 ab1 ab2 ab3 ab4 ab5 bb0 bb1 cb0 cb1 cb2 cb3 cb4 cb5 cb6 cb7 (11 : Int) (IntKind.wrap .i64 (cb6 + (x2.length : Int))) vk0 vk1 vk2
        else
         rec v0 v5 v26 v27 (IntKind.wrap .i64 (v28 + (1 : Int))) ab0 ab1 ab2 ab3 ab4 ab5 bb0 bb1 cb0 cb1 cb2 cb3 cb4 cb5 (IntKind.wrap .i64 (cb6 + (IntKind.wrap .i64 ((x2.length : Int) + (1 : Int))))) cb7 (11 : Int) (IntKind.wrap .i64 (cb6 + (x2.length : Int))) vk0 vk1 vk2
       else
        (O.split1 n y3.2.1 ([58])).bind fun y5 =>
         F.dog_Parse.L9_dog_reader_first n
          (fun g0 g1 g2 g3 g4 g5 h0 h1 i0 i1 i2 i3 i4 i5 i6 i7 j0 j1 l0 l1 ek0 ek1 ek2 =>
           bif !(true && true) then
            k0 v0 v5 g0 g1 g2 g3 g4 g5 h0 h1 i0 i1 i2 i3 i4 i5 i6 i7 (0 : Int) (0 : Int) ek0 ek1 ek2
           else
            rec v0 v5 v26 v27 (IntKind.wrap .i64 (v28 + (1 : Int))) g0 g1 g2 g3 g4 g5 h0 h1 i0 i1 i2 i3 i4 i5 (IntKind.wrap .i64 (i6 + (IntKind.wrap .i64 ((x2.length : Int) + (1 : Int))))) i7 (0 : Int) (0 : Int) ek0 ek1 ek2)
          (fun g0 g1 g2 g3 g4 g5 h0 h1 i0 i1 i2 i3 i4 i5 i6 i7 j0 j1 l0 l1 ek0 ek1 ek2 =>
           bif !((l0 == (0 : Int)) && (l1 == (0 : Int))) then
            k0 v0 v5 g0 g1 g2 g3 g4 g5 h0 h1 i0 i1 i2 i3 i4 i5 i6 i7 l0 l1 ek0 ek1 ek2
           else
            rec v0 v5 v26 v27 (IntKind.wrap .i64 (v28 + (1 : Int))) g0 g1 g2 g3 g4 g5 h0 h1 i0 i1 i2 i3 i4 i5 (IntKind.wrap .i64 (i6 + (IntKind.wrap .i64 ((x2.length : Int) + (1 : Int))))) i7 l0 l1 ek0 ek1 ek2) n (IntKind.wrap .i64 ((y3.1.length : Int) + (1 : Int))) y5 (y5.length : Int) (0 : Int) ab0 ab1 ab2 ab3 ab4 ab5 bb0 bb1 y3.1 cb1 cb2 cb3 cb4 cb5 cb6 cb7 db0 db1 (0 : Int) (0 : Int) vk0 vk1 vk2
    else
    bif v28 == (1 : Int) then
     (F.dog_Kind n x2).bind fun y10 =>
      bif !(y10.2.1 == (0 : Int)) then
       bif !((y10.2.1 == (0 : Int)) && ((IntKind.wrap .i64 (cb6 + (0 : Int))) == (0 : Int))) then
        k0 v0 v5 ab0 ab1 ab2 ab3 ab4 ab5 bb0 bb1 cb0 cb1 cb2 cb3 cb4 cb5 cb6 cb7 y10.2.1 (IntKind.wrap .i64 (cb6 + (0 : Int))) vk0 vk1 vk2
       else
        rec v0 v5 v26 v27 (IntKind.wrap .i64 (v28 + (1 : Int))) ab0 ab1 ab2 ab3 ab4 ab5 bb0 bb1 cb0 cb1 cb2 cb3 cb4 cb5 (IntKind.wrap .i64 (cb6 + (IntKind.wrap .i64 ((x2.length : Int) + (1 : Int))))) cb7 y10.2.1 (IntKind.wrap .i64 (cb6 + (0 : Int))) vk0 vk1 vk2
      else
      bif !(true && true) then
       k0 v0 v5 ab0 ab1 ab2 ab3 ab4 ab5 bb0 bb1 cb0 y10.1 cb2 cb3 cb4 cb5 cb6 cb7 (0 : Int) (0 : Int) vk0 vk1 vk2
      else
       rec v0 v5 v26 v27 (IntKind.wrap .i64 (v28 + (1 : Int))) ab0 ab1 ab2 ab3 ab4 ab5 bb0 bb1 cb0 y10.1 cb2 cb3 cb4 cb5 (IntKind.wrap .i64 (cb6 + (IntKind.wrap .i64 ((x2.length : Int) + (1 : Int))))) cb7 (0 : Int) (0 : Int) vk0 vk1 vk2
    else
     none
   else
    F.dog_Parse.L2_dog_reader_more n
     (fun g0 g1 g2 g3 g4 g5 h0 h1 i0 i1 i2 i3 i4 i5 i6 i7 j0 j1 l0 l1 ek0 ek1 ek2 =>
      bif !(false && ((IntKind.wrap .i64 (i6 + (0 : Int))) == (0 : Int))) then
       k0 v0 v5 g0 g1 g2 g3 g4 g5 h0 h1 i0 i1 i2 i3 i4 i5 i6 i7 (11 : Int) (IntKind.wrap .i64 (i6 + (0 : Int))) ek0 ek1 ek2
      else
       rec v0 v5 v26 v27 (IntKind.wrap .i64 (v28 + (1 : Int))) g0 g1 g2 g3 g4 g5 h0 h1 i0 i1 i2 i3 i4 i5 (IntKind.wrap .i64 (i6 + (IntKind.wrap .i64 ((x2.length : Int) + (1 : Int))))) i7 (11 : Int) (IntKind.wrap .i64 (i6 + (0 : Int))) ek0 ek1 ek2)
     (fun g0 g1 g2 g3 g4 g5 h0 h1 i0 i1 i2 i3 i4 i5 i6 i7 j0 j1 l0 l1 ek0 ek1 ek2 =>
      bif !((l0 == (0 : Int)) && (l1 == (0 : Int))) then
       k0 v0 v5 g0 g1 g2 g3 g4 g5 h0 h1 i0 i1 i2 i3 i4 i5 i6 i7 l0 l1 ek0 ek1 ek2
      else
       rec v0 v5 v26 v27 (IntKind.wrap .i64 (v28 + (1 : Int))) g0 g1 g2 g3 g4 g5 h0 h1 i0 i1 i2 i3 i4 i5 (IntKind.wrap .i64 (i6 + (IntKind.wrap .i64 ((x2.length : Int) + (1 : Int))))) i7 l0 l1 ek0 ek1 ek2) n x2 ([64], (), [35], (), [84], (), ()) (0 : Int) ab0 ab1 ab2 ab3 ab4 ab5 bb0 bb1 cb0 cb1 cb2 cb3 cb4 cb5 cb6 cb7 db0 db1 (0 : Int) (0 : Int) vk0 vk1 vk2
 else
  k0 v0 v5 ab0 ab1 ab2 ab3 ab4 ab5 bb0 bb1 cb0 cb1 cb2 cb3 cb4 cb5 cb6 cb7 db0 db1 vk0 vk1 vk2
noncomputable def F.dog_Parse.L8 {X : Type} (n : Nat) (k0 : (List UInt8) → (List (List UInt8)) → (List UInt8) → Int → (List ((Bool) × (Int) × (Int))) → Int → (List ((List UInt8) × (List UInt8))) → Int → Int → Int → (List UInt8) → Int → (List ((Bool) × (Int) × (Int))) → Int → (List ((List UInt8) × (List UInt8))) → Int → Int → Int → Int → Int → Nat → Nat → Nat → Option X) : Nat → (List UInt8) → (List (List UInt8)) → (List (List UInt8)) → Int → Int → (List UInt8) → Int → (List ((Bool) × (Int) × (Int))) → Int → (List ((List UInt8) × (List UInt8))) → Int → Int → Int → (List UInt8) → Int → (List ((Bool) × (Int) × (Int))) → Int → (List ((List UInt8) × (List UInt8))) → Int → Int → Int → Int → Int → Nat → Nat → Nat → Option X
 | 0 => fun _ _ _ _ _ _ _ _ _ _ _ _ _ _ _ _ _ _ _ _ _ _ _ _ _ _ => none
 | m + 1 => fun v0 v5 v26 v27 v28 ab0 ab1 ab2 ab3 ab4 ab5 bb0 bb1 cb0 cb1 cb2 cb3 cb4 cb5 cb6 cb7 db0 db1 vk0 vk1 vk2 => F.dog_Parse.L8.step n (F.dog_Parse.L8 n k0 m) k0 v0 v5 v26 v27 v28 ab0 ab1 ab2 ab3 ab4 ab5 bb0 bb1 cb0 cb1 cb2 cb3 cb4 cb5 cb6 cb7 db0 db1 vk0 vk1 vk2
noncomputable def F.dog_Parse (n : Nat) (a0 : List UInt8) : Option (((List UInt8) × (Int) × (List ((Bool) × (Int) × (Int))) × (Int) × (List ((List UInt8) × (List UInt8))) × (Int) × Unit) × ((Int) × (Int) × Unit) × Unit) :=
 bif decide ((a0.length : Int) > (8192 : Int)) then
  some ((([], (0 : Int), [], (0 : Int), [], (0 : Int), ()), ((12 : Int), (0 : Int), ()), ()))
 else
  (O.split1 n a0 ([124])).bind fun y1 =>
   F.dog_Parse.L8 n
    (fun e0 e5 g0 g1 g2 g3 g4 g5 h0 h1 i0 i1 i2 i3 i4 i5 i6 i7 j0 j1 ek0 ek1 ek2 =>
     bif (j0 == (0 : Int)) && (j1 == (0 : Int)) then
      bif decide ((e5.length : Int) < (2 : Int)) then
       bif !(false && ((e0.length : Int) == (0 : Int))) then
        some ((([], (0 : Int), [], (0 : Int), [], (0 : Int), ()), ((11 : Int), (e0.length : Int), ()), ()))
       else
        some (((i0, i1, i2, i3, i4, i5, ()), ((11 : Int), (e0.length : Int), ()), ()))
      else
      bif !((j0 == (0 : Int)) && (j1 == (0 : Int))) then
       some ((([], (0 : Int), [], (0 : Int), [], (0 : Int), ()), (j0, j1, ()), ()))
      else
       some (((i0, i1, i2, i3, i4, i5, ()), (j0, j1, ()), ()))
     else
     bif !((j0 == (0 : Int)) && (j1 == (0 : Int))) then
      some ((([], (0 : Int), [], (0 : Int), [], (0 : Int), ()), (j0, j1, ()), ()))
     else
      some (((i0, i1, i2, i3, i4, i5, ()), (j0, j1, ()), ()))) n a0 y1 y1 (y1.length : Int) (0 : Int) [] (0 : Int) [] (0 : Int) [] (0 : Int) (0 : Int) (0 : Int) [] (0 : Int) [] (1000000 : Int) [] (0 : Int) (0 : Int) (0 : Int) (0 : Int) (0 : Int) 0 0 0
noncomputable def F.ref07_Equal.L4.step {X : Type} (n : Nat) (rec : Int → (List UInt8) → Int → (List ((Bool) × (Int) × (Int))) → Int → (List ((List UInt8) × (List UInt8))) → Int → (List UInt8) → Int → (List ((Bool) × (Int) × (Int))) → Int → (List ((List UInt8) × (List UInt8))) → Int → Option X) (k0 : (List UInt8) → Int → (List ((Bool) × (Int) × (Int))) → Int → (List ((List UInt8) × (List UInt8))) → Int → (List UInt8) → Int → (List ((Bool) × (Int) × (Int))) → Int → (List ((List UInt8) × (List UInt8))) → Int → Option X) (kr : Bool → (List UInt8) → Int → (List ((Bool) × (Int) × (Int))) → Int → (List ((List UInt8) × (List UInt8))) → Int → (List UInt8) → Int → (List ((Bool) × (Int) × (Int))) → Int → (List ((List UInt8) × (List UInt8))) → Int → Option X) (v5 : Int) (ab0 : List UInt8) (ab1 : Int) (ab2 : List ((Bool) × (Int) × (Int))) (ab3 : Int) (ab4 : List ((List UInt8) × (List UInt8))) (ab5 : Int) (bb0 : List UInt8) (bb1 : Int) (bb2 : List ((Bool) × (Int) × (Int))) (bb3 : Int) (bb4 : List ((List UInt8) × (List UInt8))) (bb5 : Int) : Option X :=
 bif decide (v5 < (ab2.length : Int)) then
  (idx ab2 v5).bind fun x1 =>
   (idx bb2 v5).bind fun x2 =>
    bif !((x1.1 == x2.1) && ((x1.2.1 == x2.2.1) && (x1.2.2 == x2.2.2))) then
     kr false ab0 ab1 ab2 ab3 ab4 ab5 bb0 bb1 bb2 bb3 bb4 bb5
    else
     rec (IntKind.wrap .i64 (v5 + (1 : Int))) ab0 ab1 ab2 ab3 ab4 ab5 bb0 bb1 bb2 bb3 bb4 bb5
 else
  k0 ab0 ab1 ab2 ab3 ab4 ab5 bb0 bb1 bb2 bb3 bb4 bb5
noncomputable def F.ref07_Equal.L4 {X : Type} (n : Nat) (k0 : (List UInt8) → Int → (List ((Bool) × (Int) × (Int))) → Int → (List ((List UInt8) × (List UInt8))) → Int → (List UInt8) → Int → (List ((Bool) × (Int) × (Int))) → Int → (List ((List UInt8) × (List UInt8))) → Int → Option X) (kr : Bool → (List UInt8) → Int → (List ((Bool) × (Int) × (Int))) → Int → (List ((List UInt8) × (List UInt8))) → Int → (List UInt8) → Int → (List ((Bool) × (Int) × (Int))) → Int → (List ((List UInt8) × (List UInt8))) → Int → Option X) : Nat → Int → (List UInt8) → Int → (List ((Bool) × (Int) × (Int))) → Int → (List ((List UInt8) × (List UInt8))) → Int → (List UInt8) → Int → (List ((Bool) × (Int) × (Int))) → Int → (List ((List UInt8) × (List UInt8))) → Int → Option X
 | 0 => fun _ _ _ _ _ _ _ _ _ _ _ _ _ => none
 | m + 1 => fun v5 ab0 ab1 ab2 ab3 ab4 ab5 bb0 bb1 bb2 bb3 bb4 bb5 => F.ref07_Equal.L4.step n (F.ref07_Equal.L4 n k0 kr m) k0 kr v5 ab0 ab1 ab2 ab3 ab4 ab5 bb0 bb1 bb2 bb3 bb4 bb5
noncomputable def F.ref07_Equal.L9.step {X : Type} (n : Nat) (rec : Int → (List UInt8) → Int → (List ((Bool) × (Int) × (Int))) → Int → (List ((List UInt8) × (List UInt8))) → Int → (List UInt8) → Int → (List ((Bool) × (Int) × (Int))) → Int → (List ((List UInt8) × (List UInt8))) → Int → Option X) (k2 : (List UInt8) → Int → (List ((Bool) × (Int) × (Int))) → Int → (List ((List UInt8) × (List UInt8))) → Int → (List UInt8) → Int → (List ((Bool) × (Int) × (Int))) → Int → (List ((List UInt8) × (List UInt8))) → Int → Option X) (kr : Bool → (List UInt8) → Int → (List ((Bool) × (Int) × (Int))) → Int → (List ((List UInt8) × (List UInt8))) → Int → (List UInt8) → Int → (List ((Bool) × (Int) × (Int))) → Int → (List ((List UInt8) × (List UInt8))) → Int → Option X) (v6 : Int) (ab0 : List UInt8) (ab1 : Int) (ab2 : List ((Bool) × (Int) × (Int))) (ab3 : Int) (ab4 : List ((List UInt8) × (List UInt8))) (ab5 : Int) (bb0 : List UInt8) (bb1 : Int) (bb2 : List ((Bool) × (Int) × (Int))) (bb3 : Int) (bb4 : List ((List UInt8) × (List UInt8))) (bb5 : Int) : Option X :=
 bif decide (v6 < (ab4.length : Int)) then
  (idx ab4 v6).bind fun x4 =>
   (idx bb4 v6).bind fun x5 =>
    bif !((x4.1 == x5.1) && (x4.2 == x5.2)) then
     kr false ab0 ab1 ab2 ab3 ab4 ab5 bb0 bb1 bb2 bb3 bb4 bb5
    else
     rec (IntKind.wrap .i64 (v6 + (1 : Int))) ab0 ab1 ab2 ab3 ab4 ab5 bb0 bb1 bb2 bb3 bb4 bb5
 else
  k2 ab0 ab1 ab2 ab3 ab4 ab5 bb0 bb1 bb2 bb3 bb4 bb5
noncomputable def F.ref07_Equal.L9 {X : Type} (n : Nat) (k2 : (List UInt8) → Int → (List ((Bool) × (Int) × (Int))) → Int → (List ((List UInt8) × (List UInt8))) → Int → (List UInt8) → Int → (List ((Bool) × (Int) × (Int))) → Int → (List ((List UInt8) × (List UInt8))) → Int → Option X) (kr : Bool → (List UInt8) → Int → (List ((Bool) × (Int) × (Int))) → Int → (List ((List UInt8) × (List UInt8))) → Int → (List UInt8) → Int → (List ((Bool) × (Int) × (Int))) → Int → (List ((List UInt8) × (List UInt8))) → Int → Option X) : Nat → Int → (List UInt8) → Int → (List ((Bool) × (Int) × (Int))) → Int → (List ((List UInt8) × (List UInt8))) → Int → (List UInt8) → Int → (List ((Bool) × (Int) × (Int))) → Int → (List ((List UInt8) × (List UInt8))) → Int → Option X
 | 0 => fun _ _ _ _ _ _ _ _ _ _ _ _ _ => none
 | m + 1 => fun v6 ab0 ab1 ab2 ab3 ab4 ab5 bb0 bb1 bb2 bb3 bb4 bb5 => F.ref07_Equal.L9.step n (F.ref07_Equal.L9 n k2 kr m) k2 kr v6 ab0 ab1 ab2 ab3 ab4 ab5 bb0 bb1 bb2 bb3 bb4 bb5
noncomputable def F.ref07_Equal (n : Nat) (a0 : (List UInt8) × (Int) × (List ((Bool) × (Int) × (Int))) × (Int) × (List ((List UInt8) × (List UInt8))) × (Int) × Unit) (a1 : (List UInt8) × (Int) × (List ((Bool) × (Int) × (Int))) × (Int) × (List ((List UInt8) × (List UInt8))) × (Int) × Unit) : Option (Bool) :=
 bif !(a0.1 == a1.1) then
  some (false)
 else
 bif !(a0.2.1 == a1.2.1) then
  some (false)
 else
 bif !(a0.2.2.2.1 == a1.2.2.2.1) then
  some (false)
 else
 bif !(a0.2.2.2.2.2.1 == a1.2.2.2.2.2.1) then
  some (false)
 else
 bif !((a0.2.2.1.length : Int) == (a1.2.2.1.length : Int)) then
  some (false)
 else
 bif !((a0.2.2.2.2.1.length : Int) == (a1.2.2.2.2.1.length : Int)) then
  some (false)
 else
  F.ref07_Equal.L4 n
   (fun g0 g1 g2 g3 g4 g5 h0 h1 h2 h3 h4 h5 =>
    F.ref07_Equal.L9 n
     (fun g0 g1 g2 g3 g4 g5 h0 h1 h2 h3 h4 h5 =>
      some (true))
     (fun e4 g0 g1 g2 g3 g4 g5 h0 h1 h2 h3 h4 h5 =>
      some (e4)) n (0 : Int) g0 g1 g2 g3 g4 g5 h0 h1 h2 h3 h4 h5)
   (fun e4 g0 g1 g2 g3 g4 g5 h0 h1 h2 h3 h4 h5 =>
    some (e4)) n (0 : Int) a0.1 a0.2.1 a0.2.2.1 a0.2.2.2.1 a0.2.2.2.2.1 a0.2.2.2.2.2.1 a1.1 a1.2.1 a1.2.2.1 a1.2.2.2.1 a1.2.2.2.2.1 a1.2.2.2.2.2.1
noncomputable def F.law11_awake (n : Nat) : Option (Bool) :=
 (F.dog_Parse n ([97, 58, 49, 58, 50, 46, 53, 48, 124, 109, 115, 124, 64, 48, 46, 53, 124, 35, 98, 44, 97, 58, 120, 124, 84, 55])).bind fun y1 =>
  (F.dog_Line n (y1.1.1, y1.1.2.1, y1.1.2.2.1, y1.1.2.2.2.1, y1.1.2.2.2.2.1, y1.1.2.2.2.2.2.1, ())).bind fun y2 =>
   (F.dog_Parse n ([97, 58, 49, 124, 103, 124, 64, 48, 46, 53])).bind fun y3 =>
    (F.dog_Parse n ([97, 58, 49, 124, 99, 124, 84, 55, 124, 64, 49])).bind fun y4 =>
     bif (y1.2.1.1 == (0 : Int)) && (y1.2.1.2.1 == (0 : Int)) then
      (F.ref07_Equal n (y1.1.1, y1.1.2.1, y1.1.2.2.1, y1.1.2.2.2.1, y1.1.2.2.2.2.1, y1.1.2.2.2.2.2.1, ()) ([97], (3 : Int), [(false, 1, 0), (false, 25, -1)], (500000 : Int), [([97], [120]), ([98], [])], (7 : Int), ())).bind fun y5 =>
       bif y5 then
        bif y2.1 == ([97, 58, 49, 58, 50, 46, 53, 124, 109, 115, 124, 64, 48, 46, 53, 124, 35, 97, 58, 120, 44, 98, 124, 84, 55]) then
         bif y2.2.1 == (0 : Int) then
          bif (y3.2.1.1 == (18 : Int)) && (y3.2.1.2.1 == (6 : Int)) then
           some ((y4.2.1.1 == (11 : Int)) && (y4.2.1.2.1 == (9 : Int)))
          else
           some (false)
         else
          some (false)
        else
         some (false)
       else
        some (false)
     else
      some (false)
noncomputable def F.ref11_Words (n : Nat) : Option (List (List UInt8)) :=
 some ([[99], [103], [109, 115], [104], [100]])
noncomputable def F.ref11_Kind.L3.step {X : Type} (n : Nat) (rec : (List UInt8) → (List (List UInt8)) → Int → Option X) (k0 : Unit → Option X) (kr : Int → Option X) (v0 : List UInt8) (v3 : List (List UInt8)) (v4 : Int) : Option X :=
 bif decide (v4 < (v3.length : Int)) then
  (idx v3 v4).bind fun x2 =>
   bif x2 == v0 then
    kr (IntKind.wrap .i64 (v4 + (1 : Int)))
   else
    rec v0 v3 (IntKind.wrap .i64 (v4 + (1 : Int)))
 else
  k0 ()
noncomputable def F.ref11_Kind.L3 {X : Type} (n : Nat) (k0 : Unit → Option X) (kr : Int → Option X) : Nat → (List UInt8) → (List (List UInt8)) → Int → Option X
 | 0 => fun _ _ _ => none
 | m + 1 => fun v0 v3 v4 => F.ref11_Kind.L3.step n (F.ref11_Kind.L3 n k0 kr m) k0 kr v0 v3 v4
noncomputable def F.ref11_Kind (n : Nat) (a0 : List UInt8) : Option (Int) :=
 (F.ref11_Words n ).bind fun y1 =>
  F.ref11_Kind.L3 n
   (fun (_ : Unit) =>
    some ((0 : Int)))
   (fun e2 =>
    some (e2)) n a0 y1 (0 : Int)
noncomputable def F.law11_DogWords (n : Nat) (a0 : Int) (a1 : List UInt8) : Option (Bool) :=
 bif decide ((a1.length : Int) > (100 : Int)) then
  (F.law11_awake n ).bind fun y1 =>
   some (y1)
 else
  (F.dog_Word n a0).bind fun y2 =>
   (F.dog_Kind n a1).bind fun y3 =>
    bif decide (a0 < (1 : Int)) then
     bif !(y2.1 == []) then
      some (false)
     else
     bif !(y2.2.1 == (16 : Int)) then
      some (false)
     else
      (F.ref11_Kind n a1).bind fun y4 =>
       bif y4 == (0 : Int) then
        bif y3.1 == (0 : Int) then
         bif y3.2.1 == (16 : Int) then
          (F.law11_awake n ).bind fun y5 =>
           some (y5)
         else
          some (false)
        else
         some (false)
       else
       bif y3.1 == y4 then
        bif y3.2.1 == (0 : Int) then
         (F.law11_awake n ).bind fun y6 =>
          some (y6)
        else
         some (false)
       else
        some (false)
    else
    bif decide (a0 > (5 : Int)) then
     bif !(y2.1 == []) then
      some (false)
     else
     bif !(y2.2.1 == (16 : Int)) then
      some (false)
     else
      (F.ref11_Kind n a1).bind fun y7 =>
       bif y7 == (0 : Int) then
        bif y3.1 == (0 : Int) then
         bif y3.2.1 == (16 : Int) then
          (F.law11_awake n ).bind fun y8 =>
           some (y8)
         else
          some (false)
        else
         some (false)
       else
       bif y3.1 == y7 then
        bif y3.2.1 == (0 : Int) then
         (F.law11_awake n ).bind fun y9 =>
          some (y9)
        else
         some (false)
       else
        some (false)
    else
     (F.ref11_Words n ).bind fun y10 =>
      (idx y10 (IntKind.wrap .i64 (a0 - (1 : Int)))).bind fun x11 =>
       bif !(y2.1 == x11) then
        some (false)
       else
       bif !(y2.2.1 == (0 : Int)) then
        some (false)
       else
        (F.ref11_Kind n a1).bind fun y12 =>
         bif y12 == (0 : Int) then
          bif y3.1 == (0 : Int) then
           bif y3.2.1 == (16 : Int) then
            (F.law11_awake n ).bind fun y13 =>
             some (y13)
           else
            some (false)
          else
           some (false)
         else
         bif y3.1 == y12 then
          bif y3.2.1 == (0 : Int) then
           (F.law11_awake n ).bind fun y14 =>
            some (y14)
          else
           some (false)
         else
          some (false)
noncomputable def F.law07_Few.L4.step {X : Type} (n : Nat) (rec : Int → (List UInt8) → Int → (List ((Bool) × (Int) × (Int))) → Int → (List ((List UInt8) × (List UInt8))) → Int → Option X) (k0 : (List UInt8) → Int → (List ((Bool) × (Int) × (Int))) → Int → (List ((List UInt8) × (List UInt8))) → Int → Option X) (kr : Bool → (List UInt8) → Int → (List ((Bool) × (Int) × (Int))) → Int → (List ((List UInt8) × (List UInt8))) → Int → Option X) (v3 : Int) (ab0 : List UInt8) (ab1 : Int) (ab2 : List ((Bool) × (Int) × (Int))) (ab3 : Int) (ab4 : List ((List UInt8) × (List UInt8))) (ab5 : Int) : Option X :=
 bif decide (v3 < (ab4.length : Int)) then
  (idx ab4 v3).bind fun x1 =>
   bif decide ((x1.1.length : Int) > (150 : Int)) then
    kr false ab0 ab1 ab2 ab3 ab4 ab5
   else
    (idx ab4 v3).bind fun x2 =>
     bif decide ((x2.2.length : Int) > (150 : Int)) then
      kr false ab0 ab1 ab2 ab3 ab4 ab5
     else
      rec (IntKind.wrap .i64 (v3 + (1 : Int))) ab0 ab1 ab2 ab3 ab4 ab5
 else
  k0 ab0 ab1 ab2 ab3 ab4 ab5
noncomputable def F.law07_Few.L4 {X : Type} (n : Nat) (k0 : (List UInt8) → Int → (List ((Bool) × (Int) × (Int))) → Int → (List ((List UInt8) × (List UInt8))) → Int → Option X) (kr : Bool → (List UInt8) → Int → (List ((Bool) × (Int) × (Int))) → Int → (List ((List UInt8) × (List UInt8))) → Int → Option X) : Nat → Int → (List UInt8) → Int → (List ((Bool) × (Int) × (Int))) → Int → (List ((List UInt8) × (List UInt8))) → Int → Option X
 | 0 => fun _ _ _ _ _ _ _ => none
 | m + 1 => fun v3 ab0 ab1 ab2 ab3 ab4 ab5 => F.law07_Few.L4.step n (F.law07_Few.L4 n k0 kr m) k0 kr v3 ab0 ab1 ab2 ab3 ab4 ab5
noncomputable def F.law07_Few (n : Nat) (a0 : (List UInt8) × (Int) × (List ((Bool) × (Int) × (Int))) × (Int) × (List ((List UInt8) × (List UInt8))) × (Int) × Unit) : Option (Bool) :=
 bif decide ((a0.1.length : Int) > (300 : Int)) then
  some (false)
 else
 bif decide ((a0.2.2.1.length : Int) > (80 : Int)) then
  some (false)
 else
 bif decide ((a0.2.2.2.2.1.length : Int) > (40 : Int)) then
  some (false)
 else
  F.law07_Few.L4 n
   (fun g0 g1 g2 g3 g4 g5 =>
    some (true))
   (fun e2 g0 g1 g2 g3 g4 g5 =>
    some (e2)) n (0 : Int) a0.1 a0.2.1 a0.2.2.1 a0.2.2.2.1 a0.2.2.2.2.1 a0.2.2.2.2.2.1
noncomputable def F.slices_Equal_api_Dec_api_Dec.L4.step {X : Type} (n : Nat) (rec : (List ((Bool) × (Int) × (Int))) → (List ((Bool) × (Int) × (Int))) → Int → Int → Option X) (k0 : Unit → Option X) (kr : Bool → Option X) (v0 : List ((Bool) × (Int) × (Int))) (v1 : List ((Bool) × (Int) × (Int))) (v12 : Int) (v13 : Int) : Option X :=
 bif decide (v13 < v12) then
  (idx v0 v13).bind fun x1 =>
   (idx v1 v13).bind fun x2 =>
    bif !((x1.1 == x2.1) && ((x1.2.1 == x2.2.1) && (x1.2.2 == x2.2.2))) then
     kr false
    else
     rec v0 v1 v12 (IntKind.wrap .i64 (v13 + (1 : Int)))
 else
  k0 ()
noncomputable def F.slices_Equal_api_Dec_api_Dec.L4 {X : Type} (n : Nat) (k0 : Unit → Option X) (kr : Bool → Option X) : Nat → (List ((Bool) × (Int) × (Int))) → (List ((Bool) × (Int) × (Int))) → Int → Int → Option X
 | 0 => fun _ _ _ _ => none
 | m + 1 => fun v0 v1 v12 v13 => F.slices_Equal_api_Dec_api_Dec.L4.step n (F.slices_Equal_api_Dec_api_Dec.L4 n k0 kr m) k0 kr v0 v1 v12 v13
noncomputable def F.slices_Equal_api_Dec_api_Dec (n : Nat) (a0 : List ((Bool) × (Int) × (Int))) (a1 : List ((Bool) × (Int) × (Int))) : Option (Bool) :=
 bif !((a0.length : Int) == (a1.length : Int)) then
  some (false)
 else
  F.slices_Equal_api_Dec_api_Dec.L4 n
   (fun (_ : Unit) =>
    some (true))
   (fun e4 =>
    some (e4)) n a0 a1 (a0.length : Int) (0 : Int)
noncomputable def F.metric_equal_api_Dec (n : Nat) (a0 : List ((Bool) × (Int) × (Int))) (a1 : List ((Bool) × (Int) × (Int))) : Option (Bool) :=
 (F.slices_Equal_api_Dec_api_Dec n a0 a1).bind fun y1 =>
  some (y1)
noncomputable def F.slices_Equal_api_Tag_api_Tag.L4.step {X : Type} (n : Nat) (rec : (List ((List UInt8) × (List UInt8))) → (List ((List UInt8) × (List UInt8))) → Int → Int → Option X) (k0 : Unit → Option X) (kr : Bool → Option X) (v0 : List ((List UInt8) × (List UInt8))) (v1 : List ((List UInt8) × (List UInt8))) (v12 : Int) (v13 : Int) : Option X :=
 bif decide (v13 < v12) then
  (idx v0 v13).bind fun x1 =>
   (idx v1 v13).bind fun x2 =>
    bif !((x1.1 == x2.1) && (x1.2 == x2.2)) then
     kr false
    else
     rec v0 v1 v12 (IntKind.wrap .i64 (v13 + (1 : Int)))
 else
  k0 ()
noncomputable def F.slices_Equal_api_Tag_api_Tag.L4 {X : Type} (n : Nat) (k0 : Unit → Option X) (kr : Bool → Option X) : Nat → (List ((List UInt8) × (List UInt8))) → (List ((List UInt8) × (List UInt8))) → Int → Int → Option X
 | 0 => fun _ _ _ _ => none
 | m + 1 => fun v0 v1 v12 v13 => F.slices_Equal_api_Tag_api_Tag.L4.step n (F.slices_Equal_api_Tag_api_Tag.L4 n k0 kr m) k0 kr v0 v1 v12 v13
noncomputable def F.slices_Equal_api_Tag_api_Tag (n : Nat) (a0 : List ((List UInt8) × (List UInt8))) (a1 : List ((List UInt8) × (List UInt8))) : Option (Bool) :=
 bif !((a0.length : Int) == (a1.length : Int)) then
  some (false)
 else
  F.slices_Equal_api_Tag_api_Tag.L4 n
   (fun (_ : Unit) =>
    some (true))
   (fun e4 =>
    some (e4)) n a0 a1 (a0.length : Int) (0 : Int)
noncomputable def F.metric_equal_api_Tag (n : Nat) (a0 : List ((List UInt8) × (List UInt8))) (a1 : List ((List UInt8) × (List UInt8))) : Option (Bool) :=
 (F.slices_Equal_api_Tag_api_Tag n a0 a1).bind fun y1 =>
  some (y1)
noncomputable def F.metric_Equal (n : Nat) (a0 : (List UInt8) × (Int) × (List ((Bool) × (Int) × (Int))) × (Int) × (List ((List UInt8) × (List UInt8))) × (Int) × Unit) (a1 : (List UInt8) × (Int) × (List ((Bool) × (Int) × (Int))) × (Int) × (List ((List UInt8) × (List UInt8))) × (Int) × Unit) : Option (Bool) :=
 bif a0.1 == a1.1 then
  bif a0.2.1 == a1.2.1 then
   bif a0.2.2.2.1 == a1.2.2.2.1 then
    bif a0.2.2.2.2.2.1 == a1.2.2.2.2.2.1 then
     (F.metric_equal_api_Dec n a0.2.2.1 a1.2.2.1).bind fun y1 =>
      bif y1 then
       (F.metric_equal_api_Tag n a0.2.2.2.2.1 a1.2.2.2.2.1).bind fun y2 =>
        some (y2)
      else
       some (false)
    else
     some (false)
   else
    some (false)
  else
   some (false)
 else
  some (false)
noncomputable def F.law11_DogPieces.L23.step {X : Type} (n : Nat) (rec : Int → (List UInt8) → (List UInt8) → Int → (List UInt8) → Int → (List ((Bool) × (Int) × (Int))) → Int → (List ((List UInt8) × (List UInt8))) → Int → (List UInt8) → Int → (List ((Bool) × (Int) × (Int))) → Int → (List ((List UInt8) × (List UInt8))) → Int → (List UInt8) → Int → (List ((Bool) × (Int) × (Int))) → Int → (List ((List UInt8) × (List UInt8))) → Int → (List UInt8) → Int → (List ((Bool) × (Int) × (Int))) → Int → (List ((List UInt8) × (List UInt8))) → Int → Int → Int → (List UInt8) → Int → (List ((Bool) × (Int) × (Int))) → Int → (List ((List UInt8) × (List UInt8))) → Int → Int → Int → (List UInt8) → Int → (List ((Bool) × (Int) × (Int))) → Int → (List ((List UInt8) × (List UInt8))) → Int → Int → Int → (List UInt8) → Int → (List ((Bool) × (Int) × (Int))) → Int → (List ((List UInt8) × (List UInt8))) → Int → Int → Int → (List UInt8) → Int → (List ((Bool) × (Int) × (Int))) → Int → (List ((List UInt8) × (List UInt8))) → Int → Int → Int → (List UInt8) → Int → (List ((Bool) × (Int) × (Int))) → Int → (List ((List UInt8) × (List UInt8))) → Int → Int → Int → Nat → Option X) (k0 : (List UInt8) → (List UInt8) → Int → (List ((Bool) × (Int) × (Int))) → Int → (List ((List UInt8) × (List UInt8))) → Int → (List UInt8) → Int → (List ((Bool) × (Int) × (Int))) → Int → (List ((List UInt8) × (List UInt8))) → Int → (List UInt8) → Int → (List ((Bool) × (Int) × (Int))) → Int → (List ((List UInt8) × (List UInt8))) → Int → (List UInt8) → Int → (List ((Bool) × (Int) × (Int))) → Int → (List ((List UInt8) × (List UInt8))) → Int → Int → Int → (List UInt8) → Int → (List ((Bool) × (Int) × (Int))) → Int → (List ((List UInt8) × (List UInt8))) → Int → Int → Int → (List UInt8) → Int → (List ((Bool) × (Int) × (Int))) → Int → (List ((List UInt8) × (List UInt8))) → Int → Int → Int → (List UInt8) → Int → (List ((Bool) × (Int) × (Int))) → Int → (List ((List UInt8) × (List UInt8))) → Int → Int → Int → (List UInt8) → Int → (List ((Bool) × (Int) × (Int))) → Int → (List ((List UInt8) × (List UInt8))) → Int → Int → Int → (List UInt8) → Int → (List ((Bool) × (Int) × (Int))) → Int → (List ((List UInt8) × (List UInt8))) → Int → Int → Int → Nat → Option X) (kr : Bool → (List UInt8) → Int → (List ((Bool) × (Int) × (Int))) → Int → (List ((List UInt8) × (List UInt8))) → Int → (List UInt8) → Int → (List ((Bool) × (Int) × (Int))) → Int → (List ((List UInt8) × (List UInt8))) → Int → (List UInt8) → Int → (List ((Bool) × (Int) × (Int))) → Int → (List ((List UInt8) × (List UInt8))) → Int → (List UInt8) → Int → (List ((Bool) × (Int) × (Int))) → Int → (List ((List UInt8) × (List UInt8))) → Int → Int → Int → (List UInt8) → Int → (List ((Bool) × (Int) × (Int))) → Int → (List ((List UInt8) × (List UInt8))) → Int → Int → Int → (List UInt8) → Int → (List ((Bool) × (Int) × (Int))) → Int → (List ((List UInt8) × (List UInt8))) → Int → Int → Int → (List UInt8) → Int → (List ((Bool) × (Int) × (Int))) → Int → (List ((List UInt8) × (List UInt8))) → Int → Int → Int → (List UInt8) → Int → (List ((Bool) × (Int) × (Int))) → Int → (List ((List UInt8) × (List UInt8))) → Int → Int → Int → (List UInt8) → Int → (List ((Bool) × (Int) × (Int))) → Int → (List ((List UInt8) × (List UInt8))) → Int → Int → Int → Nat → Option X) (v1 : Int) (v8 : List UInt8) (v21 : List UInt8) (v22 : Int) (ab0 : List UInt8) (ab1 : Int) (ab2 : List ((Bool) × (Int) × (Int))) (ab3 : Int) (ab4 : List ((List UInt8) × (List UInt8))) (ab5 : Int) (bb0 : List UInt8) (bb1 : Int) (bb2 : List ((Bool) × (Int) × (Int))) (bb3 : Int) (bb4 : List ((List UInt8) × (List UInt8))) (bb5 : Int) (cb0 : List UInt8) (cb1 : Int) (cb2 : List ((Bool) × (Int) × (Int))) (cb3 : Int) (cb4 : List ((List UInt8) × (List UInt8))) (cb5 : Int) (db0 : List UInt8) (db1 : Int) (db2 : List ((Bool) × (Int) × (Int))) (db3 : Int) (db4 : List ((List UInt8) × (List UInt8))) (db5 : Int) (hb0 : Int) (hb1 : Int) (ib0 : List UInt8) (ib1 : Int) (ib2 : List ((Bool) × (Int) × (Int))) (ib3 : Int) (ib4 : List ((List UInt8) × (List UInt8))) (ib5 : Int) (jb0 : Int) (jb1 : Int) (lb0 : List UInt8) (lb1 : Int) (lb2 : List ((Bool) × (Int) × (Int))) (lb3 : Int) (lb4 : List ((List UInt8) × (List UInt8))) (lb5 : Int) (vb8_0 : Int) (vb8_1 : Int) (vb9_0 : List UInt8) (vb9_1 : Int) (vb9_2 : List ((Bool) × (Int) × (Int))) (vb9_3 : Int) (vb9_4 : List ((List UInt8) × (List UInt8))) (vb9_5 : Int) (vb10_0 : Int) (vb10_1 : Int) (vb11_0 : List UInt8) (vb11_1 : Int) (vb11_2 : List ((Bool) × (Int) × (Int))) (vb11_3 : Int) (vb11_4 : List ((List UInt8) × (List UInt8))) (vb11_5 : Int) (vb12_0 : Int) (vb12_1 : Int) (vb13_0 : List UInt8) (vb13_1 : Int) (vb13_2 : List ((Bool) × (Int) × (Int))) (vb13_3 : Int) (vb13_4 : List ((List UInt8) × (List UInt8))) (vb13_5 : Int) (vb14_0 : Int) (vb14_1 : Int) (vk0 : Nat) : Option X :=
 bif decide (v22 ≥ (0 : Int)) then
  (sub bb4 v22 (IntKind.wrap .i64 (v22 + (1 : Int)))).bind fun x15 =>
   (F.dog_Line n (cb0, cb1, cb2, cb3, x15, cb5, ())).bind fun y16 =>
    bif !(y16.2.1 == (0 : Int)) then
     kr false ab0 ab1 ab2 ab3 ab4 ab5 bb0 bb1 bb2 bb3 bb4 bb5 cb0 cb1 cb2 cb3 cb4 cb5 db0 db1 db2 db3 db4 db5 hb0 hb1 ib0 ib1 ib2 ib3 ib4 ib5 jb0 jb1 lb0 lb1 lb2 lb3 lb4 lb5 vb8_0 vb8_1 vb9_0 vb9_1 vb9_2 vb9_3 vb9_4 vb9_5 vb10_0 vb10_1 vb11_0 vb11_1 vb11_2 vb11_3 vb11_4 vb11_5 vb12_0 vb12_1 vb13_0 vb13_1 vb13_2 vb13_3 vb13_4 vb13_5 vb14_0 vb14_1 vk0
    else
    bif decide ((y16.1.length : Int) < (IntKind.wrap .i64 ((v8.length : Int) + (2 : Int)))) then
     kr false ab0 ab1 ab2 ab3 ab4 ab5 bb0 bb1 bb2 bb3 bb4 bb5 cb0 cb1 cb2 cb3 cb4 cb5 db0 db1 db2 db3 db4 db5 hb0 hb1 ib0 ib1 ib2 ib3 ib4 ib5 jb0 jb1 lb0 lb1 lb2 lb3 lb4 lb5 vb8_0 vb8_1 vb9_0 vb9_1 vb9_2 vb9_3 vb9_4 vb9_5 vb10_0 vb10_1 vb11_0 vb11_1 vb11_2 vb11_3 vb11_4 vb11_5 vb12_0 vb12_1 vb13_0 vb13_1 vb13_2 vb13_3 vb13_4 vb13_5 vb14_0 vb14_1 vk0
    else
     (sub y16.1 (IntKind.wrap .i64 ((v8.length : Int) + (2 : Int))) (y16.1.length : Int)).bind fun x17 =>
      bif decide (v21.length + x17.length ≤ strMax) then
       bif decide ((bb4.length : Int) < (32 : Int)) then
        bif (bb4.length : Int) == 0 then
         none
        else
        bif (bb4.length : Int) == 0 then
         none
        else
        bif v22 == ((IntKind.wrap .i64 ((v1.tmod (bb4.length : Int)) + (bb4.length : Int))).tmod (bb4.length : Int)) then
         bif decide (((v21 ++ x17).length) + 1 ≤ strMax) then
          (sub y16.1 (IntKind.wrap .i64 ((v8.length : Int) + (2 : Int))) (y16.1.length : Int)).bind fun x18 =>
           bif decide ((((v21 ++ x17) ++ ([44])).length) + x18.length ≤ strMax) then
            bif decide (v22 > (0 : Int)) then
             bif decide (((((v21 ++ x17) ++ ([44])) ++ x18).length) + 1 ≤ strMax) then
              rec v1 v8 ((((v21 ++ x17) ++ ([44])) ++ x18) ++ ([44])) (IntKind.wrap .i64 (v22 - (1 : Int))) ab0 ab1 ab2 ab3 ab4 ab5 bb0 bb1 bb2 bb3 bb4 bb5 cb0 cb1 cb2 cb3 cb4 cb5 db0 db1 db2 db3 db4 db5 hb0 hb1 ib0 ib1 ib2 ib3 ib4 ib5 jb0 jb1 lb0 lb1 lb2 lb3 lb4 lb5 vb8_0 vb8_1 vb9_0 vb9_1 vb9_2 vb9_3 vb9_4 vb9_5 vb10_0 vb10_1 vb11_0 vb11_1 vb11_2 vb11_3 vb11_4 vb11_5 vb12_0 vb12_1 vb13_0 vb13_1 vb13_2 vb13_3 vb13_4 vb13_5 vb14_0 vb14_1 vk0
             else
              none
            else
             rec v1 v8 (((v21 ++ x17) ++ ([44])) ++ x18) (IntKind.wrap .i64 (v22 - (1 : Int))) ab0 ab1 ab2 ab3 ab4 ab5 bb0 bb1 bb2 bb3 bb4 bb5 cb0 cb1 cb2 cb3 cb4 cb5 db0 db1 db2 db3 db4 db5 hb0 hb1 ib0 ib1 ib2 ib3 ib4 ib5 jb0 jb1 lb0 lb1 lb2 lb3 lb4 lb5 vb8_0 vb8_1 vb9_0 vb9_1 vb9_2 vb9_3 vb9_4 vb9_5 vb10_0 vb10_1 vb11_0 vb11_1 vb11_2 vb11_3 vb11_4 vb11_5 vb12_0 vb12_1 vb13_0 vb13_1 vb13_2 vb13_3 vb13_4 vb13_5 vb14_0 vb14_1 vk0
           else
            none
         else
          none
        else
        bif decide (v22 > (0 : Int)) then
         bif decide (((v21 ++ x17).length) + 1 ≤ strMax) then
          rec v1 v8 ((v21 ++ x17) ++ ([44])) (IntKind.wrap .i64 (v22 - (1 : Int))) ab0 ab1 ab2 ab3 ab4 ab5 bb0 bb1 bb2 bb3 bb4 bb5 cb0 cb1 cb2 cb3 cb4 cb5 db0 db1 db2 db3 db4 db5 hb0 hb1 ib0 ib1 ib2 ib3 ib4 ib5 jb0 jb1 lb0 lb1 lb2 lb3 lb4 lb5 vb8_0 vb8_1 vb9_0 vb9_1 vb9_2 vb9_3 vb9_4 vb9_5 vb10_0 vb10_1 vb11_0 vb11_1 vb11_2 vb11_3 vb11_4 vb11_5 vb12_0 vb12_1 vb13_0 vb13_1 vb13_2 vb13_3 vb13_4 vb13_5 vb14_0 vb14_1 vk0
         else
          none
        else
         rec v1 v8 (v21 ++ x17) (IntKind.wrap .i64 (v22 - (1 : Int))) ab0 ab1 ab2 ab3 ab4 ab5 bb0 bb1 bb2 bb3 bb4 bb5 cb0 cb1 cb2 cb3 cb4 cb5 db0 db1 db2 db3 db4 db5 hb0 hb1 ib0 ib1 ib2 ib3 ib4 ib5 jb0 jb1 lb0 lb1 lb2 lb3 lb4 lb5 vb8_0 vb8_1 vb9_0 vb9_1 vb9_2 vb9_3 vb9_4 vb9_5 vb10_0 vb10_1 vb11_0 vb11_1 vb11_2 vb11_3 vb11_4 vb11_5 vb12_0 vb12_1 vb13_0 vb13_1 vb13_2 vb13_3 vb13_4 vb13_5 vb14_0 vb14_1 vk0
       else
       bif decide (v22 > (0 : Int)) then
        bif decide (((v21 ++ x17).length) + 1 ≤ strMax) then
         rec v1 v8 ((v21 ++ x17) ++ ([44])) (IntKind.wrap .i64 (v22 - (1 : Int))) ab0 ab1 ab2 ab3 ab4 ab5 bb0 bb1 bb2 bb3 bb4 bb5 cb0 cb1 cb2 cb3 cb4 cb5 db0 db1 db2 db3 db4 db5 hb0 hb1 ib0 ib1 ib2 ib3 ib4 ib5 jb0 jb1 lb0 lb1 lb2 lb3 lb4 lb5 vb8_0 vb8_1 vb9_0 vb9_1 vb9_2 vb9_3 vb9_4 vb9_5 vb10_0 vb10_1 vb11_0 vb11_1 vb11_2 vb11_3 vb11_4 vb11_5 vb12_0 vb12_1 vb13_0 vb13_1 vb13_2 vb13_3 vb13_4 vb13_5 vb14_0 vb14_1 vk0
        else
         none
       else
        rec v1 v8 (v21 ++ x17) (IntKind.wrap .i64 (v22 - (1 : Int))) ab0 ab1 ab2 ab3 ab4 ab5 bb0 bb1 bb2 bb3 bb4 bb5 cb0 cb1 cb2 cb3 cb4 cb5 db0 db1 db2 db3 db4 db5 hb0 hb1 ib0 ib1 ib2 ib3 ib4 ib5 jb0 jb1 lb0 lb1 lb2 lb3 lb4 lb5 vb8_0 vb8_1 vb9_0 vb9_1 vb9_2 vb9_3 vb9_4 vb9_5 vb10_0 vb10_1 vb11_0 vb11_1 vb11_2 vb11_3 vb11_4 vb11_5 vb12_0 vb12_1 vb13_0 vb13_1 vb13_2 vb13_3 vb13_4 vb13_5 vb14_0 vb14_1 vk0
      else
       none
 else
  k0 v21 ab0 ab1 ab2 ab3 ab4 ab5 bb0 bb1 bb2 bb3 bb4 bb5 cb0 cb1 cb2 cb3 cb4 cb5 db0 db1 db2 db3 db4 db5 hb0 hb1 ib0 ib1 ib2 ib3 ib4 ib5 jb0 jb1 lb0 lb1 lb2 lb3 lb4 lb5 vb8_0 vb8_1 vb9_0 vb9_1 vb9_2 vb9_3 vb9_4 vb9_5 vb10_0 vb10_1 vb11_0 vb11_1 vb11_2 vb11_3 vb11_4 vb11_5 vb12_0 vb12_1 vb13_0 vb13_1 vb13_2 vb13_3 vb13_4 vb13_5 vb14_0 vb14_1 vk0
noncomputable def F.law11_DogPieces.L23 {X : Type} (n : Nat) (k0 : (List UInt8) → (List UInt8) → Int → (List ((Bool) × (Int) × (Int))) → Int → (List ((List UInt8) × (List UInt8))) → Int → (List UInt8) → Int → (List ((Bool) × (Int) × (Int))) → Int → (List ((List UInt8) × (List UInt8))) → Int → (List UInt8) → Int → (List ((Bool) × (Int) × (Int))) → Int → (List ((List UInt8) × (List UInt8))) → Int → (List UInt8) → Int → (List ((Bool) × (Int) × (Int))) → Int → (List ((List UInt8) × (List UInt8))) → Int → Int → Int → (List UInt8) → Int → (List ((Bool) × (Int) × (Int))) → Int → (List ((List UInt8) × (List UInt8))) → Int → Int → Int → (List UInt8) → Int → (List ((Bool) × (Int) × (Int))) → Int → (List ((List UInt8) × (List UInt8))) → Int → Int → Int → (List UInt8) → Int → (List ((Bool) × (Int) × (Int))) → Int → (List ((List UInt8) × (List UInt8))) → Int → Int → Int → (List UInt8) → Int → (List ((Bool) × (Int) × (Int))) → Int → (List ((List UInt8) × (List UInt8))) → Int → Int → Int → (List UInt8) → Int → (List ((Bool) × (Int) × (Int))) → Int → (List ((List UInt8) × (List UInt8))) → Int → Int → Int → Nat → Option X) (kr : Bool → (List UInt8) → Int → (List ((Bool) × (Int) × (Int))) → Int → (List ((List UInt8) × (List UInt8))) → Int → (List UInt8) → Int → (List ((Bool) × (Int) × (Int))) → Int → (List ((List UInt8) × (List UInt8))) → Int → (List UInt8) → Int → (List ((Bool) × (Int) × (Int))) → Int → (List ((List UInt8) × (List UInt8))) → Int → (List UInt8) → Int → (List ((Bool) × (Int) × (Int))) → Int → (List ((List UInt8) × (List UInt8))) → Int → Int → Int → (List UInt8) → Int → (List ((Bool) × (Int) × (Int))) → Int → (List ((List UInt8) × (List UInt8))) → Int → Int → Int → (List UInt8) → Int → (List ((Bool) × (Int) × (Int))) → Int → (List ((List UInt8) × (List UInt8))) → Int → Int → Int → (List UInt8) → Int → (List ((Bool) × (Int) × (Int))) → Int → (List ((List UInt8) × (List UInt8))) → Int → Int → Int → (List UInt8) → Int → (List ((Bool) × (Int) × (Int))) → Int → (List ((List UInt8) × (List UInt8))) → Int → Int → Int → (List UInt8) → Int → (List ((Bool) × (Int) × (Int))) → Int → (List ((List UInt8) × (List UInt8))) → Int → Int → Int → Nat → Option X) : Nat → Int → (List UInt8) → (List UInt8) → Int → (List UInt8) → Int → (List ((Bool) × (Int) × (Int))) → Int → (List ((List UInt8) × (List UInt8))) → Int → (List UInt8) → Int → (List ((Bool) × (Int) × (Int))) → Int → (List ((List UInt8) × (List UInt8))) → Int → (List UInt8) → Int → (List ((Bool) × (Int) × (Int))) → Int → (List ((List UInt8) × (List UInt8))) → Int → (List UInt8) → Int → (List ((Bool) × (Int) × (Int))) → Int → (List ((List UInt8) × (List UInt8))) → Int → Int → Int → (List UInt8) → Int → (List ((Bool) × (Int) × (Int))) → Int → (List ((List UInt8) × (List UInt8))) → Int → Int → Int → (List UInt8) → Int → (List ((Bool) × (Int) × (Int))) → Int → (List ((List UInt8) × (List UInt8))) → Int → Int → Int → (List UInt8) → Int → (List ((Bool) × (Int) × (Int))) → Int → (List ((List UInt8) × (List UInt8))) → Int → Int → Int → (List UInt8) → Int → (List ((Bool) × (Int) × (Int))) → Int → (List ((List UInt8) × (List UInt8))) → Int → Int → Int → (List UInt8) → Int → (List ((Bool) × (Int) × (Int))) → Int → (List ((List UInt8) × (List UInt8))) → Int → Int → Int → Nat → Option X
 | 0 => fun _ _ _ _ _ _ _ _ _ _ _ _ _ _ _ _ _ _ _ _ _ _ _ _ _ _ _ _ _ _ _ _ _ _ _ _ _ _ _ _ _ _ _ _ _ _ _ _ _ _ _ _ _ _ _ _ _ _ _ _ _ _ _ _ _ _ _ _ _ _ _ => none
 | m + 1 => fun v1 v8 v21 v22 ab0 ab1 ab2 ab3 ab4 ab5 bb0 bb1 bb2 bb3 bb4 bb5 cb0 cb1 cb2 cb3 cb4 cb5 db0 db1 db2 db3 db4 db5 hb0 hb1 ib0 ib1 ib2 ib3 ib4 ib5 jb0 jb1 lb0 lb1 lb2 lb3 lb4 lb5 vb8_0 vb8_1 vb9_0 vb9_1 vb9_2 vb9_3 vb9_4 vb9_5 vb10_0 vb10_1 vb11_0 vb11_1 vb11_2 vb11_3 vb11_4 vb11_5 vb12_0 vb12_1 vb13_0 vb13_1 vb13_2 vb13_3 vb13_4 vb13_5 vb14_0 vb14_1 vk0 => F.law11_DogPieces.L23.step n (F.law11_DogPieces.L23 n k0 kr m) k0 kr v1 v8 v21 v22 ab0 ab1 ab2 ab3 ab4 ab5 bb0 bb1 bb2 bb3 bb4 bb5 cb0 cb1 cb2 cb3 cb4 cb5 db0 db1 db2 db3 db4 db5 hb0 hb1 ib0 ib1 ib2 ib3 ib4 ib5 jb0 jb1 lb0 lb1 lb2 lb3 lb4 lb5 vb8_0 vb8_1 vb9_0 vb9_1 vb9_2 vb9_3 vb9_4 vb9_5 vb10_0 vb10_1 vb11_0 vb11_1 vb11_2 vb11_3 vb11_4 vb11_5 vb12_0 vb12_1 vb13_0 vb13_1 vb13_2 vb13_3 vb13_4 vb13_5 vb14_0 vb14_1 vk0
noncomputable def F.law11_DogPieces (n : Nat) (a0 : (List UInt8) × (Int) × (List ((Bool) × (Int) × (Int))) × (Int) × (List ((List UInt8) × (List UInt8))) × (Int) × Unit) (a1 : Int) : Option (Bool) :=
 (F.law07_Few n (a0.1, a0.2.1, a0.2.2.1, a0.2.2.2.1, a0.2.2.2.2.1, a0.2.2.2.2.2.1, ())).bind fun y1 =>
  bif !y1 then
   (F.law11_awake n ).bind fun y2 =>
    some (y2)
  else
   (F.metric_Normal n (a0.1, a0.2.1, a0.2.2.1, a0.2.2.2.1, a0.2.2.2.2.1, a0.2.2.2.2.2.1, ())).bind fun y3 =>
    bif !(y3.2.1 == (0 : Int)) then
     (F.metric_Equal n (y3.1.1, y3.1.2.1, y3.1.2.2.1, y3.1.2.2.2.1, y3.1.2.2.2.2.1, y3.1.2.2.2.2.2.1, ()) ([], (0 : Int), [], (0 : Int), [], (0 : Int), ())).bind fun y4 =>
      bif y4 then
       (F.law11_awake n ).bind fun y5 =>
        some (y5)
      else
       some (false)
    else
     (F.dog_Line n (y3.1.1, y3.1.2.1, y3.1.2.2.1, (1000000 : Int), [], (0 : Int), ())).bind fun y6 =>
      bif !(y6.2.1 == (0 : Int)) then
       some (false)
      else
       (F.dog_Parse n y6.1).bind fun y7 =>
        bif decide (y6.1.length + 3 ≤ strMax) then
         (F.dog_Parse n (y6.1 ++ ([124, 64, 49]))).bind fun y8 =>
          bif decide (y6.1.length + 6 ≤ strMax) then
           (F.dog_Parse n (y6.1 ++ ([124, 64, 49, 124, 64, 49]))).bind fun y9 =>
            bif decide (y6.1.length + 6 ≤ strMax) then
             (F.dog_Parse n (y6.1 ++ ([124, 84, 53, 124, 35, 97]))).bind fun y10 =>
              bif decide (y6.1.length + 6 ≤ strMax) then
               (F.dog_Parse n (y6.1 ++ ([124, 35, 97, 124, 64, 49]))).bind fun y11 =>
                bif decide (y6.1.length + 1 ≤ strMax) then
                 (F.dog_Parse n (y6.1 ++ ([124]))).bind fun y12 =>
                  bif !((y7.2.1.1 == (0 : Int)) && (y7.2.1.2.1 == (0 : Int))) then
                   some (false)
                  else
                  bif !((y8.2.1.1 == y7.2.1.1) && (y8.2.1.2.1 == y7.2.1.2.1)) then
                   some (false)
                  else
                   (F.metric_Equal n (y7.1.1, y7.1.2.1, y7.1.2.2.1, y7.1.2.2.2.1, y7.1.2.2.2.2.1, y7.1.2.2.2.2.2.1, ()) (y3.1.1, y3.1.2.1, y3.1.2.2.1, (1000000 : Int), [], (0 : Int), ())).bind fun y13 =>
                    bif !y13 then
                     some (false)
                    else
                     (F.metric_Equal n (y8.1.1, y8.1.2.1, y8.1.2.2.1, y8.1.2.2.2.1, y8.1.2.2.2.2.1, y8.1.2.2.2.2.2.1, ()) (y3.1.1, y3.1.2.1, y3.1.2.2.1, (1000000 : Int), [], (0 : Int), ())).bind fun y14 =>
                      bif !y14 then
                       some (false)
                      else
                      bif !((y9.2.1.1 == (11 : Int)) && (y9.2.1.2.1 == (IntKind.wrap .i64 ((y6.1.length : Int) + (4 : Int))))) then
                       some (false)
                      else
                      bif !((y10.2.1.1 == (11 : Int)) && (y10.2.1.2.1 == (IntKind.wrap .i64 ((y6.1.length : Int) + (4 : Int))))) then
                       some (false)
                      else
                      bif !((y11.2.1.1 == (11 : Int)) && (y11.2.1.2.1 == (IntKind.wrap .i64 ((y6.1.length : Int) + (4 : Int))))) then
                       some (false)
                      else
                      bif !((y12.2.1.1 == (11 : Int)) && (y12.2.1.2.1 == (IntKind.wrap .i64 ((y6.1.length : Int) + (1 : Int))))) then
                       some (false)
                      else
                      bif decide (y6.1.length + 2 ≤ strMax) then
                       F.law11_DogPieces.L23 n
                        (fun e21 g0 g1 g2 g3 g4 g5 h0 h1 h2 h3 h4 h5 i0 i1 i2 i3 i4 i5 j0 j1 j2 j3 j4 j5 l0 l1 o0 o1 o2 o3 o4 o5 p0 p1 q0 q1 q2 q3 q4 q5 e19_b8_0 e19_b8_1 e19_b9_0 e19_b9_1 e19_b9_2 e19_b9_3 e19_b9_4 e19_b9_5 e19_b10_0 e19_b10_1 e19_b11_0 e19_b11_1 e19_b11_2 e19_b11_3 e19_b11_4 e19_b11_5 e19_b12_0 e19_b12_1 e19_b13_0 e19_b13_1 e19_b13_2 e19_b13_3 e19_b13_4 e19_b13_5 e19_b14_0 e19_b14_1 ek0 =>
                         bif (h4.length : Int) == (0 : Int) then
                          (F.law11_awake n ).bind fun y20 =>
                           some (y20)
                         else
                          (F.dog_Parse n e21).bind fun y21 =>
                           bif (y21.2.1.1 == (0 : Int)) && (y21.2.1.2.1 == (0 : Int)) then
                            (F.metric_Equal n (y21.1.1, y21.1.2.1, y21.1.2.2.1, y21.1.2.2.2.1, y21.1.2.2.2.2.1, y21.1.2.2.2.2.2.1, ()) (i0, i1, i2, i3, h4, i5, ())).bind fun y22 =>
                             bif y22 then
                              (F.law11_awake n ).bind fun y23 =>
                               some (y23)
                             else
                              some (false)
                           else
                            some (false))
                        (fun e4 g0 g1 g2 g3 g4 g5 h0 h1 h2 h3 h4 h5 i0 i1 i2 i3 i4 i5 j0 j1 j2 j3 j4 j5 l0 l1 o0 o1 o2 o3 o4 o5 p0 p1 q0 q1 q2 q3 q4 q5 e24_b8_0 e24_b8_1 e24_b9_0 e24_b9_1 e24_b9_2 e24_b9_3 e24_b9_4 e24_b9_5 e24_b10_0 e24_b10_1 e24_b11_0 e24_b11_1 e24_b11_2 e24_b11_3 e24_b11_4 e24_b11_5 e24_b12_0 e24_b12_1 e24_b13_0 e24_b13_1 e24_b13_2 e24_b13_3 e24_b13_4 e24_b13_5 e24_b14_0 e24_b14_1 ek0 =>
                         some (e4)) n a1 y6.1 (y6.1 ++ ([124, 35])) (IntKind.wrap .i64 ((y3.1.2.2.2.2.1.length : Int) - (1 : Int))) a0.1 a0.2.1 a0.2.2.1 a0.2.2.2.1 a0.2.2.2.2.1 a0.2.2.2.2.2.1 y3.1.1 y3.1.2.1 y3.1.2.2.1 y3.1.2.2.2.1 y3.1.2.2.2.2.1 y3.1.2.2.2.2.2.1 y3.1.1 y3.1.2.1 y3.1.2.2.1 (1000000 : Int) [] (0 : Int) y7.1.1 y7.1.2.1 y7.1.2.2.1 y7.1.2.2.2.1 y7.1.2.2.2.2.1 y7.1.2.2.2.2.2.1 y7.2.1.1 y7.2.1.2.1 y8.1.1 y8.1.2.1 y8.1.2.2.1 y8.1.2.2.2.1 y8.1.2.2.2.2.1 y8.1.2.2.2.2.2.1 y8.2.1.1 y8.2.1.2.1 y9.1.1 y9.1.2.1 y9.1.2.2.1 y9.1.2.2.2.1 y9.1.2.2.2.2.1 y9.1.2.2.2.2.2.1 y9.2.1.1 y9.2.1.2.1 y10.1.1 y10.1.2.1 y10.1.2.2.1 y10.1.2.2.2.1 y10.1.2.2.2.2.1 y10.1.2.2.2.2.2.1 y10.2.1.1 y10.2.1.2.1 y11.1.1 y11.1.2.1 y11.1.2.2.1 y11.1.2.2.2.1 y11.1.2.2.2.2.1 y11.1.2.2.2.2.2.1 y11.2.1.1 y11.2.1.2.1 y12.1.1 y12.1.2.1 y12.1.2.2.1 y12.1.2.2.2.1 y12.1.2.2.2.2.1 y12.1.2.2.2.2.2.1 y12.2.1.1 y12.2.1.2.1 0
                      else
                       none
                else
                 none
              else
               none
            else
             none
          else
           none
        else
         none
end Go.AM
namespace Go.Proofs
open Go.Shelf
def Tryz.lays156_ren : Go.Shelf.Ren := ⟨fun | 156 => 61 | 165 => 102 | 166 => 27 | 169 => 32 | 240 => 54 | 241 => 144 | 276 => 98 | 277 => 180 | n => n, fun | 31 => 28 | 9 => 9 | 3 => 3 | 4 => 4 | 0 => 0 | 20 => 20 | 72 => 59 | 76 => 62 | 70 => 56 | 37 => 57 | 75 => 61 | 127 => 100 | 164 => 132 | 5 => 5 | 80 => 68 | n => n, fun | n => n⟩
theorem Tryz.lays156 : Go.Proofs.Lays.n156 Tryz.prog Tryz.lays156_ren := {
  mixed := by kernel_rfl
  f156 := Tryz.func61.trans (congrArg some (by kernel_rfl))
  f165 := Tryz.func102.trans (congrArg some (by kernel_rfl))
  f166 := Tryz.func27.trans (congrArg some (by kernel_rfl))
  f169 := Tryz.func32.trans (congrArg some (by kernel_rfl))
  f240 := Tryz.func54.trans (congrArg some (by kernel_rfl))
  f241 := Tryz.func144.trans (congrArg some (by kernel_rfl))
  f276 := Tryz.func98.trans (congrArg some (by kernel_rfl))
  f277 := Tryz.func180.trans (congrArg some (by kernel_rfl))
  t0 := Tryz.underlying0
  a0 := Tryz.isAgg0
  z0 := Tryz.sizeOf0
  v0 := Tryz.zeroValue0
  t3 := Tryz.underlying3
  a3 := Tryz.isAgg3
  z3 := Tryz.sizeOf3
  v3 := Tryz.zeroValue3
  t4 := Tryz.underlying4
  a4 := Tryz.isAgg4
  z4 := Tryz.sizeOf4
  v4 := Tryz.zeroValue4
  t9 := Tryz.underlying9
  a9 := Tryz.isAgg9
  z9 := Tryz.sizeOf9
  v9 := Tryz.zeroValue9
  t20 := Tryz.underlying20
  a20 := Tryz.isAgg20
  z20 := Tryz.sizeOf20
  v20 := Tryz.zeroValue20
  t31 := Tryz.underlying28
  a31 := Tryz.isAgg28
  z31 := Tryz.sizeOf28
  v31 := Tryz.zeroValue28
  t37 := Tryz.underlying57
  a37 := Tryz.isAgg57
  z37 := Tryz.sizeOf57
  v37 := Tryz.zeroValue57
  t70 := Tryz.underlying56
  a70 := Tryz.isAgg56
  z70 := Tryz.sizeOf56
  v70 := Tryz.zeroValue56
  t72 := Tryz.underlying59
  a72 := Tryz.isAgg59
  z72 := Tryz.sizeOf59
  v72 := Tryz.zeroValue59
  t75 := Tryz.underlying61
  a75 := Tryz.isAgg61
  z75 := Tryz.sizeOf61
  v75 := Tryz.zeroValue61
  t76 := Tryz.underlying62
  a76 := Tryz.isAgg62
  z76 := Tryz.sizeOf62
  v76 := Tryz.zeroValue62
  t127 := Tryz.underlying100
  a127 := Tryz.isAgg100
  z127 := Tryz.sizeOf100
  v127 := Tryz.zeroValue100
  t164 := Tryz.underlying132
  a164 := Tryz.isAgg132
  z164 := Tryz.sizeOf132
  v164 := Tryz.zeroValue132 }
theorem Tryz.Builder_Extra_156 : Builder.Extra Tryz.prog Tryz.lays156_ren := {
  sizeBuilder := by kernel_rfl
  liesBuilder := by kernel_rfl
  t5 := Tryz.underlying5
  a5 := Tryz.isAgg5
  z5 := Tryz.sizeOf5
  v5 := Tryz.zeroValue5
  infoByte := by kernel_rfl
  cellsByte := by kernel_rfl
  sizeByte := by kernel_rfl
  neB5 := by decide }
open Go.RowKit in
theorem Tryz.strings_Join_none (a : Option Addr) (c : Nat) (sep : ByteArray) (w : World) :
    Calls Tryz.prog 61 #[.slice a 0 c, .string sep] w fun e w' => e = .returned (.string ⟨#[]⟩) ∧ w' = w := Any.strings_Join_none Tryz.lays156 Tryz.Builder_Extra_156 a c sep w
open Go.RowKit in
theorem Tryz.strings_Join (bk o c : Nat) (xs : List ByteArray) (sep : ByteArray) (w : World) (hcells : ∀ (j : Nat) x, xs[j]? = some x → w.cell? ⟨bk, o + j, none⟩ = some (.string x)) (hbk : bk < w.heap.size) (hN : xs.length ≤ 140737488355328) (hcap : xs.length ≤ c) (hlen : (Lib.join (xs.map (·.data.toList)) sep.data.toList).length ≤ 140737488355328) :
    Calls Tryz.prog 61 #[.slice (some ⟨bk, o, none⟩) xs.length c, .string sep] w fun e w' => e = .returned (.string ⟨(Lib.join (xs.map (·.data.toList)) sep.data.toList).toArray⟩) ∧ Below w.heap.size w w' := Any.strings_Join Tryz.lays156 Tryz.Builder_Extra_156 bk o c xs sep w hcells hbk hN hcap hlen
def Tryz.lays161_ren : Go.Shelf.Ren := ⟨fun | 161 => 119 | 231 => 157 | 227 => 106 | 233 => 158 | 235 => 159 | 228 => 146 | 197 => 151 | 151 => 148 | 260 => 183 | 152 => 182 | 137 => 198 | 119 => 199 | 224 => 186 | 225 => 185 | 217 => 184 | 266 => 200 | n => n, fun | 9 => 9 | 4 => 4 | 3 => 3 | 5 => 5 | 117 => 143 | 116 => 142 | 0 => 0 | 124 => 146 | 105 => 175 | 21 => 21 | 119 => 208 | 46 => 134 | 139 => 211 | 138 => 210 | n => n, fun | 3 => 2 | 4 => 3 | n => n⟩
theorem Tryz.lays161 : Go.Proofs.Lays.n161 Tryz.prog Tryz.lays161_ren := {
  mixed := by kernel_rfl
  f119 := Tryz.func199.trans (congrArg some (by kernel_rfl))
  f137 := Tryz.func198.trans (congrArg some (by kernel_rfl))
  f151 := Tryz.func148.trans (congrArg some (by kernel_rfl))
  f152 := Tryz.func182.trans (congrArg some (by kernel_rfl))
  f161 := Tryz.func119.trans (congrArg some (by kernel_rfl))
  f197 := Tryz.func151.trans (congrArg some (by kernel_rfl))
  f217 := Tryz.func184.trans (congrArg some (by kernel_rfl))
  f224 := Tryz.func186.trans (congrArg some (by kernel_rfl))
  f225 := Tryz.func185.trans (congrArg some (by kernel_rfl))
  f227 := Tryz.func106.trans (congrArg some (by kernel_rfl))
  f228 := Tryz.func146.trans (congrArg some (by kernel_rfl))
  f231 := Tryz.func157.trans (congrArg some (by kernel_rfl))
  f233 := Tryz.func158.trans (congrArg some (by kernel_rfl))
  f235 := Tryz.func159.trans (congrArg some (by kernel_rfl))
  f260 := Tryz.func183.trans (congrArg some (by kernel_rfl))
  f266 := Tryz.func200.trans (congrArg some (by kernel_rfl))
  t0 := Tryz.underlying0
  a0 := Tryz.isAgg0
  z0 := Tryz.sizeOf0
  v0 := Tryz.zeroValue0
  t3 := Tryz.underlying3
  a3 := Tryz.isAgg3
  z3 := Tryz.sizeOf3
  v3 := Tryz.zeroValue3
  t4 := Tryz.underlying4
  a4 := Tryz.isAgg4
  z4 := Tryz.sizeOf4
  v4 := Tryz.zeroValue4
  t5 := Tryz.underlying5
  a5 := Tryz.isAgg5
  z5 := Tryz.sizeOf5
  v5 := Tryz.zeroValue5
  t9 := Tryz.underlying9
  a9 := Tryz.isAgg9
  z9 := Tryz.sizeOf9
  v9 := Tryz.zeroValue9
  t21 := Tryz.underlying21
  a21 := Tryz.isAgg21
  z21 := Tryz.sizeOf21
  v21 := Tryz.zeroValue21
  t46 := Tryz.underlying134
  a46 := Tryz.isAgg134
  z46 := Tryz.sizeOf134
  v46 := Tryz.zeroValue134
  t105 := Tryz.underlying175
  a105 := Tryz.isAgg175
  z105 := Tryz.sizeOf175
  v105 := Tryz.zeroValue175
  t116 := Tryz.underlying142
  a116 := Tryz.isAgg142
  z116 := Tryz.sizeOf142
  t117 := Tryz.underlying143
  a117 := Tryz.isAgg143
  z117 := Tryz.sizeOf143
  v117 := Tryz.zeroValue143
  t119 := Tryz.underlying208
  a119 := Tryz.isAgg208
  z119 := Tryz.sizeOf208
  t124 := Tryz.underlying146
  a124 := Tryz.isAgg146
  z124 := Tryz.sizeOf146
  v124 := Tryz.zeroValue146
  t138 := Tryz.underlying210
  a138 := Tryz.isAgg210
  z138 := Tryz.sizeOf210
  v138 := Tryz.zeroValue210
  t139 := Tryz.underlying211
  a139 := Tryz.isAgg211
  z139 := Tryz.sizeOf211
  v139 := Tryz.zeroValue211
  g3 := by kernel_rfl
  g4 := by kernel_rfl }
open Go.RowKit in
theorem Tryz.strings_TrimLeft_one (s : ByteArray) (c : UInt8) (hc : c.toNat < 128) (w : World) :
    Calls Tryz.prog 119 #[.string s, .string ⟨#[c]⟩] w fun e w' => e = .returned (.string ⟨(Lib.trimLeftB s.data.toList c).toArray⟩) ∧ w' = w := Any.strings_TrimLeft_one Tryz.lays161 s c hc w
def Tryz.lays162_ren : Go.Shelf.Ren := ⟨fun | 162 => 59 | 232 => 105 | 227 => 106 | 234 => 107 | 236 => 108 | 228 => 146 | 271 => 147 | 151 => 148 | 120 => 181 | 197 => 151 | 152 => 182 | 260 => 183 | 137 => 198 | 119 => 199 | 224 => 186 | 225 => 185 | 217 => 184 | 266 => 200 | n => n, fun | 9 => 9 | 4 => 4 | 3 => 3 | 5 => 5 | 117 => 143 | 116 => 142 | 0 => 0 | 124 => 146 | 21 => 21 | 105 => 175 | 46 => 134 | 119 => 208 | 139 => 211 | 138 => 210 | n => n, fun | 3 => 2 | 4 => 3 | n => n⟩
theorem Tryz.lays162 : Go.Proofs.Lays.n162 Tryz.prog Tryz.lays162_ren := {
  mixed := by kernel_rfl
  f119 := Tryz.func199.trans (congrArg some (by kernel_rfl))
  f120 := Tryz.func181.trans (congrArg some (by kernel_rfl))
  f137 := Tryz.func198.trans (congrArg some (by kernel_rfl))
  f151 := Tryz.func148.trans (congrArg some (by kernel_rfl))
  f152 := Tryz.func182.trans (congrArg some (by kernel_rfl))
  f162 := Tryz.func59.trans (congrArg some (by kernel_rfl))
  f197 := Tryz.func151.trans (congrArg some (by kernel_rfl))
  f217 := Tryz.func184.trans (congrArg some (by kernel_rfl))
  f224 := Tryz.func186.trans (congrArg some (by kernel_rfl))
  f225 := Tryz.func185.trans (congrArg some (by kernel_rfl))
  f227 := Tryz.func106.trans (congrArg some (by kernel_rfl))
  f228 := Tryz.func146.trans (congrArg some (by kernel_rfl))
  f232 := Tryz.func105.trans (congrArg some (by kernel_rfl))
  f234 := Tryz.func107.trans (congrArg some (by kernel_rfl))
  f236 := Tryz.func108.trans (congrArg some (by kernel_rfl))
  f260 := Tryz.func183.trans (congrArg some (by kernel_rfl))
  f266 := Tryz.func200.trans (congrArg some (by kernel_rfl))
  f271 := Tryz.func147.trans (congrArg some (by kernel_rfl))
  t0 := Tryz.underlying0
  a0 := Tryz.isAgg0
  z0 := Tryz.sizeOf0
  v0 := Tryz.zeroValue0
  t3 := Tryz.underlying3
  a3 := Tryz.isAgg3
  z3 := Tryz.sizeOf3
  v3 := Tryz.zeroValue3
  t4 := Tryz.underlying4
  a4 := Tryz.isAgg4
  z4 := Tryz.sizeOf4
  v4 := Tryz.zeroValue4
  t5 := Tryz.underlying5
  a5 := Tryz.isAgg5
  z5 := Tryz.sizeOf5
  v5 := Tryz.zeroValue5
  t9 := Tryz.underlying9
  a9 := Tryz.isAgg9
  z9 := Tryz.sizeOf9
  v9 := Tryz.zeroValue9
  t21 := Tryz.underlying21
  a21 := Tryz.isAgg21
  z21 := Tryz.sizeOf21
  v21 := Tryz.zeroValue21
  t46 := Tryz.underlying134
  a46 := Tryz.isAgg134
  z46 := Tryz.sizeOf134
  v46 := Tryz.zeroValue134
  t105 := Tryz.underlying175
  a105 := Tryz.isAgg175
  z105 := Tryz.sizeOf175
  v105 := Tryz.zeroValue175
  t116 := Tryz.underlying142
  a116 := Tryz.isAgg142
  z116 := Tryz.sizeOf142
  t117 := Tryz.underlying143
  a117 := Tryz.isAgg143
  z117 := Tryz.sizeOf143
  v117 := Tryz.zeroValue143
  t119 := Tryz.underlying208
  a119 := Tryz.isAgg208
  z119 := Tryz.sizeOf208
  t124 := Tryz.underlying146
  a124 := Tryz.isAgg146
  z124 := Tryz.sizeOf146
  v124 := Tryz.zeroValue146
  t138 := Tryz.underlying210
  a138 := Tryz.isAgg210
  z138 := Tryz.sizeOf210
  v138 := Tryz.zeroValue210
  t139 := Tryz.underlying211
  a139 := Tryz.isAgg211
  z139 := Tryz.sizeOf211
  v139 := Tryz.zeroValue211
  g3 := by kernel_rfl
  g4 := by kernel_rfl }
open Go.RowKit in
theorem Tryz.strings_TrimRight_one (s : ByteArray) (c : UInt8) (hc : c.toNat < 128) (w : World) (hs : s.size ≤ 9223372036854775807) :
    Calls Tryz.prog 59 #[.string s, .string ⟨#[c]⟩] w fun e w' => e = .returned (.string ⟨(Lib.trimRightB s.data.toList c).toArray⟩) ∧ w' = w := Any.strings_TrimRight_one Tryz.lays162 s c hc w hs
def Tryz.lays283_ren : Go.Shelf.Ren := ⟨fun | 283 => 138 | n => n, fun | 3 => 3 | 9 => 9 | 4 => 4 | n => n, fun | n => n⟩
theorem Tryz.lays283 : Go.Proofs.Lays.n283 Tryz.prog Tryz.lays283_ren := {
  mixed := by kernel_rfl
  f283 := Tryz.func138.trans (congrArg some (by kernel_rfl))
  t3 := Tryz.underlying3
  a3 := Tryz.isAgg3
  z3 := Tryz.sizeOf3
  v3 := Tryz.zeroValue3
  t4 := Tryz.underlying4
  a4 := Tryz.isAgg4
  z4 := Tryz.sizeOf4
  v4 := Tryz.zeroValue4
  t9 := Tryz.underlying9
  a9 := Tryz.isAgg9
  z9 := Tryz.sizeOf9
  v9 := Tryz.zeroValue9 }
open Go.Lib in
theorem Tryz.internal_strconv_small (i : Nat) (h : i < 100) (w : World) :
    Calls Tryz.prog 138 #[.int .i64 i] w fun e w' => e = .returned (.string ⟨(Lib.decDigits i).toArray⟩) ∧ w' = w := Any.internal_strconv_small Tryz.lays283 i h w
def Tryz.laysM284_ren : Go.Shelf.Ren := ⟨fun | 284 => 139 | 129 => 175 | 317 => 176 | 318 => 177 | n => n, fun | 53 => 49 | 3 => 3 | 212 => 196 | 0 => 0 | 4 => 4 | 46 => 134 | 5 => 5 | 9 => 9 | n => n, fun | 17 => 0 | n => n⟩
theorem Tryz.laysM284 : Go.Proofs.LaysM.n284 Tryz.prog Tryz.laysM284_ren := {
  mixed := by kernel_rfl
  f129 := Tryz.func175.trans (congrArg some (by kernel_rfl))
  f284 := Tryz.func139.trans (congrArg some (by kernel_rfl))
  f317 := Tryz.func176.trans (congrArg some (by kernel_rfl))
  f318 := Tryz.func177.trans (congrArg some (by kernel_rfl))
  t0 := Tryz.underlying0
  a0 := Tryz.isAgg0
  z0 := Tryz.sizeOf0
  v0 := Tryz.zeroValue0
  t3 := Tryz.underlying3
  a3 := Tryz.isAgg3
  z3 := Tryz.sizeOf3
  v3 := Tryz.zeroValue3
  t4 := Tryz.underlying4
  a4 := Tryz.isAgg4
  z4 := Tryz.sizeOf4
  v4 := Tryz.zeroValue4
  t5 := Tryz.underlying5
  a5 := Tryz.isAgg5
  z5 := Tryz.sizeOf5
  v5 := Tryz.zeroValue5
  t9 := Tryz.underlying9
  a9 := Tryz.isAgg9
  z9 := Tryz.sizeOf9
  v9 := Tryz.zeroValue9
  t46 := Tryz.underlying134
  a46 := Tryz.isAgg134
  z46 := Tryz.sizeOf134
  v46 := Tryz.zeroValue134
  t53 := Tryz.underlying49
  a53 := Tryz.isAgg49
  z53 := Tryz.sizeOf49
  v53 := Tryz.zeroValue49
  t212 := Tryz.underlying196
  a212 := Tryz.isAgg196
  z212 := Tryz.sizeOf196
  v212 := Tryz.zeroValue196
  g17 := by kernel_rfl
  i0 := by kernel_rfl
  i3 := by kernel_rfl
  i4 := by kernel_rfl
  i5 := by kernel_rfl
  i9 := by kernel_rfl
  i46 := by kernel_rfl
  i53 := by kernel_rfl
  i212 := by kernel_rfl
  m17 := by kernel_rfl }
open Go.Lib in
theorem Tryz.internal_strconv_numDigits (u : Nat) (h1 : 1 ≤ u) (h2 : u < 18446744073709551616) (w : World) (htab : Lib.TabIs Tryz.prog w "internal/strconv.uint64pow10" .u64 Lib.pow10Tab) :
    Calls Tryz.prog 139 #[.int .u64 u] w fun e w' => e = .returned (.int .i64 (Lib.nDigits u)) ∧ w' = w := Any.internal_strconv_numDigits Tryz.laysM284 u h1 h2 w htab
def Tryz.lays285_ren : Go.Shelf.Ren := ⟨fun | 285 => 140 | n => n, fun | 37 => 57 | 53 => 49 | 3 => 3 | 4 => 4 | 51 => 171 | 9 => 9 | 5 => 5 | 0 => 0 | n => n, fun | n => n⟩
theorem Tryz.lays285 : Go.Proofs.Lays.n285 Tryz.prog Tryz.lays285_ren := {
  mixed := by kernel_rfl
  f285 := Tryz.func140.trans (congrArg some (by kernel_rfl))
  t0 := Tryz.underlying0
  a0 := Tryz.isAgg0
  z0 := Tryz.sizeOf0
  v0 := Tryz.zeroValue0
  t3 := Tryz.underlying3
  a3 := Tryz.isAgg3
  z3 := Tryz.sizeOf3
  v3 := Tryz.zeroValue3
  t4 := Tryz.underlying4
  a4 := Tryz.isAgg4
  z4 := Tryz.sizeOf4
  v4 := Tryz.zeroValue4
  t5 := Tryz.underlying5
  a5 := Tryz.isAgg5
  z5 := Tryz.sizeOf5
  v5 := Tryz.zeroValue5
  t9 := Tryz.underlying9
  a9 := Tryz.isAgg9
  z9 := Tryz.sizeOf9
  v9 := Tryz.zeroValue9
  t37 := Tryz.underlying57
  a37 := Tryz.isAgg57
  z37 := Tryz.sizeOf57
  v37 := Tryz.zeroValue57
  t51 := Tryz.underlying171
  a51 := Tryz.isAgg171
  z51 := Tryz.sizeOf171
  v51 := Tryz.zeroValue171
  t53 := Tryz.underlying49
  a53 := Tryz.isAgg49
  z53 := Tryz.sizeOf49
  v53 := Tryz.zeroValue49 }
open Go.RowKit Go.Sort Go.Lib in
theorem Tryz.internal_strconv_formatBase10 (blk off cap : Nat) (u : Nat) (d : Array UInt8) (w : World) (hH : Holds (fun (b : UInt8) => Value.int .u8 (b.toNat : Int)) w blk off d) (hu : u < 10 ^ d.size) (hu64 : u < 18446744073709551616) (hsz : d.size < 4611686018427387904) :
    Calls Tryz.prog 140 #[.slice (some ⟨blk, off, none⟩) d.size cap, .int .u64 u] w fun e w' =>
      e = .returned (.tuple #[]) ∧ ∃ (n v' : Nat) (dk : Array UInt8), w' = (putRow (fun (b : UInt8) => Value.int .u8 (b.toNat : Int)) w blk off dk).drewN n ∧ FmtInv d.size u 0 v' dk := Any.internal_strconv_formatBase10 Tryz.lays285 blk off cap u d w hH hu hu64 hsz
def Tryz.laysM171_ren : Go.Shelf.Ren := ⟨fun | 171 => 58 | 243 => 104 | 246 => 145 | 283 => 138 | 284 => 139 | 285 => 140 | 286 => 141 | 129 => 175 | 317 => 176 | 318 => 177 | 319 => 178 | 320 => 179 | 337 => 196 | 338 => 197 | n => n, fun | 3 => 3 | 9 => 9 | 2 => 2 | 4 => 4 | 171 => 166 | 0 => 0 | 53 => 49 | 37 => 57 | 5 => 5 | 173 => 169 | 212 => 196 | 51 => 171 | 20 => 20 | 213 => 197 | 46 => 134 | 232 => 217 | 233 => 218 | n => n, fun | 17 => 0 | 18 => 4 | 19 => 5 | n => n⟩
theorem Tryz.laysM171 : Go.Proofs.LaysM.n171 Tryz.prog Tryz.laysM171_ren := {
  mixed := by kernel_rfl
  f129 := Tryz.func175.trans (congrArg some (by kernel_rfl))
  f171 := Tryz.func58.trans (congrArg some (by kernel_rfl))
  f243 := Tryz.func104.trans (congrArg some (by kernel_rfl))
  f246 := Tryz.func145.trans (congrArg some (by kernel_rfl))
  f283 := Tryz.func138.trans (congrArg some (by kernel_rfl))
  f284 := Tryz.func139.trans (congrArg some (by kernel_rfl))
  f285 := Tryz.func140.trans (congrArg some (by kernel_rfl))
  f286 := Tryz.func141.trans (congrArg some (by kernel_rfl))
  f317 := Tryz.func176.trans (congrArg some (by kernel_rfl))
  f318 := Tryz.func177.trans (congrArg some (by kernel_rfl))
  f319 := Tryz.func178.trans (congrArg some (by kernel_rfl))
  f320 := Tryz.func179.trans (congrArg some (by kernel_rfl))
  f337 := Tryz.func196.trans (congrArg some (by kernel_rfl))
  f338 := Tryz.func197.trans (congrArg some (by kernel_rfl))
  t0 := Tryz.underlying0
  a0 := Tryz.isAgg0
  z0 := Tryz.sizeOf0
  v0 := Tryz.zeroValue0
  t2 := Tryz.underlying2
  a2 := Tryz.isAgg2
  z2 := Tryz.sizeOf2
  v2 := Tryz.zeroValue2
  t3 := Tryz.underlying3
  a3 := Tryz.isAgg3
  z3 := Tryz.sizeOf3
  v3 := Tryz.zeroValue3
  t4 := Tryz.underlying4
  a4 := Tryz.isAgg4
  z4 := Tryz.sizeOf4
  v4 := Tryz.zeroValue4
  t5 := Tryz.underlying5
  a5 := Tryz.isAgg5
  z5 := Tryz.sizeOf5
  v5 := Tryz.zeroValue5
  t9 := Tryz.underlying9
  a9 := Tryz.isAgg9
  z9 := Tryz.sizeOf9
  v9 := Tryz.zeroValue9
  t20 := Tryz.underlying20
  a20 := Tryz.isAgg20
  z20 := Tryz.sizeOf20
  v20 := Tryz.zeroValue20
  t37 := Tryz.underlying57
  a37 := Tryz.isAgg57
  z37 := Tryz.sizeOf57
  v37 := Tryz.zeroValue57
  t46 := Tryz.underlying134
  a46 := Tryz.isAgg134
  z46 := Tryz.sizeOf134
  v46 := Tryz.zeroValue134
  t51 := Tryz.underlying171
  a51 := Tryz.isAgg171
  z51 := Tryz.sizeOf171
  v51 := Tryz.zeroValue171
  t53 := Tryz.underlying49
  a53 := Tryz.isAgg49
  z53 := Tryz.sizeOf49
  v53 := Tryz.zeroValue49
  t171 := Tryz.underlying166
  a171 := Tryz.isAgg166
  z171 := Tryz.sizeOf166
  v171 := Tryz.zeroValue166
  t173 := Tryz.underlying169
  a173 := Tryz.isAgg169
  z173 := Tryz.sizeOf169
  v173 := Tryz.zeroValue169
  t212 := Tryz.underlying196
  a212 := Tryz.isAgg196
  z212 := Tryz.sizeOf196
  v212 := Tryz.zeroValue196
  t213 := Tryz.underlying197
  a213 := Tryz.isAgg197
  z213 := Tryz.sizeOf197
  t232 := Tryz.underlying217
  a232 := Tryz.isAgg217
  z232 := Tryz.sizeOf217
  v232 := Tryz.zeroValue217
  t233 := Tryz.underlying218
  a233 := Tryz.isAgg218
  z233 := Tryz.sizeOf218
  v233 := Tryz.zeroValue218
  g17 := by kernel_rfl
  g18 := by kernel_rfl
  g19 := by kernel_rfl
  i0 := by kernel_rfl
  i2 := by kernel_rfl
  i3 := by kernel_rfl
  i4 := by kernel_rfl
  i5 := by kernel_rfl
  i9 := by kernel_rfl
  i20 := by kernel_rfl
  i37 := by kernel_rfl
  i46 := by kernel_rfl
  i51 := by kernel_rfl
  i53 := by kernel_rfl
  i171 := by kernel_rfl
  i173 := by kernel_rfl
  i212 := by kernel_rfl
  i232 := by kernel_rfl
  i233 := by kernel_rfl
  m17 := by kernel_rfl
  m18 := by kernel_rfl
  m19 := by kernel_rfl }
open Go.RowKit Go.Sort Go.Lib in
theorem Tryz.strconv_Itoa (n : Int) (h0 : -9223372036854775808 ≤ n) (h1 : n ≤ 9223372036854775807) (w : World) (htab : Lib.TabIs Tryz.prog w "internal/strconv.uint64pow10" .u64 Lib.pow10Tab) :
    Calls Tryz.prog 58 #[.int .i64 n] w fun e w' => e = .returned (.string ⟨(Lib.itoa n).toArray⟩) ∧ ∃ k os, w' = grow (w.drewN k) os := Any.strconv_Itoa Tryz.laysM171 n h0 h1 w htab
def Tryz.laysC172_ren : Go.Shelf.Ren := ⟨fun | 172 => 189 | 244 => 202 | 245 => 203 | 247 => 205 | 279 => 206 | 280 => 207 | 281 => 208 | 282 => 209 | 287 => 210 | 316 => 211 | 171 => 58 | 205 => 212 | 321 => 213 | 322 => 214 | 243 => 104 | 246 => 145 | 283 => 138 | 284 => 139 | 285 => 140 | 286 => 141 | 129 => 175 | 317 => 176 | 318 => 177 | 319 => 178 | 320 => 179 | 337 => 196 | 338 => 197 | n => n, fun | 9 => 9 | 3 => 3 | 75 => 61 | 76 => 62 | 4 => 4 | 5 => 5 | 167 => 219 | 37 => 57 | 0 => 0 | 85 => 220 | 2 => 2 | 168 => 222 | 53 => 49 | 175 => 225 | 46 => 134 | 210 => 229 | 127 => 100 | 145 => 234 | 143 => 232 | 21 => 21 | 171 => 166 | 173 => 169 | 212 => 196 | 51 => 171 | 20 => 20 | 213 => 197 | 232 => 217 | 233 => 218 | 80 => 68 | n => n, fun | 15 => 6 | 16 => 7 | 17 => 0 | 18 => 4 | 19 => 5 | n => n⟩
theorem Tryz.laysC172 : Go.Proofs.LaysC.n172 Tryz.prog Tryz.laysC172_ren := {
  mixed := by kernel_rfl
  f129 := Tryz.func175.trans (congrArg some (by kernel_rfl))
  f171 := Tryz.func58.trans (congrArg some (by kernel_rfl))
  f172 := Tryz.func189.trans (congrArg some (by kernel_rfl))
  f205 := Tryz.func212.trans (congrArg some (by kernel_rfl))
  f243 := Tryz.func104.trans (congrArg some (by kernel_rfl))
  f244 := Tryz.func202.trans (congrArg some (by kernel_rfl))
  f245 := Tryz.func203.trans (congrArg some (by kernel_rfl))
  f246 := Tryz.func145.trans (congrArg some (by kernel_rfl))
  f247 := Tryz.func205.trans (congrArg some (by kernel_rfl))
  f279 := Tryz.func206.trans (congrArg some (by kernel_rfl))
  f280 := Tryz.func207.trans (congrArg some (by kernel_rfl))
  f281 := Tryz.func208.trans (congrArg some (by kernel_rfl))
  f282 := Tryz.func209.trans (congrArg some (by kernel_rfl))
  f283 := Tryz.func138.trans (congrArg some (by kernel_rfl))
  f284 := Tryz.func139.trans (congrArg some (by kernel_rfl))
  f285 := Tryz.func140.trans (congrArg some (by kernel_rfl))
  f286 := Tryz.func141.trans (congrArg some (by kernel_rfl))
  f287 := Tryz.func210.trans (congrArg some (by kernel_rfl))
  f316 := Tryz.func211.trans (congrArg some (by kernel_rfl))
  f317 := Tryz.func176.trans (congrArg some (by kernel_rfl))
  f318 := Tryz.func177.trans (congrArg some (by kernel_rfl))
  f319 := Tryz.func178.trans (congrArg some (by kernel_rfl))
  f320 := Tryz.func179.trans (congrArg some (by kernel_rfl))
  f321 := Tryz.func213.trans (congrArg some (by kernel_rfl))
  f322 := Tryz.func214.trans (congrArg some (by kernel_rfl))
  f337 := Tryz.func196.trans (congrArg some (by kernel_rfl))
  f338 := Tryz.func197.trans (congrArg some (by kernel_rfl))
  t0 := Tryz.underlying0
  a0 := Tryz.isAgg0
  z0 := Tryz.sizeOf0
  v0 := Tryz.zeroValue0
  t2 := Tryz.underlying2
  a2 := Tryz.isAgg2
  z2 := Tryz.sizeOf2
  v2 := Tryz.zeroValue2
  t3 := Tryz.underlying3
  a3 := Tryz.isAgg3
  z3 := Tryz.sizeOf3
  v3 := Tryz.zeroValue3
  t4 := Tryz.underlying4
  a4 := Tryz.isAgg4
  z4 := Tryz.sizeOf4
  v4 := Tryz.zeroValue4
  t5 := Tryz.underlying5
  a5 := Tryz.isAgg5
  z5 := Tryz.sizeOf5
  v5 := Tryz.zeroValue5
  t9 := Tryz.underlying9
  a9 := Tryz.isAgg9
  z9 := Tryz.sizeOf9
  v9 := Tryz.zeroValue9
  t20 := Tryz.underlying20
  a20 := Tryz.isAgg20
  z20 := Tryz.sizeOf20
  v20 := Tryz.zeroValue20
  t21 := Tryz.underlying21
  a21 := Tryz.isAgg21
  z21 := Tryz.sizeOf21
  v21 := Tryz.zeroValue21
  t37 := Tryz.underlying57
  a37 := Tryz.isAgg57
  z37 := Tryz.sizeOf57
  v37 := Tryz.zeroValue57
  t46 := Tryz.underlying134
  a46 := Tryz.isAgg134
  z46 := Tryz.sizeOf134
  v46 := Tryz.zeroValue134
  t51 := Tryz.underlying171
  a51 := Tryz.isAgg171
  z51 := Tryz.sizeOf171
  v51 := Tryz.zeroValue171
  t53 := Tryz.underlying49
  a53 := Tryz.isAgg49
  z53 := Tryz.sizeOf49
  v53 := Tryz.zeroValue49
  t75 := Tryz.underlying61
  a75 := Tryz.isAgg61
  z75 := Tryz.sizeOf61
  v75 := Tryz.zeroValue61
  t76 := Tryz.underlying62
  a76 := Tryz.isAgg62
  z76 := Tryz.sizeOf62
  v76 := Tryz.zeroValue62
  t85 := Tryz.underlying220
  a85 := Tryz.isAgg220
  z85 := Tryz.sizeOf220
  v85 := Tryz.zeroValue220
  t127 := Tryz.underlying100
  a127 := Tryz.isAgg100
  z127 := Tryz.sizeOf100
  v127 := Tryz.zeroValue100
  t143 := Tryz.underlying232
  a143 := Tryz.isAgg232
  z143 := Tryz.sizeOf232
  v143 := Tryz.zeroValue232
  t145 := Tryz.underlying234
  a145 := Tryz.isAgg234
  z145 := Tryz.sizeOf234
  v145 := Tryz.zeroValue234
  t167 := Tryz.underlying219
  a167 := Tryz.isAgg219
  z167 := Tryz.sizeOf219
  v167 := Tryz.zeroValue219
  t168 := Tryz.underlying222
  a168 := Tryz.isAgg222
  z168 := Tryz.sizeOf222
  v168 := Tryz.zeroValue222
  t171 := Tryz.underlying166
  a171 := Tryz.isAgg166
  z171 := Tryz.sizeOf166
  v171 := Tryz.zeroValue166
  t173 := Tryz.underlying169
  a173 := Tryz.isAgg169
  z173 := Tryz.sizeOf169
  v173 := Tryz.zeroValue169
  t175 := Tryz.underlying225
  a175 := Tryz.isAgg225
  z175 := Tryz.sizeOf225
  v175 := Tryz.zeroValue225
  t210 := Tryz.underlying229
  a210 := Tryz.isAgg229
  z210 := Tryz.sizeOf229
  v210 := Tryz.zeroValue229
  t212 := Tryz.underlying196
  a212 := Tryz.isAgg196
  z212 := Tryz.sizeOf196
  v212 := Tryz.zeroValue196
  t213 := Tryz.underlying197
  a213 := Tryz.isAgg197
  z213 := Tryz.sizeOf197
  t232 := Tryz.underlying217
  a232 := Tryz.isAgg217
  z232 := Tryz.sizeOf217
  v232 := Tryz.zeroValue217
  t233 := Tryz.underlying218
  a233 := Tryz.isAgg218
  z233 := Tryz.sizeOf218
  v233 := Tryz.zeroValue218
  g15 := by kernel_rfl
  g16 := by kernel_rfl
  g17 := by kernel_rfl
  g18 := by kernel_rfl
  g19 := by kernel_rfl
  t80 := Tryz.underlying68
  a80 := Tryz.isAgg68
  z80 := Tryz.sizeOf68
  v80 := Tryz.zeroValue68
  i0 := by kernel_rfl
  i2 := by kernel_rfl
  i3 := by kernel_rfl
  i4 := by kernel_rfl
  i5 := by kernel_rfl
  i9 := by kernel_rfl
  i20 := by kernel_rfl
  i21 := by kernel_rfl
  i37 := by kernel_rfl
  i46 := by kernel_rfl
  i51 := by kernel_rfl
  i53 := by kernel_rfl
  i75 := by kernel_rfl
  i76 := by kernel_rfl
  i80 := by kernel_rfl
  i85 := by kernel_rfl
  i127 := by kernel_rfl
  i143 := by kernel_rfl
  i145 := by kernel_rfl
  i167 := by kernel_rfl
  i168 := by kernel_rfl
  i171 := by kernel_rfl
  i173 := by kernel_rfl
  i175 := by kernel_rfl
  i210 := by kernel_rfl
  i212 := by kernel_rfl
  i232 := by kernel_rfl
  i233 := by kernel_rfl
  m15 := by kernel_rfl
  m16 := by kernel_rfl
  m17 := by kernel_rfl
  m18 := by kernel_rfl
  m19 := by kernel_rfl
  c0 := by kernel_rfl
  c2 := by kernel_rfl
  c3 := by kernel_rfl
  c4 := by kernel_rfl
  c5 := by kernel_rfl
  c9 := by kernel_rfl
  c20 := by kernel_rfl
  c21 := by kernel_rfl
  c37 := by kernel_rfl
  c46 := by kernel_rfl
  c51 := by kernel_rfl
  c53 := by kernel_rfl
  c75 := by kernel_rfl
  c76 := by kernel_rfl
  c80 := by kernel_rfl
  c85 := by kernel_rfl
  c127 := by kernel_rfl
  c143 := by kernel_rfl
  c145 := by kernel_rfl
  c167 := by kernel_rfl
  c168 := by kernel_rfl
  c171 := by kernel_rfl
  c173 := by kernel_rfl
  c175 := by kernel_rfl
  c210 := by kernel_rfl
  c212 := by kernel_rfl
  c213 := by kernel_rfl
  c232 := by kernel_rfl
  c233 := by kernel_rfl }
open Go.RowKit in
theorem Tryz.strconv_Atoi_ok (s : ByteArray) (hmax : s.size ≤ 9223372036854775806) (v : Int) (h : Lib.atoiAll s.data.toList = .ok v) (w : World) :
    Calls Tryz.prog 189 #[.string s] w fun e w' => e = .returned (.tuple #[.int .i64 v, .nilIface]) ∧ (w' = w ∨ ∃ t, w' = Lib.bytesWorld w 5 t) := Any.strconv_Atoi_ok Tryz.laysC172 s hmax v h w
def Tryz.lays219_ren : Go.Shelf.Ren := ⟨fun | 219 => 153 | 217 => 184 | 225 => 185 | 224 => 186 | 267 => 187 | 266 => 200 | 314 => 201 | n => n, fun | 9 => 9 | 3 => 3 | 4 => 4 | 5 => 5 | 46 => 134 | 146 => 172 | 51 => 171 | n => n, fun | 1 => 1 | n => n⟩
theorem Tryz.lays219 : Go.Proofs.Lays.n219 Tryz.prog Tryz.lays219_ren := {
  mixed := by kernel_rfl
  f217 := Tryz.func184.trans (congrArg some (by kernel_rfl))
  f219 := Tryz.func153.trans (congrArg some (by kernel_rfl))
  f224 := Tryz.func186.trans (congrArg some (by kernel_rfl))
  f225 := Tryz.func185.trans (congrArg some (by kernel_rfl))
  f266 := Tryz.func200.trans (congrArg some (by kernel_rfl))
  f267 := Tryz.func187.trans (congrArg some (by kernel_rfl))
  f314 := Tryz.func201.trans (congrArg some (by kernel_rfl))
  t3 := Tryz.underlying3
  a3 := Tryz.isAgg3
  z3 := Tryz.sizeOf3
  v3 := Tryz.zeroValue3
  t4 := Tryz.underlying4
  a4 := Tryz.isAgg4
  z4 := Tryz.sizeOf4
  v4 := Tryz.zeroValue4
  t5 := Tryz.underlying5
  a5 := Tryz.isAgg5
  z5 := Tryz.sizeOf5
  v5 := Tryz.zeroValue5
  t9 := Tryz.underlying9
  a9 := Tryz.isAgg9
  z9 := Tryz.sizeOf9
  v9 := Tryz.zeroValue9
  t46 := Tryz.underlying134
  a46 := Tryz.isAgg134
  z46 := Tryz.sizeOf134
  v46 := Tryz.zeroValue134
  t51 := Tryz.underlying171
  a51 := Tryz.isAgg171
  z51 := Tryz.sizeOf171
  v51 := Tryz.zeroValue171
  t146 := Tryz.underlying172
  a146 := Tryz.isAgg172
  z146 := Tryz.sizeOf172
  v146 := Tryz.zeroValue172
  g1 := by kernel_rfl }
open Go.RowKit Go.Lib in
theorem Tryz.stringslite_Index_one (s : ByteArray) (c : UInt8) (w : World) :
    Calls Tryz.prog 153 #[.string s, .string ⟨#[c]⟩] w fun e w' => e = .returned (.int .i64 (Lib.indexByte s.data.toList c)) ∧ w' = w := Any.stringslite_Index_one Tryz.lays219 s c w
def Tryz.lays143_ren : Go.Shelf.Ren := ⟨fun | 143 => 115 | 219 => 153 | 217 => 184 | 225 => 185 | 224 => 186 | 267 => 187 | 266 => 200 | 314 => 201 | n => n, fun | 9 => 9 | 3 => 3 | 4 => 4 | 5 => 5 | 46 => 134 | 146 => 172 | 51 => 171 | n => n, fun | 1 => 1 | n => n⟩
theorem Tryz.lays143 : Go.Proofs.Lays.n143 Tryz.prog Tryz.lays143_ren := {
  mixed := by kernel_rfl
  f143 := Tryz.func115.trans (congrArg some (by kernel_rfl))
  f217 := Tryz.func184.trans (congrArg some (by kernel_rfl))
  f219 := Tryz.func153.trans (congrArg some (by kernel_rfl))
  f224 := Tryz.func186.trans (congrArg some (by kernel_rfl))
  f225 := Tryz.func185.trans (congrArg some (by kernel_rfl))
  f266 := Tryz.func200.trans (congrArg some (by kernel_rfl))
  f267 := Tryz.func187.trans (congrArg some (by kernel_rfl))
  f314 := Tryz.func201.trans (congrArg some (by kernel_rfl))
  t3 := Tryz.underlying3
  a3 := Tryz.isAgg3
  z3 := Tryz.sizeOf3
  v3 := Tryz.zeroValue3
  t4 := Tryz.underlying4
  a4 := Tryz.isAgg4
  z4 := Tryz.sizeOf4
  v4 := Tryz.zeroValue4
  t5 := Tryz.underlying5
  a5 := Tryz.isAgg5
  z5 := Tryz.sizeOf5
  v5 := Tryz.zeroValue5
  t9 := Tryz.underlying9
  a9 := Tryz.isAgg9
  z9 := Tryz.sizeOf9
  v9 := Tryz.zeroValue9
  t46 := Tryz.underlying134
  a46 := Tryz.isAgg134
  z46 := Tryz.sizeOf134
  v46 := Tryz.zeroValue134
  t51 := Tryz.underlying171
  a51 := Tryz.isAgg171
  z51 := Tryz.sizeOf171
  v51 := Tryz.zeroValue171
  t146 := Tryz.underlying172
  a146 := Tryz.isAgg172
  z146 := Tryz.sizeOf172
  v146 := Tryz.zeroValue172
  g1 := by kernel_rfl }
open Go.RowKit Go.Lib in
theorem Tryz.strings_Index_one (s : ByteArray) (c : UInt8) (w : World) :
    Calls Tryz.prog 115 #[.string s, .string ⟨#[c]⟩] w fun e w' => e = .returned (.int .i64 (Lib.indexByte s.data.toList c)) ∧ w' = w := Any.strings_Index_one Tryz.lays143 s c w
def Tryz.lays138_ren : Go.Shelf.Ren := ⟨fun | 138 => 114 | 195 => 150 | 218 => 152 | 143 => 115 | 219 => 153 | 217 => 184 | 225 => 185 | 224 => 186 | 267 => 187 | 266 => 200 | 314 => 201 | n => n, fun | 9 => 9 | 3 => 3 | 4 => 4 | 5 => 5 | 0 => 0 | 46 => 134 | 146 => 172 | 51 => 171 | n => n, fun | 1 => 1 | n => n⟩
theorem Tryz.lays138 : Go.Proofs.Lays.n138 Tryz.prog Tryz.lays138_ren := {
  mixed := by kernel_rfl
  f138 := Tryz.func114.trans (congrArg some (by kernel_rfl))
  f143 := Tryz.func115.trans (congrArg some (by kernel_rfl))
  f195 := Tryz.func150.trans (congrArg some (by kernel_rfl))
  f217 := Tryz.func184.trans (congrArg some (by kernel_rfl))
  f218 := Tryz.func152.trans (congrArg some (by kernel_rfl))
  f219 := Tryz.func153.trans (congrArg some (by kernel_rfl))
  f224 := Tryz.func186.trans (congrArg some (by kernel_rfl))
  f225 := Tryz.func185.trans (congrArg some (by kernel_rfl))
  f266 := Tryz.func200.trans (congrArg some (by kernel_rfl))
  f267 := Tryz.func187.trans (congrArg some (by kernel_rfl))
  f314 := Tryz.func201.trans (congrArg some (by kernel_rfl))
  t0 := Tryz.underlying0
  a0 := Tryz.isAgg0
  z0 := Tryz.sizeOf0
  v0 := Tryz.zeroValue0
  t3 := Tryz.underlying3
  a3 := Tryz.isAgg3
  z3 := Tryz.sizeOf3
  v3 := Tryz.zeroValue3
  t4 := Tryz.underlying4
  a4 := Tryz.isAgg4
  z4 := Tryz.sizeOf4
  v4 := Tryz.zeroValue4
  t5 := Tryz.underlying5
  a5 := Tryz.isAgg5
  z5 := Tryz.sizeOf5
  v5 := Tryz.zeroValue5
  t9 := Tryz.underlying9
  a9 := Tryz.isAgg9
  z9 := Tryz.sizeOf9
  v9 := Tryz.zeroValue9
  t46 := Tryz.underlying134
  a46 := Tryz.isAgg134
  z46 := Tryz.sizeOf134
  v46 := Tryz.zeroValue134
  t51 := Tryz.underlying171
  a51 := Tryz.isAgg171
  z51 := Tryz.sizeOf171
  v51 := Tryz.zeroValue171
  t146 := Tryz.underlying172
  a146 := Tryz.isAgg172
  z146 := Tryz.sizeOf172
  v146 := Tryz.zeroValue172
  g1 := by kernel_rfl }
open Go.RowKit Go.Lib in
theorem Tryz.strings_Count_one (s : ByteArray) (c : UInt8) (w : World) :
    Calls Tryz.prog 114 #[.string s, .string ⟨#[c]⟩] w fun e w' => e = .returned (.int .i64 (Lib.countByte s.data.toList c)) ∧ w' = w := Any.strings_Count_one Tryz.lays138 s c w
def Tryz.lays221_ren : Go.Shelf.Ren := ⟨fun | 221 => 69 | 268 => 113 | 138 => 114 | 143 => 115 | 195 => 150 | 197 => 151 | 218 => 152 | 219 => 153 | 260 => 183 | 217 => 184 | 225 => 185 | 224 => 186 | 267 => 187 | 266 => 200 | 314 => 201 | n => n, fun | 9 => 9 | 3 => 3 | 31 => 28 | 4 => 4 | 0 => 0 | 105 => 175 | 21 => 21 | 5 => 5 | 46 => 134 | 119 => 208 | 139 => 211 | 138 => 210 | 146 => 172 | 51 => 171 | n => n, fun | 1 => 1 | 3 => 2 | 4 => 3 | n => n⟩
theorem Tryz.lays221 : Go.Proofs.Lays.n221 Tryz.prog Tryz.lays221_ren := {
  mixed := by kernel_rfl
  f138 := Tryz.func114.trans (congrArg some (by kernel_rfl))
  f143 := Tryz.func115.trans (congrArg some (by kernel_rfl))
  f195 := Tryz.func150.trans (congrArg some (by kernel_rfl))
  f197 := Tryz.func151.trans (congrArg some (by kernel_rfl))
  f217 := Tryz.func184.trans (congrArg some (by kernel_rfl))
  f218 := Tryz.func152.trans (congrArg some (by kernel_rfl))
  f219 := Tryz.func153.trans (congrArg some (by kernel_rfl))
  f221 := Tryz.func69.trans (congrArg some (by kernel_rfl))
  f224 := Tryz.func186.trans (congrArg some (by kernel_rfl))
  f225 := Tryz.func185.trans (congrArg some (by kernel_rfl))
  f260 := Tryz.func183.trans (congrArg some (by kernel_rfl))
  f266 := Tryz.func200.trans (congrArg some (by kernel_rfl))
  f267 := Tryz.func187.trans (congrArg some (by kernel_rfl))
  f268 := Tryz.func113.trans (congrArg some (by kernel_rfl))
  f314 := Tryz.func201.trans (congrArg some (by kernel_rfl))
  t0 := Tryz.underlying0
  a0 := Tryz.isAgg0
  z0 := Tryz.sizeOf0
  v0 := Tryz.zeroValue0
  t3 := Tryz.underlying3
  a3 := Tryz.isAgg3
  z3 := Tryz.sizeOf3
  v3 := Tryz.zeroValue3
  t4 := Tryz.underlying4
  a4 := Tryz.isAgg4
  z4 := Tryz.sizeOf4
  v4 := Tryz.zeroValue4
  t5 := Tryz.underlying5
  a5 := Tryz.isAgg5
  z5 := Tryz.sizeOf5
  v5 := Tryz.zeroValue5
  t9 := Tryz.underlying9
  a9 := Tryz.isAgg9
  z9 := Tryz.sizeOf9
  v9 := Tryz.zeroValue9
  t21 := Tryz.underlying21
  a21 := Tryz.isAgg21
  z21 := Tryz.sizeOf21
  v21 := Tryz.zeroValue21
  t31 := Tryz.underlying28
  a31 := Tryz.isAgg28
  z31 := Tryz.sizeOf28
  v31 := Tryz.zeroValue28
  t46 := Tryz.underlying134
  a46 := Tryz.isAgg134
  z46 := Tryz.sizeOf134
  v46 := Tryz.zeroValue134
  t51 := Tryz.underlying171
  a51 := Tryz.isAgg171
  z51 := Tryz.sizeOf171
  v51 := Tryz.zeroValue171
  t105 := Tryz.underlying175
  a105 := Tryz.isAgg175
  z105 := Tryz.sizeOf175
  v105 := Tryz.zeroValue175
  t119 := Tryz.underlying208
  a119 := Tryz.isAgg208
  z119 := Tryz.sizeOf208
  t138 := Tryz.underlying210
  a138 := Tryz.isAgg210
  z138 := Tryz.sizeOf210
  v138 := Tryz.zeroValue210
  t139 := Tryz.underlying211
  a139 := Tryz.isAgg211
  z139 := Tryz.sizeOf211
  v139 := Tryz.zeroValue211
  t146 := Tryz.underlying172
  a146 := Tryz.isAgg172
  z146 := Tryz.sizeOf172
  v146 := Tryz.zeroValue172
  g1 := by kernel_rfl
  g3 := by kernel_rfl
  g4 := by kernel_rfl }
def Tryz.lays264_ren : Go.Shelf.Ren := ⟨fun | 264 => 128 | n => n, fun | 53 => 49 | 46 => 134 | n => n, fun | n => n⟩
theorem Tryz.lays264 : Go.Proofs.Lays.n264 Tryz.prog Tryz.lays264_ren := {
  mixed := by kernel_rfl
  f264 := Tryz.func128.trans (congrArg some (by kernel_rfl))
  t46 := Tryz.underlying134
  a46 := Tryz.isAgg134
  z46 := Tryz.sizeOf134
  v46 := Tryz.zeroValue134
  t53 := Tryz.underlying49
  a53 := Tryz.isAgg49
  z53 := Tryz.sizeOf49
  v53 := Tryz.zeroValue49 }
open Go.RowKit Go.Lib in
theorem Tryz.bits_Mul64 (x y : Nat) (hx : x < 18446744073709551616) (hy : y < 18446744073709551616) (w : World) :
    Calls Tryz.prog 128 #[.int .u64 x, .int .u64 y] w fun e w' => e = .returned (.tuple #[.int .u64 ((x * y / 18446744073709551616 : Nat) : Int), .int .u64 ((x * y % 18446744073709551616 : Nat) : Int)]) ∧ w' = w := Any.bits_Mul64 Tryz.lays264 x y hx hy w
def Tryz.lays105_ren : Go.Shelf.Ren := ⟨fun | 105 => 57 | 212 => 100 | 99 => 101 | 165 => 102 | 166 => 27 | 170 => 103 | 169 => 32 | 263 => 142 | 264 => 128 | 206 => 143 | 240 => 54 | 241 => 144 | 276 => 98 | 277 => 180 | n => n, fun | 9 => 9 | 3 => 3 | 4 => 4 | 20 => 20 | 0 => 0 | 46 => 134 | 109 => 135 | 5 => 5 | 72 => 59 | 76 => 62 | 51 => 171 | 146 => 172 | 53 => 49 | 148 => 156 | 70 => 56 | 37 => 57 | 75 => 61 | 127 => 100 | 164 => 132 | 80 => 68 | n => n, fun | n => n⟩
theorem Tryz.lays105 : Go.Proofs.Lays.n105 Tryz.prog Tryz.lays105_ren := {
  mixed := by kernel_rfl
  f99 := Tryz.func101.trans (congrArg some (by kernel_rfl))
  f105 := Tryz.func57.trans (congrArg some (by kernel_rfl))
  f165 := Tryz.func102.trans (congrArg some (by kernel_rfl))
  f166 := Tryz.func27.trans (congrArg some (by kernel_rfl))
  f169 := Tryz.func32.trans (congrArg some (by kernel_rfl))
  f170 := Tryz.func103.trans (congrArg some (by kernel_rfl))
  f206 := Tryz.func143.trans (congrArg some (by kernel_rfl))
  f212 := Tryz.func100.trans (congrArg some (by kernel_rfl))
  f240 := Tryz.func54.trans (congrArg some (by kernel_rfl))
  f241 := Tryz.func144.trans (congrArg some (by kernel_rfl))
  f263 := Tryz.func142.trans (congrArg some (by kernel_rfl))
  f264 := Tryz.func128.trans (congrArg some (by kernel_rfl))
  f276 := Tryz.func98.trans (congrArg some (by kernel_rfl))
  f277 := Tryz.func180.trans (congrArg some (by kernel_rfl))
  t0 := Tryz.underlying0
  a0 := Tryz.isAgg0
  z0 := Tryz.sizeOf0
  v0 := Tryz.zeroValue0
  t3 := Tryz.underlying3
  a3 := Tryz.isAgg3
  z3 := Tryz.sizeOf3
  v3 := Tryz.zeroValue3
  t4 := Tryz.underlying4
  a4 := Tryz.isAgg4
  z4 := Tryz.sizeOf4
  v4 := Tryz.zeroValue4
  t5 := Tryz.underlying5
  a5 := Tryz.isAgg5
  z5 := Tryz.sizeOf5
  v5 := Tryz.zeroValue5
  t9 := Tryz.underlying9
  a9 := Tryz.isAgg9
  z9 := Tryz.sizeOf9
  v9 := Tryz.zeroValue9
  t20 := Tryz.underlying20
  a20 := Tryz.isAgg20
  z20 := Tryz.sizeOf20
  v20 := Tryz.zeroValue20
  t37 := Tryz.underlying57
  a37 := Tryz.isAgg57
  z37 := Tryz.sizeOf57
  v37 := Tryz.zeroValue57
  t46 := Tryz.underlying134
  a46 := Tryz.isAgg134
  z46 := Tryz.sizeOf134
  v46 := Tryz.zeroValue134
  t51 := Tryz.underlying171
  a51 := Tryz.isAgg171
  z51 := Tryz.sizeOf171
  v51 := Tryz.zeroValue171
  t53 := Tryz.underlying49
  a53 := Tryz.isAgg49
  z53 := Tryz.sizeOf49
  v53 := Tryz.zeroValue49
  t70 := Tryz.underlying56
  a70 := Tryz.isAgg56
  z70 := Tryz.sizeOf56
  v70 := Tryz.zeroValue56
  t72 := Tryz.underlying59
  a72 := Tryz.isAgg59
  z72 := Tryz.sizeOf59
  v72 := Tryz.zeroValue59
  t75 := Tryz.underlying61
  a75 := Tryz.isAgg61
  z75 := Tryz.sizeOf61
  v75 := Tryz.zeroValue61
  t76 := Tryz.underlying62
  a76 := Tryz.isAgg62
  z76 := Tryz.sizeOf62
  v76 := Tryz.zeroValue62
  t109 := Tryz.underlying135
  a109 := Tryz.isAgg135
  z109 := Tryz.sizeOf135
  v109 := Tryz.zeroValue135
  t127 := Tryz.underlying100
  a127 := Tryz.isAgg100
  z127 := Tryz.sizeOf100
  v127 := Tryz.zeroValue100
  t146 := Tryz.underlying172
  a146 := Tryz.isAgg172
  z146 := Tryz.sizeOf172
  v146 := Tryz.zeroValue172
  t148 := Tryz.underlying156
  a148 := Tryz.isAgg156
  z148 := Tryz.sizeOf156
  v148 := Tryz.zeroValue156
  t164 := Tryz.underlying132
  a164 := Tryz.isAgg132
  z164 := Tryz.sizeOf132
  v164 := Tryz.zeroValue132 }
theorem Tryz.Builder_Extra_105 : Builder.Extra Tryz.prog Tryz.lays105_ren := {
  sizeBuilder := by kernel_rfl
  liesBuilder := by kernel_rfl
  t5 := Tryz.underlying5
  a5 := Tryz.isAgg5
  z5 := Tryz.sizeOf5
  v5 := Tryz.zeroValue5
  infoByte := by kernel_rfl
  cellsByte := by kernel_rfl
  sizeByte := by kernel_rfl
  neB5 := by decide }
open Go.RowKit Go.Lib in
theorem Tryz.strings_Repeat (s : ByteArray) (c : Nat) (w : World) (hc : c ≤ 9223372036854775807) (hlen : s.size * c ≤ 140737488355328) :
    Calls Tryz.prog 57 #[.string s, .int .i64 c] w fun e w' => e = .returned (.string ⟨(Lib.repeatL s.data.toList c).toArray⟩) ∧ Below w.heap.size w w' := Any.strings_Repeat Tryz.lays105 Tryz.Builder_Extra_105 s c w hc hlen
def Tryz.laySort_ren : Go.Shelf.Ren := ⟨fun | 6 => 90 | 15 => 136 | 14 => 135 | 28 => 174 | 29 => 175 | 20 => 166 | 21 => 167 | 22 => 168 | 23 => 169 | 24 => 170 | 25 => 171 | 26 => 172 | 27 => 173 | 46 => 191 | 47 => 192 | 48 => 193 | 49 => 194 | 50 => 195 | 57 => 204 | n => n, fun | 22 => 33 | 24 => 53 | 25 => 131 | 3 => 3 | 39 => 134 | 0 => 0 | 53 => 171 | 55 => 49 | 4 => 4 | 46 => 188 | 45 => 187 | 50 => 153 | 5 => 5 | 9 => 9 | 66 => 201 | 70 => 205 | 76 => 214 | 77 => 215 | n => n, fun | n => n⟩
theorem Tryz.laySort : Go.Proofs.SlLaysF0.n6 Tryz.prog Tryz.laySort_ren := {
  mixed := by kernel_rfl
  f6 := ⟨Tryz.f90.name, by decide, Tryz.func90.trans (congrArg some (by kernel_rfl))⟩
  f14 := ⟨Tryz.f135.name, by decide, Tryz.func135.trans (congrArg some (by kernel_rfl))⟩
  f15 := Tryz.func136.trans (congrArg some (by kernel_rfl))
  f20 := ⟨Tryz.f166.name, by decide, Tryz.func166.trans (congrArg some (by kernel_rfl))⟩
  f21 := ⟨Tryz.f167.name, by decide, Tryz.func167.trans (congrArg some (by kernel_rfl))⟩
  f22 := ⟨Tryz.f168.name, by decide, Tryz.func168.trans (congrArg some (by kernel_rfl))⟩
  f23 := ⟨Tryz.f169.name, by decide, Tryz.func169.trans (congrArg some (by kernel_rfl))⟩
  f24 := ⟨Tryz.f170.name, by decide, Tryz.func170.trans (congrArg some (by kernel_rfl))⟩
  f25 := ⟨Tryz.f171.name, by decide, Tryz.func171.trans (congrArg some (by kernel_rfl))⟩
  f26 := ⟨Tryz.f172.name, by decide, Tryz.func172.trans (congrArg some (by kernel_rfl))⟩
  f27 := ⟨Tryz.f173.name, by decide, Tryz.func173.trans (congrArg some (by kernel_rfl))⟩
  f28 := Tryz.func174.trans (congrArg some (by kernel_rfl))
  f29 := Tryz.func175.trans (congrArg some (by kernel_rfl))
  f46 := ⟨Tryz.f191.name, by decide, Tryz.func191.trans (congrArg some (by kernel_rfl))⟩
  f47 := Tryz.func192.trans (congrArg some (by kernel_rfl))
  f48 := Tryz.func193.trans (congrArg some (by kernel_rfl))
  f49 := ⟨Tryz.f194.name, by decide, Tryz.func194.trans (congrArg some (by kernel_rfl))⟩
  f50 := ⟨Tryz.f195.name, by decide, Tryz.func195.trans (congrArg some (by kernel_rfl))⟩
  f57 := ⟨Tryz.f204.name, by decide, Tryz.func204.trans (congrArg some (by kernel_rfl))⟩
  t0 := Tryz.underlying0
  a0 := Tryz.isAgg0
  z0 := Tryz.sizeOf0
  v0 := Tryz.zeroValue0
  t3 := Tryz.underlying3
  a3 := Tryz.isAgg3
  z3 := Tryz.sizeOf3
  v3 := Tryz.zeroValue3
  t4 := Tryz.underlying4
  a4 := Tryz.isAgg4
  z4 := Tryz.sizeOf4
  v4 := Tryz.zeroValue4
  t5 := Tryz.underlying5
  a5 := Tryz.isAgg5
  z5 := Tryz.sizeOf5
  v5 := Tryz.zeroValue5
  t9 := Tryz.underlying9
  a9 := Tryz.isAgg9
  z9 := Tryz.sizeOf9
  v9 := Tryz.zeroValue9
  t22 := Tryz.underlying33
  a22 := Tryz.isAgg33
  z22 := Tryz.sizeOf33
  v22 := Tryz.zeroValue33
  t25 := Tryz.underlying131
  a25 := Tryz.isAgg131
  z25 := Tryz.sizeOf131
  v25 := Tryz.zeroValue131
  t39 := Tryz.underlying134
  a39 := Tryz.isAgg134
  z39 := Tryz.sizeOf134
  v39 := Tryz.zeroValue134
  t45 := Tryz.underlying187
  a45 := Tryz.isAgg187
  z45 := Tryz.sizeOf187
  v45 := Tryz.zeroValue187
  t46 := Tryz.underlying188
  a46 := Tryz.isAgg188
  z46 := Tryz.sizeOf188
  v46 := Tryz.zeroValue188
  t50 := Tryz.underlying153
  a50 := Tryz.isAgg153
  z50 := Tryz.sizeOf153
  v50 := Tryz.zeroValue153
  t53 := Tryz.underlying171
  a53 := Tryz.isAgg171
  z53 := Tryz.sizeOf171
  v53 := Tryz.zeroValue171
  t55 := Tryz.underlying49
  a55 := Tryz.isAgg49
  z55 := Tryz.sizeOf49
  v55 := Tryz.zeroValue49
  t66 := Tryz.underlying201
  a66 := Tryz.isAgg201
  z66 := Tryz.sizeOf201
  v66 := Tryz.zeroValue201
  t70 := Tryz.underlying205
  a70 := Tryz.isAgg205
  z70 := Tryz.sizeOf205
  v70 := Tryz.zeroValue205
  t76 := Tryz.underlying214
  a76 := Tryz.isAgg214
  z76 := Tryz.sizeOf214
  v76 := Tryz.zeroValue214
  t77 := Tryz.underlying215
  a77 := Tryz.isAgg215
  z77 := Tryz.sizeOf215
  v77 := Tryz.zeroValue215 }
end Go.Proofs
set_option linter.unusedVariables false
set_option linter.unusedSimpArgs false
namespace Go.Proofs
open Go.RowKit Go.Sort Go.Lib
set_option maxHeartbeats 6400000 in
set_option maxRecDepth 100000 in
theorem Tryz.internal_strconv_FormatUint_10 (u : Nat) (hu64 : u < 18446744073709551616) (w : World) (htab : Lib.TabIs Tryz.prog w "internal/strconv.uint64pow10" .u64 Lib.pow10Tab) :
    Calls Tryz.prog 99 #[.int .u64 u, .int .i64 10] w fun e w' => e = .returned (.string ⟨(Lib.decDigits u).toArray⟩) ∧ ∃ k os, w' = grow (w.drewN k) os := by
  have mixed : Tryz.prog.follows .mixedOrders := by kernel_rfl
  have e283 : ∀ args w, (callFunc 138 args).run Tryz.prog w = .ok (.enter 138 args) w := enters_of Tryz.func138 (by kernel_rfl) rfl
  have e284 : ∀ args w, (callFunc 139 args).run Tryz.prog w = .ok (.enter 139 args) w := enters_of Tryz.func139 (by kernel_rfl) rfl
  have e285 : ∀ args w, (callFunc 140 args).run Tryz.prog w = .ok (.enter 140 args) w := enters_of Tryz.func140 (by kernel_rfl) rfl
  by_cases hs : u < 100
  · have hcv : IntKind.wrap .i64 (u : Int) = u := by rw [IntKind.wrap_i64]; omega
    go_enter Tryz.func99, Tryz.ntmps99
    go_wp2_with (go_at_fn 138; refine (Tryz.internal_strconv_small u hs _).mono ?_; rintro e w' ⟨rfl, rfl⟩)
    go_ret
    exact ⟨rfl, 0, #[], by simp [World.drewN_zero]⟩
  · have hu1 : 1 ≤ u := by omega
    have hnd20 : Lib.nDigits u ≤ 20 := by have := Lib.numDigits_eq u hu1 hu64; split at this <;> omega
    have hb3 : Lib.nDigits u ≤ 24 := by omega
    have hal : Tryz.prog.arrayLen 166 = 24 := by simp [Program.arrayLen, Tryz.underlying166]
    have hsl1 : ∀ W, (Instr.sliceAt 166 (.pointer (some ⟨w.heap.size, 0, none⟩)) none (some (.int .i64 (Lib.nDigits u : Int))) none).run Tryz.prog W = .ok (.slice (some ⟨w.heap.size, 0, none⟩) (Lib.nDigits u) 24) W := fun W => by
      rw [run_sliceAt_array_h W 166 ⟨w.heap.size, 0, none⟩ (by simp [Program.arrayLen, Program.elem, Tryz.underlying166]) .i64 (Lib.nDigits u : Int) (by omega) (by rw [hal]; omega)]
      go_simp
      all_goals omega
    have hH0 := Lib.holds_zero0 w 166 (Lib.nDigits u) (by omega)
    have hfmt := Tryz.internal_strconv_formatBase10 w.heap.size 0 24 u (Array.replicate (Lib.nDigits u) 0) (w.alloc (.cells Lib.zeros24 166)) hH0 (by rw [Array.size_replicate]; exact Lib.lt_pow_nDigits u) hu64 (by rw [Array.size_replicate]; omega)
    rw [Array.size_replicate] at hfmt
    have HH0 := Lib.hid hH0
    clear hH0 hal
    go_enter Tryz.func99, Tryz.ntmps99
    go_wp2_with (first
      | (go_at_fn 139; refine (Tryz.internal_strconv_numDigits u hu1 hu64 _ (Lib.tabIs_alloc htab _)).mono ?_; rintro e w' ⟨rfl, rfl⟩))
    go_at_fn 140
    refine hfmt.mono ?_
    rintro e w' ⟨rfl, k, v', dk, rfl, hF⟩
    have hcv : (convert 57 9 (.slice (some ⟨w.heap.size, 0, none⟩) (Lib.nDigits u) 24)).run Tryz.prog ((putRow (fun (b : UInt8) => Value.int .u8 (b.toNat : Int)) (w.alloc (.cells Lib.zeros24 166)) w.heap.size 0 dk).drewN k) = .ok (.string ⟨(Lib.decDigits u).toArray⟩) ((putRow (fun (b : UInt8) => Value.int .u8 (b.toNat : Int)) (w.alloc (.cells Lib.zeros24 166)) w.heap.size 0 dk).drewN k) := by
      have h := run_convert_bytes_back (P := Tryz.prog) ((putRow (fun (b : UInt8) => Value.int .u8 (b.toNat : Int)) (w.alloc (.cells Lib.zeros24 166)) w.heap.size 0 dk).drewN k) 57 9 5 ⟨w.heap.size, 0, none⟩ 24 (Lib.decDigits u) Tryz.underlying57 Tryz.underlying5 Tryz.underlying9 (fun j hj => by
        rw [Lib.row_is_numeral hF j hj, Lib.add_plain, World.cell?_drewN]
        exact cell?_putRow (fun (b : UInt8) => Value.int .u8 (b.toNat : Int)) _ w.heap.size 0 _ dk HH0.out (by rw [hF.size, Array.size_replicate]) j (by rw [hF.size]; rw [Lib.decDigits_length] at hj; exact hj))
      rw [Lib.decDigits_length] at h
      exact h
    go_wp2
    go_ret
    obtain ⟨os, eo⟩ := Lib.fin_at w (.cells Lib.zeros24 166) dk k 0
    exact ⟨rfl, k, os, eo⟩
set_option maxRecDepth 100000 in
theorem Tryz.strconv_FormatUint_10 (u : Nat) (hu64 : u < 18446744073709551616) (w : World) (htab : Lib.TabIs Tryz.prog w "internal/strconv.uint64pow10" .u64 Lib.pow10Tab) :
    Calls Tryz.prog 56 #[.int .u64 u, .int .i64 10] w fun e w' => e = .returned (.string ⟨(Lib.decDigits u).toArray⟩) ∧ ∃ k os, w' = grow (w.drewN k) os := by
  have e51 : ∀ args w, (callFunc 99 args).run Tryz.prog w = .ok (.enter 99 args) w := enters_of Tryz.func99 (by kernel_rfl) rfl
  go_enter Tryz.func56, Tryz.ntmps56
  go_wp2_with (go_at_fn 99; refine (Tryz.internal_strconv_FormatUint_10 u hu64 _ htab).mono ?_; rintro e w' ⟨rfl, k, os, rfl⟩)
  go_ret
  exact ⟨rfl, k, os, rfl⟩
end Go.Proofs
set_option linter.unusedVariables false
set_option linter.unusedSimpArgs false
namespace Go.Proofs
open Go.Shelf Go.RowKit Go.Lib
set_option maxHeartbeats 1000000 in
theorem Tryz.strings_Split_one (s : ByteArray) (c : UInt8) (w : World) (hs : s.size < 4294967281) :
    Calls Tryz.prog 40 #[.string s, .string ⟨#[c]⟩] w fun e w' => ∃ (l : List ByteArray) (t : TypeId), e = .returned (.slice (some ⟨w.heap.size, 0, none⟩) l.length l.length) ∧ w' = w.alloc (.cells (l.map Value.string).toArray t) ∧ l.map (·.data.toList) = AM.splitL c s.data.toList := by
  have mixed : Tryz.prog.follows .mixedOrders := by kernel_rfl
  have h1 : 1 ≤ (⟨#[c]⟩ : ByteArray).size := Nat.le_refl 1
  have hle := Lib.countB_le ⟨#[c]⟩ h1 s.size s (Nat.le_refl _)
  have hlen := Lib.splitB_all ⟨#[c]⟩ h1 0 _ s rfl
  have hcb : Lib.countB s ⟨#[c]⟩ = s.data.toList.count c := Lib.count_one c s.data.toList
  have hI : ∀ (x : ByteArray) (cs : Array Value), x.size ≤ s.size → Calls Tryz.prog 115 #[.string x, .string ⟨#[c]⟩] (w.alloc (.cells cs 9)) fun e w' => e = .returned (.int .i64 (Lib.indexB x ⟨#[c]⟩)) ∧ w' = w.alloc (.cells cs 9) :=
    fun x cs hx => (Tryz.strings_Index_one x c _).mono fun e w' ⟨he, hw⟩ => ⟨by rw [he, ← Lib.index_one]; try rfl, hw⟩
  have hC : Calls Tryz.prog 114 #[.string s, .string ⟨#[c]⟩] w fun e w' => e = .returned (.int .i64 (Lib.countB s ⟨#[c]⟩)) ∧ w' = w :=
    (Tryz.strings_Count_one s c w).mono fun e w' ⟨he, hw⟩ => ⟨by rw [he, hcb]; rfl, hw⟩
  have h := Any.strings_genSplit_core Tryz.lays221 (by kernel_rfl) s ⟨#[c]⟩ 0 (-1) (Lib.countB s ⟨#[c]⟩ + 1) w hs h1 (Nat.zero_le _) hI hC (by decide) (by decide) (by rw [if_pos (by decide)]; omega)
  rw [Nat.add_sub_cancel, hlen] at h
  have e2 : Lib.cellsOf (Lib.splitB ⟨#[c]⟩ 0 (Lib.countB s ⟨#[c]⟩) s) (Lib.countB s ⟨#[c]⟩ + 1) = ((Lib.splitB ⟨#[c]⟩ 0 (Lib.countB s ⟨#[c]⟩) s).map Value.string).toArray := by rw [← hlen]; exact Lib.cellsOf_full _
  rw [e2] at h
  have hd : (Lib.splitB ⟨#[c]⟩ 0 (Lib.countB s ⟨#[c]⟩) s).map (·.data.toList) = AM.splitL c s.data.toList := by
    rw [Lib.splitB_data, hcb]
    exact AM.splitK_one c _ _ rfl
  change Calls Tryz.prog 69 _ _ _ at h
  generalize Lib.splitB ⟨#[c]⟩ 0 (Lib.countB s ⟨#[c]⟩) s = l at h hd hlen
  rw [← hlen] at h
  clear e2 hI hC hle hlen hcb
  go_enter Tryz.func40, Tryz.ntmps40
  go_wp2_with (go_at_call 69; refine h.mono ?_; rintro e w' ⟨rfl, hw⟩; rw [hw])
  go_ret
  exact ⟨l, _, rfl, rfl, hd⟩
end Go.Proofs
set_option linter.unusedVariables false
set_option linter.unusedSimpArgs false
namespace Go.AM
open Go.Proofs Go.RowKit
set_option maxHeartbeats 2000000 in
set_option maxRecDepth 100000 in
theorem copyCheck_used (b : Nat) (w : World) (h0 : w.cell? ⟨b, 0, none⟩ = some (.pointer (some ⟨b, 0, none⟩))) :
    Calls Tryz.prog 54 #[.pointer (some ⟨b, 0, none⟩)] w fun e w' => e = .returned (.tuple #[]) ∧ w' = w := by
  have mixed : Tryz.prog.follows .mixedOrders = true := by kernel_rfl
  obtain ⟨j, hj, _⟩ := Option.map_eq_some_iff.1 (show (Tryz.prog.info? 59).map (·.size) = some 2 by kernel_rfl)
  go_enter Tryz.func54, Tryz.ntmps54
  go_wp2
  rw [Lib.run_neq_ptr_same w _ Tryz.underlying56 hj]
  go_wp2
  go_end0
  exact ⟨rfl, rfl⟩
set_option maxHeartbeats 2000000 in
set_option maxRecDepth 100000 in
theorem copyCheck_fresh (b : Nat) (w : World) (h0 : w.cell? ⟨b, 0, none⟩ = some (.pointer none)) (hsh : w.shape? b = some (59, 2)) (hfz : w.frozen? ⟨b, 0, none⟩ = false) :
    Calls Tryz.prog 54 #[.pointer (some ⟨b, 0, none⟩)] w fun e w' => e = .returned (.tuple #[]) ∧ w' = w.setCell ⟨b, 0, none⟩ (.pointer (some ⟨b, 0, none⟩)) := by
  have mixed : Tryz.prog.follows .mixedOrders = true := by kernel_rfl
  obtain ⟨j, hj, hjs⟩ := Option.map_eq_some_iff.1 (show (Tryz.prog.info? 59).map (·.size) = some 2 by kernel_rfl)
  go_enter Tryz.func54, Tryz.ntmps54
  go_wp2
  rw [Lib.run_to_unsafe w ⟨b, 0, none⟩ Tryz.underlying56 Tryz.underlying132 hj (by rw [hjs]; decide) hsh (Nat.zero_lt_succ 1)]
  simp only [Result.andThen]
  rw [Oper.upon_value]
  go_wp2
  rw [run_callFunc_extern Tryz.func98 (by kernel_rfl) (by kernel_rfl) (by kernel_rfl) (e := Extern.AbiNoEscape.same) (by kernel_rfl)]
  rw [Lib.run_noEscape]
  simp only [Result.andThen]
  rw [Oper.upon_value]
  go_wp2
  rw [Lib.run_from_unsafe w ⟨b, 0, none⟩ Tryz.underlying132 Tryz.underlying56 hj hsh (by kernel_rfl)]
  simp only [Result.andThen]
  rw [Oper.upon_value]
  go_wp2
  go_end0
  exact ⟨rfl, rfl⟩
theorem copyCheck_ok : PrOK Tryz.prog (fun _ => True) 54 (.bcheck 59) := by
  intro w b vs _ hh hsz h0
  have he : Enters Tryz.prog 54 := enters Tryz.func54 (by kernel_rfl) (by decide)
  rcases h0 with h0 | h0
  · refine goes_of he ((copyCheck_fresh b w (by rw [Lib.cell_of_heap hh]; exact h0) (by simp [World.shape?, hh, hsz]) (by simp [World.frozen?, hh])).mono ?_)
    rintro e w' ⟨rfl, rfl⟩
    refine ⟨_, rfl, rfl, .inr ⟨?_, ?_⟩⟩
    · refine ⟨rfl, rfl, rfl, by simp [World.setCell], fun k _ hk => ?_⟩
      exact Below.heap_setCell _ _ _ _ (fun e => hk (by simp [e]))
    · simp [World.setCell, Array.getElem?_modify, hh]
  · refine goes_of he ((copyCheck_used b w (by rw [Lib.cell_of_heap hh]; exact h0)).mono ?_)
    rintro e w' ⟨rfl, rfl⟩
    exact ⟨_, rfl, rfl, .inl rfl⟩
set_option maxHeartbeats 2000000 in
set_option maxRecDepth 100000 in
theorem bString (b g cap : Nat) (p : Value) (cur : Array Value) (l : List UInt8) (w : World) (h0 : l ≠ []) (hl : l.length ≤ strMax) (hbk : w.heap[b]? = some (.cells #[p, .slice (some ⟨g, 0, none⟩) l.length cap] 59 (0, 0)))
    (hg : w.heap[g]? = some (.cells cur 5 (0, 0))) (hnc : l.length ≤ cap) (hcs : cur.size = cap) (htake : cur.toList.take l.length = Lib.byteCells l) :
    Calls Tryz.prog 32 #[.pointer (some ⟨b, 0, none⟩)] w fun e w' => e = .returned (.string ⟨l.toArray⟩) ∧ w' = w.drew.freeze ⟨g, 0, none⟩ l.length := by
  have mixed : Tryz.prog.follows .mixedOrders = true := by kernel_rfl
  have hl0 : l.length ≠ 0 := by simpa using h0
  have c1 : w.drew.cell? ⟨b, 1, none⟩ = some (.slice (some ⟨g, 0, none⟩) l.length cap) := by
    have : w.drew.heap[b]? = some (.cells #[p, .slice (some ⟨g, 0, none⟩) l.length cap] 59 (0, 0)) := hbk
    rw [Lib.cell_of_heap this]; rfl
  have hSD : (Builtin.unsafeSliceData_ #[57] 100 #[.slice (some ⟨g, 0, none⟩) l.length cap]).run Tryz.prog w.drew = .ok (.pointer (some ⟨g, 0, none⟩)) w.drew :=
    Lib.run_unsafeSliceData_row _ _ _ _ _ _ (by omega)
  have hUS : (Builtin.unsafeString_ #[100, 3] 9 #[.pointer (some ⟨g, 0, none⟩), .int .i64 l.length]).run Tryz.prog w.drew = .ok (.string ⟨l.toArray⟩) (w.drew.freeze ⟨g, 0, none⟩ l.length) := by
    refine Lib.run_unsafeString_row w.drew 100 3 9 5 Tryz.underlying100 (by kernel_rfl) g cur.size (by have hg' : w.drew.heap[g]? = some (.cells cur 5 (0, 0)) := hg; simp [World.shape?, hg']) l h0 (by omega) (by rw [strMax] at hl; omega) ?_
    intro j x hx
    have hg' : w.drew.heap[g]? = some (.cells cur 5 (0, 0)) := hg
    have hj := (List.getElem?_eq_some_iff.1 hx).1
    rw [show (⟨g, 0, none⟩ : Addr).add j = ⟨g, j, none⟩ from by by_cases hj0 : j = 0 <;> simp [Addr.add, hj0], Lib.cell_of_heap hg', ← Array.getElem?_toList]
    have e := congrArg (fun q => q[j]?) htake
    simp only [List.getElem?_take, hj, if_true, Lib.byteCells, List.getElem?_map, hx, Option.map_some] at e
    simpa using e
  go_enter Tryz.func32, Tryz.ntmps32
  go_wp2
  go_region_o
  all_goals (go_wp2; go_ret; exact ⟨rfl, rfl⟩)
theorem freeze_heap (w : World) (g n : Nat) (k : Nat) (hk : k ≠ g) : (w.freeze ⟨g, 0, none⟩ n).heap[k]? = w.heap[k]? := by
  unfold World.freeze
  split
  · rfl
  · simp [Array.getElem?_modify, Ne.symm hk]
theorem freeze_cell (w : World) (g n o : Nat) : (w.freeze ⟨g, 0, none⟩ n).cell? ⟨g, o, none⟩ = w.cell? ⟨g, o, none⟩ := by
  unfold World.freeze
  split
  · rfl
  · simp only [World.cell?, Array.getElem?_modify, if_true]
    cases w.heap[g]? with
    | none => rfl
    | some ob => cases ob <;> rfl
theorem freeze_size (w : World) (g n : Nat) : (w.freeze ⟨g, 0, none⟩ n).heap.size = w.heap.size ∧ (w.freeze ⟨g, 0, none⟩ n).os = w.os ∧ (w.freeze ⟨g, 0, none⟩ n).tape = w.tape ∧ (w.freeze ⟨g, 0, none⟩ n).output = w.output := by
  unfold World.freeze
  split <;> simp
theorem bString_ok : PrOK Tryz.prog (fun _ => True) 32 (.bstring 59 5) := by
  intro w b q cap vs cur l _ hne hl hh hsz h1 hq hlc hcs ht
  have he : Enters Tryz.prog 32 := enters Tryz.func32 (by kernel_rfl) (by decide)
  obtain ⟨p, hvs⟩ : ∃ p, vs = #[p, .slice (some ⟨q, 0, none⟩) l.length cap] := by
    refine ⟨vs[0]'(by omega), ?_⟩
    apply Array.ext
    · simp [hsz]
    · intro i hi1 hi2
      match i, hi1 with
      | 0, _ => rfl
      | 1, _ =>
        have := (Array.getElem?_eq_some_iff.1 h1).2
        simpa using this
      | i + 2, h => omega
  subst hvs
  refine goes_of he ((bString b q cap p cur l w hne hl hh hq hlc hcs ht).mono ?_)
  rintro e w' ⟨rfl, rfl⟩
  obtain ⟨f1, f2, f3, f4⟩ := freeze_size w.drew q l.length
  refine ⟨_, rfl, rfl, ⟨f2, f3, f4, by rw [f1]; exact Nat.le_refl _, fun k _ hk => freeze_heap w.drew q l.length k (fun e => hk (by rw [e]))⟩, fun o => freeze_cell w.drew q l.length o⟩
end Go.AM
set_option linter.unusedVariables false
set_option linter.unusedSimpArgs false
namespace Go.Proofs
open Go.Shelf Go.RowKit Go.Sort
set_option maxHeartbeats 1000000 in
theorem Tryz.isNaN_str (s : ByteArray) (w : World) : Calls Tryz.prog 137 #[.string s] w fun e w' => e = .returned (.bool false) ∧ w' = w := by
  have mixed : Tryz.prog.follows .mixedOrders := by kernel_rfl
  go_enter Tryz.func137, Tryz.ntmps137
  go_wp2
  go_ret
  exact ⟨rfl, rfl⟩
theorem Tryz.gtr_str (x y : ByteArray) (w : World) : (Go.binOp .gtr 9 (.string x) (.string y)).run Tryz.prog w = .ok (.bool (!(Op.bytesLess x.toList y.toList || x.toList == y.toList))) w := by simp [Go.binOp, Op.stringOp]
set_option maxHeartbeats 2000000 in
theorem Tryz.compare_str (x y : ByteArray) (w : World) : Calls Tryz.prog 93 #[.string x, .string y] w fun e w' => e = .returned (.int .i64 (if Op.bytesLess x.toList y.toList then -1 else if Op.bytesLess x.toList y.toList || x.toList == y.toList then 0 else 1)) ∧ w' = w := by
  have mixed : Tryz.prog.follows .mixedOrders := by kernel_rfl
  go_enter Tryz.func93, Tryz.ntmps93
  go_wp2_with (go_at_call 137; refine (Tryz.isNaN_str _ _).mono ?_; rintro e w' ⟨rfl, rfl⟩)
  all_goals try (
    rw [Tryz.gtr_str]
    simp only [Result.andThen]
    rw [Oper.upon_value]
    generalize hq : (Op.bytesLess x.toList y.toList || x.toList == y.toList) = q
    cases q
    all_goals (simp only [Bool.not_true, Bool.not_false]; go_wp2))
  all_goals (go_ret; refine ⟨?_, rfl⟩; simp_all)
set_option maxHeartbeats 4000000 in
theorem Tryz.or_ints (b : Nat) (p q : Int) (w : World) (h0 : w.cell? ⟨b, 0, none⟩ = some (.int .i64 p)) (h1 : w.cell? ⟨b, 1, none⟩ = some (.int .i64 q)) : Calls Tryz.prog 92 #[.slice (some ⟨b, 0, none⟩) 2 2] w fun e w' => e = .returned (.int .i64 (if p = 0 then q else p)) ∧ w' = w := by
  have mixed : Tryz.prog.follows .mixedOrders := by kernel_rfl
  go_enter Tryz.func92, Tryz.ntmps92
  go_wp2
  refine wp_loop_rounds 3 ?_
  rw [rounds_succ]
  by_cases hp : p = 0
  · subst hp
    go_wp2
    rw [rounds_succ]
    by_cases hq : q = 0
    · subst hq
      go_wp2
      rw [rounds_succ]
      go_wp2
      go_ret
      exact ⟨rfl, rfl⟩
    · go_wp2
      all_goals first | (go_ret; refine ⟨?_, rfl⟩; simp_all) | (exfalso; simp_all)
  · go_wp2
    all_goals first | (go_ret; refine ⟨?_, rfl⟩; simp_all) | (exfalso; simp_all)
set_option maxHeartbeats 8000000 in
set_option maxRecDepth 100000 in
theorem Tryz.cmpTag (x y : AM.TagD) (w : World) : Calls Tryz.prog 91 #[.agg (AM.encT x).toArray, .agg (AM.encT y).toArray] w fun e w' => e = .returned (.int .i64 (AM.cmpL x y)) ∧ ∃ q os, w' = grow (w.drewN q) os := by
  have mixed : Tryz.prog.follows .mixedOrders := by kernel_rfl
  obtain ⟨k1, v1⟩ := x
  obtain ⟨k2, v2⟩ := y
  show Calls Tryz.prog 91 #[.agg #[.string ⟨k1.toArray⟩, .string ⟨v1.toArray⟩], .agg #[.string ⟨k2.toArray⟩, .string ⟨v2.toArray⟩]] w _
  have hb : ∀ l : List UInt8, (⟨l.toArray⟩ : ByteArray).toList = l := fun l => by rw [AM.ba_toList]
  have c1 : ∀ W, Calls Tryz.prog 93 #[.string ⟨k1.toArray⟩, .string ⟨k2.toArray⟩] W fun e w' => e = .returned (.int .i64 (AM.cmpS k1 k2)) ∧ w' = W := fun W => by
    have h := Tryz.compare_str ⟨k1.toArray⟩ ⟨k2.toArray⟩ W
    simp only [hb] at h
    exact h
  have c2 : ∀ W, Calls Tryz.prog 93 #[.string ⟨v1.toArray⟩, .string ⟨v2.toArray⟩] W fun e w' => e = .returned (.int .i64 (AM.cmpS v1 v2)) ∧ w' = W := fun W => by
    have h := Tryz.compare_str ⟨v1.toArray⟩ ⟨v2.toArray⟩ W
    simp only [hb] at h
    exact h
  unfold AM.cmpL
  simp only
  clear hb
  generalize AM.cmpS k1 k2 = r1 at c1 ⊢
  generalize AM.cmpS v1 v2 = r2 at c2 ⊢
  generalize (⟨k1.toArray⟩ : ByteArray) = k1 at c1 ⊢
  generalize (⟨k2.toArray⟩ : ByteArray) = k2 at c1 ⊢
  generalize (⟨v1.toArray⟩ : ByteArray) = v1 at c2 ⊢
  generalize (⟨v2.toArray⟩ : ByteArray) = v2 at c2 ⊢
  have c3 : ∀ (W : World) (b : Nat), W.heap.size = b → Calls Tryz.prog 92 #[.slice (some ⟨b, 0, none⟩) 2 2] (W.alloc (.cells #[.int .i64 r1, .int .i64 r2] 3)).drew fun e w' => e = .returned (.int .i64 (if r1 = 0 then r2 else r1)) ∧ w' = (W.alloc (.cells #[.int .i64 r1, .int .i64 r2] 3)).drew := by
    rintro W b rfl
    have hh : (W.alloc (.cells #[.int .i64 r1, .int .i64 r2] 3)).drew.heap[W.heap.size]? = some (.cells #[.int .i64 r1, .int .i64 r2] 3 (0, 0)) := World.alloc_heap_new W _
    exact Tryz.or_ints _ r1 r2 _ (by rw [Lib.cell_of_heap hh]; rfl) (by rw [Lib.cell_of_heap hh]; rfl)
  generalize (if r1 = 0 then r2 else r1) = rr at c3 ⊢
  go_enter Tryz.func91, Tryz.ntmps91
  go_wp2
  go_region_held2 (fun W => W.cell? ⟨w.heap.size, 0, none⟩ = some (.string k1) ∧ W.cell? ⟨w.heap.size, 1, none⟩ = some (.string v1) ∧ W.cell? ⟨w.heap.size + 1, 0, none⟩ = some (.string k2) ∧ W.cell? ⟨w.heap.size + 1, 1, none⟩ = some (.string v2)) (go_keep) (first
    | (go_at_call_of 93 (Value.string k1); refine (c1 _).mono ?_; rintro e w' ⟨rfl, rfl⟩)
    | (go_at_call_of 93 (Value.string v1); refine (c2 _).mono ?_; rintro e w' ⟨rfl, rfl⟩)
    | (go_at_call 92; refine (c3 _ _ (by simp)).mono ?_; rintro e w' ⟨rfl, rfl⟩))
  go_wp2
  go_ret
  exact ⟨rfl, 1, _, by rw [alloc_eq_grow, alloc_eq_grow, alloc_eq_grow, grow_grow, grow_grow]; rfl⟩
set_option maxHeartbeats 4000000 in
set_option maxRecDepth 100000 in
theorem Tryz.sort_none (A : Option Addr) (w : World) : Calls Tryz.prog 90 #[.slice A 0 0, .func (.func 91) #[] #[]] w fun e w' => e = .returned (.tuple #[]) ∧ w.grownBy w' none := by
  have mixed : Tryz.prog.follows .mixedOrders := by kernel_rfl
  go_enter Tryz.func90, Tryz.ntmps90
  go_wp2
  refine wp_loop_rounds 1 ?_
  rw [rounds_succ]
  go_wp2
  refine wp_loop_rounds 1 ?_
  rw [rounds_succ]
  go_wp2
  go_end0
  all_goals try simp only []
  go_wp2
  try simp only [Exit.inBlock, Exit.then]
  refine bodyPost_ret (results_none rfl _ _ _) rfl ?_
  try simp only []
  go_at_K
  go_wp2
  go_end0
  exact ⟨rfl, ⟨rfl, rfl, rfl, Nat.le_refl _, fun _ _ _ => rfl⟩⟩
theorem sortTags_ok : AM.PrOK Tryz.prog (fun _ => True) 90 (.sort AM.TyTag 91 AM.sortTags) := by
  refine AM.sort_ok (AM.enters Tryz.func90 (by kernel_rfl) (by decide)) (fun q cap d w hH hq hd => ?_) Tryz.sort_none
  have eg : ∀ args w, (callFunc 91 args).run Tryz.prog w = .ok (.enter 91 args) w := enters_of Tryz.func91 (by kernel_rfl) rfl
  exact AnyQ.slices_SortFunc Tryz.laySort 2 Tryz.isAgg53 Tryz.sizeOf53 AM.encT (fun _ => rfl) (fun x v hv => by simp [AM.encT] at hv; rcases hv with rfl | rfl <;> rfl) AM.cmpL AM.swoT 91 #[] q 0 cap d w eg (fun _ _ _ _ x y => Tryz.cmpTag x y _) hH hq hd
end Go.Proofs
