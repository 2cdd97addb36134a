/- Part 4 of a proof by the abstract machine. -/
import Derived.Test.YtjnmlfffiibeiabGreatDoorQ3
import Derived.Shelf.Strings.Builder1
import Derived.Shelf.Strings.Builder2
import Derived.Shelf.Strings.OnBuilder
import Derived.Shelf.Strings.Trim
import Derived.Shelf.Small.Utf8
import Derived.Shelf.Small.Bits
import Derived.Shelf.Small.Strs
import Derived.Shelf.Strings.BuilderF
import Derived.Shelf.Strings.BuilderK
import Derived.Shelf.Utf8.RuneCount
import Derived.Shelf.Strings.Builder2Cap
import Derived.Shelf.Strconv.Atoi
import Derived.Shelf.Strconv.Itoa0
import Derived.Shelf.Strconv.Itoa1
import Derived.Shelf.LaysM
import Derived.Shelf.Strconv.Itoa2
import Derived.Shelf.Strconv.Itoa3
import Derived.Shelf.Strconv.AtoiErrFast
import Derived.Shelf.Strconv.ParseIntEmpty
import Derived.Shelf.Strconv.AtoiFail
import Derived.Shelf.Strconv.Clone
import Derived.Shelf.Strconv.SyntaxError
import Derived.Shelf.LaysC
import Derived.Shelf.Strconv.ToError
import Derived.Shelf.Strconv.Lower
import Derived.Shelf.Strconv.ParseUint10
import Derived.Shelf.Strconv.ParseUint10Empty
import Derived.Shelf.Strconv.ParseUint10Any
import Derived.Shelf.Strconv.ParseInt10
import Derived.Shelf.Strconv.AtoiLong
import Derived.Shelf.Strconv.AtoiInnerAll
import Derived.Shelf.Strconv.RangeError
import Derived.Shelf.Strconv.ToErrorRange
import Derived.Shelf.Strconv.AtoiAll
import Derived.Shelf.Strconv.ErrVarAll
import Derived.Shelf.Strings.Search1
import Derived.Shelf.Strings.Search2
import Derived.Shelf.Strings.Search3
import Derived.Shelf.Strings.Cut
import Derived.Shelf.Strings.Count
import Derived.Shelf.Strings.Shaped
import Derived.Shelf.Strings.Prefix
import Derived.Shelf.Strings.Split
import Derived.Shelf.Strings.SplitShaped
import Derived.Shelf.Unicode.Decode
import Derived.Shelf.Strings.Runes
import Derived.Shelf.Strings.RuneCount
import Derived.Shelf.Strings.AsciiSet
import Derived.Shelf.Strings.Explode
import Derived.Shelf.Bits.Mul64
import Derived.Shelf.Strings.Repeat
import Derived.Shelf.Unicode.DecodeSlow
import Derived.Shelf.Unicode.DecodeAny
import Derived.Shelf.Unicode.DecodeLast
import Derived.Shelf.Strings.BuilderCap
import Derived.Shelf.Bytes.SlIndexSmall
import Derived.Shelf.Bytes.SlIndexAt
import Derived.Shelf.Bytes.SlSearch0
import Derived.Shelf.Bytes.Small
import Derived.Shelf.Bytes.IndexByte
import Derived.Shelf.SlGeneric
import Derived.Ground.SlsfProg
import Derived.Shelf.SlSortCmp.WholeK
import Derived.Test.YtjnmlfffiibeiabGreatDoorProg
import Derived.Lib.IndexBytes
import Derived.Lib.Walk
import Derived.WalkKit
import Derived.BigCall
import Derived.BigGuard
import Derived.Deep.RegionHeld2
import Derived.LoopN
import Derived.Lib.Builder
import Derived.WalkLawsBesides
import Derived.KernelRfl
import Derived.Test.YtjnmlfffiibeiabGreatDoorRows
import Derived.Shelf.Spec.BitsCarry
import Derived.Lib.ItoaNum
import Derived.Lib.ItoaLen
import Derived.Lib.AtoiAll
import Derived.Lib.TrimByte
set_option linter.unusedVariables false
namespace Go.AM
abbrev Y0 : Ty := .int .i64
abbrev Y1 : Ty := .agg [Y0, Y0, .str, .bool]
abbrev Y2 : Ty := .int .u64
abbrev Y3 : Ty := .agg [.bool, Y2, Y0]
abbrev Y4 : Ty := .agg [.str, .str]
abbrev Y5 : Ty := .sl Y3
abbrev Y6 : Ty := .sl Y4
abbrev Y7 : Ty := .agg [.str, Y0, Y5, Y0, Y6, Y0]
abbrev Y8 : Ty := .sl Y7
abbrev Y9 : Ty := .agg [Y0, Y0, Y0, Y8, Y0, Y0]
abbrev Y10 : Ty := .agg [Y0, Y0]
abbrev Y11 : Ty := .agg [Y0, Y0, (.sl .u8), Y10]
abbrev Y12 : Ty := .sl Y9
abbrev Y13 : Ty := .sl Y1
abbrev Y14 : Ty := .agg [Y0, Y0, Y0, (.sl .u8), .bool]
abbrev Y15 : Ty := .sl Y11
abbrev Y16 : Ty := .agg [Y0, Y0, (.sl .u8), Y0, .bool]
abbrev Y17 : Ty := .agg [Y7, Y0, Y0]
abbrev Y18 : Ty := .agg [Y0, .str, .bool]
abbrev Y19 : Ty := .agg [.u8, .u8]
abbrev Y20 : Ty := .agg [.str, .str, .str, .str, .str, .str]
abbrev Y21 : Ty := .agg [.u8, Y0]
abbrev Y22 : Ty := .agg [Y21, Y21, Y21]
abbrev Z0 : Type := List (UInt8)
abbrev Z1 : Type := List UInt8
abbrev Z2 : Type := (Bool) × (Int) × (Int)
abbrev Z3 : Type := List (Z2)
abbrev Z4 : Type := (Z1) × (Z1)
abbrev Z5 : Type := List (Z4)
abbrev Z6 : Type := (Z1) × (Int) × (Z3) × (Int) × (Z5) × (Int)
abbrev Z7 : Type := List (Z6)
abbrev Z8 : Type := (Int) × (Int) × (Int) × (Z7) × (Int) × (Int)
abbrev Z9 : Type := List (Z8)
abbrev Z10 : Type := (Int) × (Int) × (Z1) × (Bool)
abbrev Z11 : Type := List (Z10)
abbrev Z12 : Type := (Int) × (Int)
abbrev Z13 : Type := (Int) × (Int) × (Z0) × (Z12)
abbrev Z14 : Type := List (Z13)
abbrev Z15 : Type := (Int) × (Int) × Unit
abbrev Z16 : Type := (Z1) × (Int) × (Z3) × (Int) × (Z5) × (Int) × Unit
abbrev Z17 : Type := (Bool) × (Int) × (Int) × Unit
abbrev Z18 : Type := List (Z1)
abbrev Z19 : Type := (Z1) × (Unit) × (Z1) × (Unit) × (Z1) × (Unit) × Unit
abbrev Z20 : Type := Nat × Nat
abbrev Z21 : Type := Nat × List (Z4)
abbrev Z22 : Type := (Z1) × (Z1) × (Z1) × (Z1) × (Z1) × (Z1) × Unit
abbrev Z23 : Type := (Z1) × (Z1) × Unit
abbrev Z24 : Type := (Int) × (Int) × (Int) × (Int) × (Int) × (Int) × Unit
abbrev Z25 : Type := (Int) × (Int) × (Int) × (Z7) × (Int) × (Int) × Unit
noncomputable def F.stringslite_Cut (n : Nat) (a0 : Z1) (a1 : Z1) : Option ((Z1) × (Z1) × (Bool) × Unit) :=
 (O.index1 n a0 a1).bind fun y1 =>
  bif decide (y1 ≥ (0 : Int)) then
   (sub a0 (0 : Int) y1).bind fun x2 =>
    (sub a0 (IntKind.wrap .i64 (y1 + (a1.length : Int))) (a0.length : Int)).bind fun x3 =>
     some ((x2, x3, true, ()))
  else
   some ((a0, [], false, ()))
noncomputable def F.strings_Cut (n : Nat) (a0 : Z1) (a1 : Z1) : Option ((Z1) × (Z1) × (Bool) × Unit) :=
 (F.stringslite_Cut n a0 a1).bind fun y1 =>
  some ((y1.1, y1.2.1, y1.2.2.1, ()))
noncomputable def F.class_may (n : Nat) (a0 : Int) : Option (Bool) :=
 bif decide (a0 ≥ (1 : Int)) then
  some (decide (a0 ≤ (4 : Int)))
 else
  some (false)
noncomputable def F.class_between (n : Nat) (a0 : Int) (a1 : Int) (a2 : Int) : Option (Bool) :=
 bif decide (a0 ≥ a1) then
  some (decide (a0 ≤ a2))
 else
  some (false)
noncomputable def F.class_Is (n : Nat) (a0 : Int) (a1 : Int) : Option (Bool) :=
 bif a0 == (3 : Int) then
  (F.class_between n a1 (33 : Int) (126 : Int)).bind fun y1 =>
   bif y1 then
    bif !(a1 == (44 : Int)) then
     some (!(a1 == (124 : Int)))
    else
     some (false)
   else
    some (false)
 else
 bif a0 == (2 : Int) then
  bif a1 == (47 : Int) then
   some (true)
  else
   (F.class_between n a1 (65 : Int) (90 : Int)).bind fun y2 =>
    bif y2 then
     some (true)
    else
     (F.class_between n a1 (97 : Int) (122 : Int)).bind fun y3 =>
      bif y3 then
       some (true)
      else
      bif a1 == (95 : Int) then
       some (true)
      else
      bif a1 == (46 : Int) then
       some (true)
      else
      bif a1 == (45 : Int) then
       some (true)
      else
       (F.class_between n a1 (48 : Int) (57 : Int)).bind fun y4 =>
        some (y4)
 else
 bif a0 == (1 : Int) then
  (F.class_between n a1 (65 : Int) (90 : Int)).bind fun y5 =>
   bif y5 then
    some (true)
   else
    (F.class_between n a1 (97 : Int) (122 : Int)).bind fun y6 =>
     bif y6 then
      some (true)
     else
     bif a1 == (95 : Int) then
      some (true)
     else
     bif a1 == (46 : Int) then
      some (true)
     else
     bif a1 == (45 : Int) then
      some (true)
     else
      (F.class_between n a1 (48 : Int) (57 : Int)).bind fun y7 =>
       some (y7)
 else
 bif a0 == (4 : Int) then
  (F.class_between n a1 (48 : Int) (57 : Int)).bind fun y8 =>
   some (y8)
 else
  some (false)
noncomputable def F.class_Bad.L4.step {X : Type} (n : Nat) (rec : Int → Z1 → Int → Int → Option X) (k0 : Unit → Option X) (kr : Int → Int → Option X) (v0 : Int) (v1 : Z1) (v11 : Int) (v12 : Int) : Option X :=
 bif decide (v12 < v11) then
  (idx v1 v12).bind fun x2 =>
   (F.class_Is n v0 ((x2).toNat)).bind fun y3 =>
    bif !y3 then
     kr v12 (0 : Int)
    else
     rec v0 v1 v11 (IntKind.wrap .i64 (v12 + (1 : Int)))
 else
  k0 ()
noncomputable def F.class_Bad.L4 {X : Type} (n : Nat) (k0 : Unit → Option X) (kr : Int → Int → Option X) : Nat → Int → Z1 → Int → Int → Option X
 | 0 => fun _ _ _ _ => none
 | m + 1 => fun v0 v1 v11 v12 => F.class_Bad.L4.step n (F.class_Bad.L4 n k0 kr m) k0 kr v0 v1 v11 v12
noncomputable def F.class_Bad (n : Nat) (a0 : Int) (a1 : Z1) : Option ((Int) × (Int) × Unit) :=
 (F.class_may n a0).bind fun y1 =>
  bif !y1 then
   some (((0 : Int), (1 : Int), ()))
  else
   F.class_Bad.L4 n
    (fun (_ : Unit) =>
     some (((-1 : Int), (0 : Int), ())))
    (fun e4 e5 =>
     some ((e4, e5, ()))) n a0 a1 (a1.length : Int) (0 : Int)
noncomputable def F.class_Text (n : Nat) (a0 : Int) (a1 : Z1) (a2 : Int) (a3 : Int) : Option (Z15) :=
 (F.class_Bad n a0 a1).bind fun y1 =>
  bif !(y1.2.1 == (0 : Int)) then
   some (((1 : Int), (0 : Int), ()))
  else
  bif decide (a2 < (0 : Int)) then
   some (((1 : Int), (0 : Int), ()))
  else
  bif decide (a3 < a2) then
   some (((1 : Int), (0 : Int), ()))
  else
  bif decide ((a1.length : Int) < a2) then
   some (((13 : Int), (a1.length : Int), ()))
  else
  bif decide ((a1.length : Int) > a3) then
   some (((12 : Int), a3, ()))
  else
  bif decide (y1.1 ≥ (0 : Int)) then
   some (((14 : Int), y1.1, ()))
  else
   some (((0 : Int), (0 : Int), ()))
noncomputable def F.statsd_fault (n : Nat) (a0 : Int) (a1 : Int) : Option ((Z16) × (Z15) × Unit) :=
 some ((([], (0 : Int), [], (0 : Int), [], (0 : Int), ()), (a0, a1, ()), ()))
noncomputable def F.stringslite_HasPrefix (n : Nat) (a0 : Z1) (a1 : Z1) : Option (Bool) :=
 bif decide ((a0.length : Int) ≥ (a1.length : Int)) then
  (sub a0 (0 : Int) (a1.length : Int)).bind fun x1 =>
   some (x1 == a1)
 else
  some (false)
noncomputable def F.strings_HasPrefix (n : Nat) (a0 : Z1) (a1 : Z1) : Option (Bool) :=
 (F.stringslite_HasPrefix n a0 a1).bind fun y1 =>
  some (y1)
noncomputable def F.dec_look.L2_dec_look_1.step {X : Type} (n : Nat) (rec : Int → Z1 → Int → Int → Int → Option X) (k0 : Int → Z1 → Int → Int → Int → Option X) (v3 : Int) (ab0 : Z1) (bb0 : Int) (bb1 : Int) (cb0 : Int) : Option X :=
 bif decide (cb0 < (ab0.length : Int)) then
  (idx ab0 cb0).bind fun x2 =>
   bif decide (((x2).toNat) ≥ (48 : Int)) then
    (idx ab0 cb0).bind fun x3 =>
     bif decide (((x3).toNat) ≤ (57 : Int)) then
      rec v3 ab0 bb0 bb1 (IntKind.wrap .i64 (cb0 + (1 : Int)))
     else
      k0 v3 ab0 bb0 bb1 cb0
   else
    k0 v3 ab0 bb0 bb1 cb0
 else
  k0 v3 ab0 bb0 bb1 cb0
noncomputable def F.dec_look.L2_dec_look_1 {X : Type} (n : Nat) (k0 : Int → Z1 → Int → Int → Int → Option X) : Nat → Int → Z1 → Int → Int → Int → Option X
 | 0 => fun _ _ _ _ _ => none
 | m + 1 => fun v3 ab0 bb0 bb1 cb0 => F.dec_look.L2_dec_look_1.step n (F.dec_look.L2_dec_look_1 n k0 m) k0 v3 ab0 bb0 bb1 cb0
noncomputable def F.dec_look (n : Nat) (a0 : Z1) : Option (Z15) :=
 (F.strings_HasPrefix n a0 ([45])).bind fun y1 =>
  bif y1 then
   F.dec_look.L2_dec_look_1 n
    (fun e3 g0 h0 h1 i0 =>
     bif decide (i0 > e3) then
      (sub g0 i0 (g0.length : Int)).bind fun x5 =>
       (F.strings_HasPrefix n x5 ([46])).bind fun y6 =>
        bif y6 then
         F.dec_look.L2_dec_look_1 n
          (fun e3 g0 h0 h1 i0 =>
           bif decide (i0 > e3) then
            bif i0 == (g0.length : Int) then
             some (((0 : Int), (0 : Int), ()))
            else
            bif i0 == (g0.length : Int) then
             some (((11 : Int), i0, ()))
            else
             some (((14 : Int), i0, ()))
           else
           bif i0 == (g0.length : Int) then
            some (((11 : Int), i0, ()))
           else
            some (((14 : Int), i0, ()))) n (IntKind.wrap .i64 (i0 + (1 : Int))) g0 h0 h1 (IntKind.wrap .i64 (i0 + (1 : Int)))
        else
        bif decide (i0 > e3) then
         bif i0 == (g0.length : Int) then
          some (((0 : Int), (0 : Int), ()))
         else
         bif i0 == (g0.length : Int) then
          some (((11 : Int), i0, ()))
         else
          some (((14 : Int), i0, ()))
        else
        bif i0 == (g0.length : Int) then
         some (((11 : Int), i0, ()))
        else
         some (((14 : Int), i0, ()))
     else
     bif decide (i0 > e3) then
      bif i0 == (g0.length : Int) then
       some (((0 : Int), (0 : Int), ()))
      else
      bif i0 == (g0.length : Int) then
       some (((11 : Int), i0, ()))
      else
       some (((14 : Int), i0, ()))
     else
     bif i0 == (g0.length : Int) then
      some (((11 : Int), i0, ()))
     else
      some (((14 : Int), i0, ()))) n (1 : Int) a0 (0 : Int) (0 : Int) (1 : Int)
  else
   F.dec_look.L2_dec_look_1 n
    (fun e3 g0 h0 h1 i0 =>
     bif decide (i0 > e3) then
      (sub g0 i0 (g0.length : Int)).bind fun x9 =>
       (F.strings_HasPrefix n x9 ([46])).bind fun y10 =>
        bif y10 then
         F.dec_look.L2_dec_look_1 n
          (fun e3 g0 h0 h1 i0 =>
           bif decide (i0 > e3) then
            bif i0 == (g0.length : Int) then
             some (((0 : Int), (0 : Int), ()))
            else
            bif i0 == (g0.length : Int) then
             some (((11 : Int), i0, ()))
            else
             some (((14 : Int), i0, ()))
           else
           bif i0 == (g0.length : Int) then
            some (((11 : Int), i0, ()))
           else
            some (((14 : Int), i0, ()))) n (IntKind.wrap .i64 (i0 + (1 : Int))) g0 h0 h1 (IntKind.wrap .i64 (i0 + (1 : Int)))
        else
        bif decide (i0 > e3) then
         bif i0 == (g0.length : Int) then
          some (((0 : Int), (0 : Int), ()))
         else
         bif i0 == (g0.length : Int) then
          some (((11 : Int), i0, ()))
         else
          some (((14 : Int), i0, ()))
        else
        bif i0 == (g0.length : Int) then
         some (((11 : Int), i0, ()))
        else
         some (((14 : Int), i0, ()))
     else
     bif decide (i0 > e3) then
      bif i0 == (g0.length : Int) then
       some (((0 : Int), (0 : Int), ()))
      else
      bif i0 == (g0.length : Int) then
       some (((11 : Int), i0, ()))
      else
       some (((14 : Int), i0, ()))
     else
     bif i0 == (g0.length : Int) then
      some (((11 : Int), i0, ()))
     else
      some (((14 : Int), i0, ()))) n (0 : Int) a0 (0 : Int) (0 : Int) (0 : Int)
noncomputable def F.stringslite_CutPrefix (n : Nat) (a0 : Z1) (a1 : Z1) : Option ((Z1) × (Bool) × Unit) :=
 (F.stringslite_HasPrefix n a0 a1).bind fun y1 =>
  bif !y1 then
   some ((a0, false, ()))
  else
   (sub a0 (a1.length : Int) (a0.length : Int)).bind fun x2 =>
    some ((x2, true, ()))
noncomputable def F.strings_CutPrefix (n : Nat) (a0 : Z1) (a1 : Z1) : Option ((Z1) × (Bool) × Unit) :=
 (F.stringslite_CutPrefix n a0 a1).bind fun y1 =>
  some ((y1.1, y1.2.1, ()))
noncomputable def F.dec_times (n : Nat) (a0 : Int) (a1 : Int) : Option ((Int) × (Bool) × Unit) :=
 (O.mul64 n a0 (10 : Int)).bind fun y1 =>
  (O.add64 n y1.2.1 a1 (0 : Int)).bind fun y2 =>
   bif y1.1 == (0 : Int) then
    some ((y2.1, y2.2.1 == (0 : Int), ()))
   else
    some ((y2.1, false, ()))
noncomputable def F.dec_Normal.L3.step {X : Type} (n : Nat) (rec : Bool → Int → Int → Bool → Int → Int → Option X) (k0 : Bool → Int → Int → Bool → Int → Int → Option X) (ab0 : Bool) (ab1 : Int) (ab2 : Int) (bb0 : Bool) (bb1 : Int) (bb2 : Int) : Option X :=
 bif (ab1.tmod (10 : Int)) == (0 : Int) then
  bif decide (ab2 < (18 : Int)) then
   rec ab0 (IntKind.wrap .u64 (ab1.tdiv (10 : Int))) (IntKind.wrap .i64 (ab2 + (1 : Int))) bb0 bb1 bb2
  else
   k0 ab0 ab1 ab2 bb0 bb1 bb2
 else
  k0 ab0 ab1 ab2 bb0 bb1 bb2
noncomputable def F.dec_Normal.L3 {X : Type} (n : Nat) (k0 : Bool → Int → Int → Bool → Int → Int → Option X) : Nat → Bool → Int → Int → Bool → Int → Int → Option X
 | 0 => fun _ _ _ _ _ _ => none
 | m + 1 => fun ab0 ab1 ab2 bb0 bb1 bb2 => F.dec_Normal.L3.step n (F.dec_Normal.L3 n k0 m) k0 ab0 ab1 ab2 bb0 bb1 bb2
noncomputable def F.dec_Normal.L5.step {X : Type} (n : Nat) (rec : Bool → Int → Int → Bool → Int → Int → Option X) (k2 : Bool → Int → Int → Bool → Int → Int → Option X) (kr : Int → Bool → Int → Int → Bool → Int → Int → Option X) (ab0 : Bool) (ab1 : Int) (ab2 : Int) (bb0 : Bool) (bb1 : Int) (bb2 : Int) : Option X :=
 bif decide (ab2 > (18 : Int)) then
  (F.dec_times n ab1 (0 : Int)).bind fun y2 =>
   bif !y2.2.1 then
    kr (10 : Int) ab0 ab1 ab2 false (0 : Int) (0 : Int)
   else
    rec ab0 y2.1 (IntKind.wrap .i64 (ab2 - (1 : Int))) bb0 bb1 bb2
 else
  k2 ab0 ab1 ab2 bb0 bb1 bb2
noncomputable def F.dec_Normal.L5 {X : Type} (n : Nat) (k2 : Bool → Int → Int → Bool → Int → Int → Option X) (kr : Int → Bool → Int → Int → Bool → Int → Int → Option X) : Nat → Bool → Int → Int → Bool → Int → Int → Option X
 | 0 => fun _ _ _ _ _ _ => none
 | m + 1 => fun ab0 ab1 ab2 bb0 bb1 bb2 => F.dec_Normal.L5.step n (F.dec_Normal.L5 n k2 kr m) k2 kr ab0 ab1 ab2 bb0 bb1 bb2
noncomputable def F.dec_Normal (n : Nat) (a0 : Z17) : Option ((Z17) × (Int) × Unit) :=
 bif a0.2.1 == (0 : Int) then
  some (((false, (0 : Int), (0 : Int), ()), (0 : Int), ()))
 else
  F.dec_Normal.L3 n
   (fun g0 g1 g2 h0 h1 h2 =>
    F.dec_Normal.L5 n
     (fun g0 g1 g2 h0 h1 h2 =>
      bif decide (g2 < (-18 : Int)) then
       some (((false, (0 : Int), (0 : Int), ()), (10 : Int), ()))
      else
       some (((g0, g1, g2, ()), (0 : Int), ())))
     (fun e3 g0 g1 g2 h0 h1 h2 =>
      some (((h0, h1, h2, ()), e3, ()))) n g0 g1 g2 h0 h1 h2) n a0.1 a0.2.1 a0.2.2.1 false (0 : Int) (0 : Int)
noncomputable def F.dec_Parse.L14.step {X : Type} (n : Nat) (rec : Z1 → Int → Int → Bool → Int → Int → Int → Int → Int → Int → Bool → Int → Int → Option X) (k0 : Bool → Int → Int → Int → Int → Int → Int → Bool → Int → Int → Option X) (v10 : Z1) (v66 : Int) (v67 : Int) (ab0 : Bool) (ab1 : Int) (ab2 : Int) (bb0 : Int) (bb1 : Int) (cb0 : Int) (cb1 : Int) (db0 : Bool) (db1 : Int) (db2 : Int) : Option X :=
 bif decide (v67 < v66) then
  (idx v10 v67).bind fun x7 =>
   (F.dec_times n db1 (IntKind.wrap .u64 (IntKind.wrap .u8 (((x7).toNat) - (48 : Int))))).bind fun y8 =>
    bif !y8.2.1 then
     k0 ab0 ab1 ab2 bb0 bb1 cb0 cb1 db0 (1 : Int) (-19 : Int)
    else
     rec v10 v66 (IntKind.wrap .i64 (v67 + (1 : Int))) ab0 ab1 ab2 bb0 bb1 cb0 cb1 db0 y8.1 db2
 else
  k0 ab0 ab1 ab2 bb0 bb1 cb0 cb1 db0 db1 db2
noncomputable def F.dec_Parse.L14 {X : Type} (n : Nat) (k0 : Bool → Int → Int → Int → Int → Int → Int → Bool → Int → Int → Option X) : Nat → Z1 → Int → Int → Bool → Int → Int → Int → Int → Int → Int → Bool → Int → Int → Option X
 | 0 => fun _ _ _ _ _ _ _ _ _ _ _ _ _ => none
 | m + 1 => fun v10 v66 v67 ab0 ab1 ab2 bb0 bb1 cb0 cb1 db0 db1 db2 => F.dec_Parse.L14.step n (F.dec_Parse.L14 n k0 m) k0 v10 v66 v67 ab0 ab1 ab2 bb0 bb1 cb0 cb1 db0 db1 db2
noncomputable def F.dec_Parse (n : Nat) (a0 : Z1) : Option ((Z17) × (Z15) × Unit) :=
 (F.dec_look n a0).bind fun y1 =>
  bif !((y1.1 == (0 : Int)) && (y1.2.1 == (0 : Int))) then
   some (((false, (0 : Int), (0 : Int), ()), (y1.1, y1.2.1, ()), ()))
  else
   (F.strings_CutPrefix n a0 ([45])).bind fun y2 =>
    (F.strings_Cut n y2.1 ([46])).bind fun y3 =>
     (O.trimR n y3.2.1 ([48])).bind fun y4 =>
      bif decide (y3.1.length + y4.length ≤ strMax) then
       (O.trimL n (y3.1 ++ y4) ([48])).bind fun y5 =>
        (O.trimR n y5 ([48])).bind fun y6 =>
         bif (IntKind.wrap .i64 (0 - (y4.length : Int))) == (0 : Int) then
          bif decide ((y6.length : Int) < (y5.length : Int)) then
           F.dec_Parse.L14 n
            (fun g0 g1 g2 h0 h1 i0 i1 j0 j1 j2 =>
             (F.dec_Normal n (j0, j1, j2, ())).bind fun y10 =>
              bif !(y10.2.1 == (0 : Int)) then
               some (((false, (0 : Int), (0 : Int), ()), (y10.2.1, (0 : Int), ()), ()))
              else
               some (((y10.1.1, y10.1.2.1, y10.1.2.2.1, ()), ((0 : Int), (0 : Int), ()), ()))) n y6 (y6.length : Int) (0 : Int) false (0 : Int) (0 : Int) (0 : Int) (0 : Int) y1.1 y1.2.1 y2.2.1 (0 : Int) (IntKind.wrap .i64 ((y5.length : Int) - (y6.length : Int)))
          else
           F.dec_Parse.L14 n
            (fun g0 g1 g2 h0 h1 i0 i1 j0 j1 j2 =>
             (F.dec_Normal n (j0, j1, j2, ())).bind fun y12 =>
              bif !(y12.2.1 == (0 : Int)) then
               some (((false, (0 : Int), (0 : Int), ()), (y12.2.1, (0 : Int), ()), ()))
              else
               some (((y12.1.1, y12.1.2.1, y12.1.2.2.1, ()), ((0 : Int), (0 : Int), ()), ()))) n y5 (y5.length : Int) (0 : Int) false (0 : Int) (0 : Int) (0 : Int) (0 : Int) y1.1 y1.2.1 y2.2.1 (0 : Int) (IntKind.wrap .i64 (0 - (y4.length : Int)))
         else
          F.dec_Parse.L14 n
           (fun g0 g1 g2 h0 h1 i0 i1 j0 j1 j2 =>
            (F.dec_Normal n (j0, j1, j2, ())).bind fun y14 =>
             bif !(y14.2.1 == (0 : Int)) then
              some (((false, (0 : Int), (0 : Int), ()), (y14.2.1, (0 : Int), ()), ()))
             else
              some (((y14.1.1, y14.1.2.1, y14.1.2.2.1, ()), ((0 : Int), (0 : Int), ()), ()))) n y5 (y5.length : Int) (0 : Int) false (0 : Int) (0 : Int) (0 : Int) (0 : Int) y1.1 y1.2.1 y2.2.1 (0 : Int) (IntKind.wrap .i64 (0 - (y4.length : Int)))
      else
       none
noncomputable def F.statsd_Kind.L2.step {X : Type} (n : Nat) (rec : Z1 → Int → Option X) (k0 : Unit → Option X) (kr : Int → Int → Option X) (v0 : Z1) (v4 : Int) : Option X :=
 bif decide (v4 ≤ (5 : Int)) then
  (O.word n v4).bind fun y1 =>
   bif y1.2.1 == (0 : Int) then
    bif y1.1 == v0 then
     kr v4 (0 : Int)
    else
     rec v0 (IntKind.wrap .i64 (v4 + (1 : Int)))
   else
    rec v0 (IntKind.wrap .i64 (v4 + (1 : Int)))
 else
  k0 ()
noncomputable def F.statsd_Kind.L2 {X : Type} (n : Nat) (k0 : Unit → Option X) (kr : Int → Int → Option X) : Nat → Z1 → Int → Option X
 | 0 => fun _ _ => none
 | m + 1 => fun v0 v4 => F.statsd_Kind.L2.step n (F.statsd_Kind.L2 n k0 kr m) k0 kr v0 v4
noncomputable def F.statsd_Kind (n : Nat) (a0 : Z1) : Option ((Int) × (Int) × Unit) :=
 F.statsd_Kind.L2 n
  (fun (_ : Unit) =>
   some (((0 : Int), (16 : Int), ())))
  (fun e2 e3 =>
   some ((e2, e3, ()))) n a0 (1 : Int)
noncomputable def F.num_fault (n : Nat) (a0 : Int) (a1 : Int) : Option ((Int) × (Z15) × Unit) :=
 some (((0 : Int), (a0, a1, ()), ()))
noncomputable def F.num_Rate.L5.step {X : Type} (n : Nat) (rec : Z1 → Z15 → Int → Int → Int → Int → Int → Option X) (k0 : Z1 → Int → Int → Int → Int → Option X) (v0 : Z1) (v16 : Z15) (v17 : Int) (ab0 : Int) (ab1 : Int) (bb0 : Int) (bb1 : Int) : Option X :=
 bif decide (v17 < (2 : Int)) then
  bif v17 == (0 : Int) then
   bif v17 == (v0.length : Int) then
    bif v17 == (0 : Int) then
     k0 v0 ab0 ab1 (13 : Int) (0 : Int)
    else
    bif decide (v17 ≥ (v0.length : Int)) then
     k0 v0 ab0 ab1 (11 : Int) v17
    else
     (idx v0 v17).bind fun x1 =>
      bif !(((x1).toNat) == v16.1) then
       k0 v0 ab0 ab1 (11 : Int) v17
      else
       rec v0 (v16.1, v16.2.1, ()) (IntKind.wrap .i64 (v17 + (1 : Int))) ab0 ab1 bb0 bb1
   else
   bif decide (v17 ≥ (v0.length : Int)) then
    k0 v0 ab0 ab1 (11 : Int) v17
   else
    (idx v0 v17).bind fun x2 =>
     bif !(((x2).toNat) == v16.1) then
      k0 v0 ab0 ab1 (11 : Int) v17
     else
      rec v0 (v16.1, v16.2.1, ()) (IntKind.wrap .i64 (v17 + (1 : Int))) ab0 ab1 bb0 bb1
  else
  bif v17 == (1 : Int) then
   bif v17 == (v0.length : Int) then
    bif v17 == (0 : Int) then
     k0 v0 ab0 ab1 (13 : Int) (0 : Int)
    else
    bif decide (v17 ≥ (v0.length : Int)) then
     k0 v0 ab0 ab1 (11 : Int) v17
    else
     (idx v0 v17).bind fun x3 =>
      bif !(((x3).toNat) == v16.2.1) then
       k0 v0 ab0 ab1 (11 : Int) v17
      else
       rec v0 (v16.1, v16.2.1, ()) (IntKind.wrap .i64 (v17 + (1 : Int))) ab0 ab1 bb0 bb1
   else
   bif decide (v17 ≥ (v0.length : Int)) then
    k0 v0 ab0 ab1 (11 : Int) v17
   else
    (idx v0 v17).bind fun x4 =>
     bif !(((x4).toNat) == v16.2.1) then
      k0 v0 ab0 ab1 (11 : Int) v17
     else
      rec v0 (v16.1, v16.2.1, ()) (IntKind.wrap .i64 (v17 + (1 : Int))) ab0 ab1 bb0 bb1
  else
   none
 else
  k0 v0 ab0 ab1 bb0 bb1
noncomputable def F.num_Rate.L5 {X : Type} (n : Nat) (k0 : Z1 → Int → Int → Int → Int → Option X) : Nat → Z1 → Z15 → Int → Int → Int → Int → Int → Option X
 | 0 => fun _ _ _ _ _ _ _ => none
 | m + 1 => fun v0 v16 v17 ab0 ab1 bb0 bb1 => F.num_Rate.L5.step n (F.num_Rate.L5 n k0 m) k0 v0 v16 v17 ab0 ab1 bb0 bb1
noncomputable def F.num_Rate.L23.step {X : Type} (n : Nat) (rec : Z1 → Int → Int → Int → Int → Int → Int → Int → Int → Option X) (k3 : Int → Int → Int → Int → Int → Int → Int → Option X) (v7 : Z1) (v81 : Int) (ab0 : Int) (ab1 : Int) (bb0 : Int) (bb1 : Int) (cb0 : Int) (cb1 : Int) (db0 : Int) : Option X :=
 bif decide (v81 < (6 : Int)) then
  bif decide (v81 < (v7.length : Int)) then
   (idx v7 v81).bind fun x11 =>
    rec v7 (IntKind.wrap .i64 (v81 + (1 : Int))) ab0 ab1 bb0 bb1 cb0 cb1 (IntKind.wrap .i64 ((IntKind.wrap .i64 ((10 : Int) * db0)) + (IntKind.wrap .i64 (IntKind.wrap .u8 (((x11).toNat) - (48 : Int))))))
  else
   rec v7 (IntKind.wrap .i64 (v81 + (1 : Int))) ab0 ab1 bb0 bb1 cb0 cb1 (IntKind.wrap .i64 ((IntKind.wrap .i64 ((10 : Int) * db0)) + (0 : Int)))
 else
  k3 ab0 ab1 bb0 bb1 cb0 cb1 db0
noncomputable def F.num_Rate.L23 {X : Type} (n : Nat) (k3 : Int → Int → Int → Int → Int → Int → Int → Option X) : Nat → Z1 → Int → Int → Int → Int → Int → Int → Int → Int → Option X
 | 0 => fun _ _ _ _ _ _ _ _ _ => none
 | m + 1 => fun v7 v81 ab0 ab1 bb0 bb1 cb0 cb1 db0 => F.num_Rate.L23.step n (F.num_Rate.L23 n k3 m) k3 v7 v81 ab0 ab1 bb0 bb1 cb0 cb1 db0
noncomputable def F.num_Rate (n : Nat) (a0 : Z1) : Option ((Int) × (Z15) × Unit) :=
 bif a0 == ([49]) then
  some (((1000000 : Int), ((0 : Int), (0 : Int), ()), ()))
 else
  F.num_Rate.L5 n
   (fun e0 g0 g1 h0 h1 =>
    bif !((h0 == (0 : Int)) && (h1 == (0 : Int))) then
     (F.num_fault n h0 h1).bind fun y6 =>
      some ((y6.1, (y6.2.1.1, y6.2.1.2.1, ()), ()))
    else
     (sub e0 (2 : Int) (e0.length : Int)).bind fun x7 =>
      (F.class_Text n (4 : Int) x7 (1 : Int) (IntKind.wrap .i64 ((x7.length : Int) + (1 : Int)))).bind fun y8 =>
       bif !((y8.1 == (0 : Int)) && (y8.2.1 == (0 : Int))) then
        (F.num_fault n y8.1 (IntKind.wrap .i64 ((2 : Int) + y8.2.1))).bind fun y9 =>
         some ((y9.1, (y9.2.1.1, y9.2.1.2.1, ()), ()))
       else
       bif decide ((x7.length : Int) > (6 : Int)) then
        (F.num_fault n (12 : Int) (8 : Int)).bind fun y10 =>
         some ((y10.1, (y10.2.1.1, y10.2.1.2.1, ()), ()))
       else
        F.num_Rate.L23 n
         (fun g0 g1 h0 h1 i0 i1 j0 =>
          bif j0 == (0 : Int) then
           (F.num_fault n (10 : Int) (0 : Int)).bind fun y13 =>
            some ((y13.1, (y13.2.1.1, y13.2.1.2.1, ()), ()))
          else
           some ((j0, ((0 : Int), (0 : Int), ()), ()))) n x7 (0 : Int) g0 g1 h0 h1 y8.1 y8.2.1 (0 : Int)) n a0 ((48 : Int), (46 : Int), ()) (0 : Int) (0 : Int) (0 : Int) (0 : Int) (0 : Int)
noncomputable def F.statsd_Parse.C30 {X : Type} (n : Nat) (kr : Z1 → Z1 → Int → Z3 → Int → Z5 → Int → Int → Int → Option X) (kn : Bool → Z1 → Z1 → Int → Z3 → Int → Z5 → Int → Int → Int → Int → Z1 → Int → Z3 → Int → Z5 → Int → Nat → Nat → Nat → Nat → Option X) (c9 : Bool) (c19 : Int) (c141 : Bool) (ab0 : Z1) (bb0 : Z1) (bb1 : Int) (bb2 : Z3) (bb3 : Int) (bb4 : Z5) (bb5 : Int) (cb0 : Int) (cb1 : Int) (db0 : Int) (hb0 : Z1) (hb1 : Int) (hb2 : Z3) (hb3 : Int) (hb4 : Z5) (hb5 : Int) (ck0 : Nat) (ck1 : Nat) (ck2 : Nat) (ck3 : Nat) : Option X :=
 bif c141 then
  (F.statsd_fault n (18 : Int) c19).bind fun y24 =>
   kr ab0 y24.1.1 y24.1.2.1 y24.1.2.2.1 y24.1.2.2.2.1 y24.1.2.2.2.2.1 y24.1.2.2.2.2.2.1 y24.2.1.1 y24.2.1.2.1
 else
  kn c9 ab0 bb0 bb1 bb2 bb3 bb4 bb5 cb0 cb1 db0 hb0 hb1 hb2 hb3 hb4 hb5 ck0 ck1 ck2 ck3
noncomputable def F.statsd_Parse.C31 {X : Type} (n : Nat) (kr : Z1 → Z1 → Int → Z3 → Int → Z5 → Int → Int → Int → Option X) (c9 : Bool) (ab0 : Z1) (bb0 : Z1) (bb1 : Int) (bb2 : Z3) (bb3 : Int) (bb4 : Z5) (bb5 : Int) (cb0 : Int) (cb1 : Int) (db0 : Int) (hb0 : Z1) (hb1 : Int) (hb2 : Z3) (hb3 : Int) (hb4 : Z5) (hb5 : Int) (ck0 : Nat) (ck1 : Nat) (ck2 : Nat) (ck3 : Nat) : Option X :=
 bif c9 then
  (F.statsd_fault n (11 : Int) (IntKind.wrap .i64 (db0 - (1 : Int)))).bind fun y28 =>
   kr ab0 y28.1.1 y28.1.2.1 y28.1.2.2.1 y28.1.2.2.2.1 y28.1.2.2.2.2.1 y28.1.2.2.2.2.2.1 y28.2.1.1 y28.2.1.2.1
 else
  kr ab0 hb0 hb1 hb2 hb3 hb4 hb5 (0 : Int) (0 : Int)
noncomputable def F.statsd_Parse.C28 {X : Type} (n : Nat) (kr : Z1 → Z1 → Int → Z3 → Int → Z5 → Int → Int → Int → Option X) (c9 : Bool) (c16 : Int) (c18 : Z1) (c19 : Int) (ab0 : Z1) (bb0 : Z1) (bb1 : Int) (bb2 : Z3) (bb3 : Int) (bb4 : Z5) (bb5 : Int) (cb0 : Int) (cb1 : Int) (db0 : Int) (hb0 : Z1) (hb1 : Int) (hb2 : Z3) (hb3 : Int) (hb4 : Z5) (hb5 : Int) (ib0 : Bool) (ib1 : Int) (ib2 : Int) (jb0 : Int) (jb1 : Int) (ck0 : Nat) (ck1 : Nat) (ck2 : Nat) (ck3 : Nat) : Option X :=
 (F.num_Rate n c18).bind fun y36 =>
  bif !((y36.2.1.1 == (0 : Int)) && (y36.2.1.2.1 == (0 : Int))) then
   F.statsd_Parse.C30 n
    (fun g0 h0 h1 h2 h3 h4 h5 i0 i1 =>
     kr g0 h0 h1 h2 h3 h4 h5 i0 i1)
    (fun e9 g0 h0 h1 h2 h3 h4 h5 i0 i1 j0 l0 l1 l2 l3 l4 l5 ek0 ek1 ek2 ek3 =>
     F.statsd_Parse.C31 n
      (fun g0 h0 h1 h2 h3 h4 h5 i0 i1 =>
       kr g0 h0 h1 h2 h3 h4 h5 i0 i1) e9 g0 h0 h1 h2 h3 h4 h5 i0 i1 j0 l0 l1 l2 l3 l4 l5 ek0 ek1 ek2 ek3) c9 c19 true ab0 bb0 bb1 bb2 bb3 bb4 bb5 cb0 cb1 db0 hb0 hb1 hb2 y36.1 hb4 hb5 ck0 ck1 ck2 ck3
  else
  bif c16 == (2 : Int) then
   F.statsd_Parse.C30 n
    (fun g0 h0 h1 h2 h3 h4 h5 i0 i1 =>
     kr g0 h0 h1 h2 h3 h4 h5 i0 i1)
    (fun e9 g0 h0 h1 h2 h3 h4 h5 i0 i1 j0 l0 l1 l2 l3 l4 l5 ek0 ek1 ek2 ek3 =>
     F.statsd_Parse.C31 n
      (fun g0 h0 h1 h2 h3 h4 h5 i0 i1 =>
       kr g0 h0 h1 h2 h3 h4 h5 i0 i1) e9 g0 h0 h1 h2 h3 h4 h5 i0 i1 j0 l0 l1 l2 l3 l4 l5 ek0 ek1 ek2 ek3) c9 c19 (!(y36.1 == (1000000 : Int))) ab0 bb0 bb1 bb2 bb3 bb4 bb5 cb0 cb1 db0 hb0 hb1 hb2 y36.1 hb4 hb5 ck0 ck1 ck2 ck3
  else
   F.statsd_Parse.C30 n
    (fun g0 h0 h1 h2 h3 h4 h5 i0 i1 =>
     kr g0 h0 h1 h2 h3 h4 h5 i0 i1)
    (fun e9 g0 h0 h1 h2 h3 h4 h5 i0 i1 j0 l0 l1 l2 l3 l4 l5 ek0 ek1 ek2 ek3 =>
     F.statsd_Parse.C31 n
      (fun g0 h0 h1 h2 h3 h4 h5 i0 i1 =>
       kr g0 h0 h1 h2 h3 h4 h5 i0 i1) e9 g0 h0 h1 h2 h3 h4 h5 i0 i1 j0 l0 l1 l2 l3 l4 l5 ek0 ek1 ek2 ek3) c9 c19 false ab0 bb0 bb1 bb2 bb3 bb4 bb5 cb0 cb1 db0 hb0 hb1 hb2 y36.1 hb4 hb5 ck0 ck1 ck2 ck3
noncomputable def F.statsd_Parse.C21 {X : Type} (n : Nat) (kr : Z1 → Z1 → Int → Z3 → Int → Z5 → Int → Int → Int → Option X) (c7 : Z1) (c9 : Bool) (c16 : Int) (ab0 : Z1) (bb0 : Z1) (bb1 : Int) (bb2 : Z3) (bb3 : Int) (bb4 : Z5) (bb5 : Int) (cb0 : Int) (cb1 : Int) (db0 : Int) (hb0 : Z1) (hb1 : Int) (hb2 : Z3) (hb3 : Int) (hb4 : Z5) (hb5 : Int) (ib0 : Bool) (ib1 : Int) (ib2 : Int) (jb0 : Int) (jb1 : Int) (ck0 : Nat) (ck1 : Nat) (ck2 : Nat) (ck3 : Nat) : Option X :=
 bif !c9 then
  kr ab0 c7 c16 ([(ib0, ib1, ib2)]) hb3 hb4 hb5 (0 : Int) (0 : Int)
 else
  (sub ab0 db0 (ab0.length : Int)).bind fun x48 =>
   (F.strings_HasPrefix n x48 ([64])).bind fun y49 =>
    bif !y49 then
     (F.statsd_fault n (11 : Int) db0).bind fun y50 =>
      kr ab0 y50.1.1 y50.1.2.1 y50.1.2.2.1 y50.1.2.2.2.1 y50.1.2.2.2.2.1 y50.1.2.2.2.2.2.1 y50.2.1.1 y50.2.1.2.1
    else
     (sub ab0 (IntKind.wrap .i64 (db0 + (1 : Int))) (ab0.length : Int)).bind fun x51 =>
      (F.strings_Cut n x51 ([124])).bind fun y52 =>
       bif y52.2.2.1 then
        F.statsd_Parse.C28 n
         (fun g0 h0 h1 h2 h3 h4 h5 i0 i1 =>
          kr g0 h0 h1 h2 h3 h4 h5 i0 i1) y52.2.2.1 c16 y52.1 (IntKind.wrap .i64 (db0 + (1 : Int))) ab0 bb0 bb1 bb2 bb3 bb4 bb5 cb0 cb1 (IntKind.wrap .i64 ((IntKind.wrap .i64 ((IntKind.wrap .i64 (db0 + (1 : Int))) + (y52.1.length : Int))) + (1 : Int))) c7 c16 ([(ib0, ib1, ib2)]) hb3 hb4 hb5 ib0 ib1 ib2 jb0 jb1 ck0 ck1 1 ck3
       else
        F.statsd_Parse.C28 n
         (fun g0 h0 h1 h2 h3 h4 h5 i0 i1 =>
          kr g0 h0 h1 h2 h3 h4 h5 i0 i1) y52.2.2.1 c16 y52.1 (IntKind.wrap .i64 (db0 + (1 : Int))) ab0 bb0 bb1 bb2 bb3 bb4 bb5 cb0 cb1 (IntKind.wrap .i64 ((IntKind.wrap .i64 (db0 + (1 : Int))) + (y52.1.length : Int))) c7 c16 ([(ib0, ib1, ib2)]) hb3 hb4 hb5 ib0 ib1 ib2 jb0 jb1 ck0 ck1 1 ck3
noncomputable def F.statsd_Parse.C16 {X : Type} (n : Nat) (kr : Z1 → Z1 → Int → Z3 → Int → Z5 → Int → Int → Int → Option X) (c7 : Z1) (c9 : Bool) (c10 : Z1) (c11 : Int) (c14 : Z1) (c15 : Int) (ab0 : Z1) (bb0 : Z1) (bb1 : Int) (bb2 : Z3) (bb3 : Int) (bb4 : Z5) (bb5 : Int) (cb0 : Int) (cb1 : Int) (db0 : Int) (hb0 : Z1) (hb1 : Int) (hb2 : Z3) (hb3 : Int) (hb4 : Z5) (hb5 : Int) (ib0 : Bool) (ib1 : Int) (ib2 : Int) (jb0 : Int) (jb1 : Int) (ck0 : Nat) (ck1 : Nat) (ck2 : Nat) (ck3 : Nat) : Option X :=
 (F.statsd_Kind n c14).bind fun y57 =>
  bif !(y57.2.1 == (0 : Int)) then
   (F.statsd_fault n (16 : Int) c15).bind fun y58 =>
    kr ab0 y58.1.1 y58.1.2.1 y58.1.2.2.1 y58.1.2.2.2.1 y58.1.2.2.2.2.1 y58.1.2.2.2.2.2.1 y58.2.1.1 y58.2.1.2.1
  else
  bif y57.1 == (2 : Int) then
   (F.strings_HasPrefix n c10 ([45])).bind fun y59 =>
    bif y59 then
     (F.statsd_fault n (26 : Int) c11).bind fun y60 =>
      kr ab0 y60.1.1 y60.1.2.1 y60.1.2.2.1 y60.1.2.2.2.1 y60.1.2.2.2.2.1 y60.1.2.2.2.2.2.1 y60.2.1.1 y60.2.1.2.1
    else
     F.statsd_Parse.C21 n
      (fun g0 h0 h1 h2 h3 h4 h5 i0 i1 =>
       kr g0 h0 h1 h2 h3 h4 h5 i0 i1) c7 c9 y57.1 ab0 bb0 bb1 bb2 bb3 bb4 bb5 cb0 cb1 db0 hb0 hb1 hb2 hb3 hb4 hb5 ib0 ib1 ib2 jb0 jb1 ck0 ck1 ck2 ck3
  else
   F.statsd_Parse.C21 n
    (fun g0 h0 h1 h2 h3 h4 h5 i0 i1 =>
     kr g0 h0 h1 h2 h3 h4 h5 i0 i1) c7 c9 y57.1 ab0 bb0 bb1 bb2 bb3 bb4 bb5 cb0 cb1 db0 hb0 hb1 hb2 hb3 hb4 hb5 ib0 ib1 ib2 jb0 jb1 ck0 ck1 ck2 ck3
noncomputable def F.statsd_Parse.C10 {X : Type} (n : Nat) (kr : Z1 → Z1 → Int → Z3 → Int → Z5 → Int → Int → Int → Option X) (c7 : Z1) (c9 : Bool) (c10 : Z1) (c11 : Int) (ab0 : Z1) (bb0 : Z1) (bb1 : Int) (bb2 : Z3) (bb3 : Int) (bb4 : Z5) (bb5 : Int) (cb0 : Int) (cb1 : Int) (db0 : Int) (hb0 : Z1) (hb1 : Int) (hb2 : Z3) (hb3 : Int) (hb4 : Z5) (hb5 : Int) (ck0 : Nat) (ck1 : Nat) (ck2 : Nat) (ck3 : Nat) : Option X :=
 (F.dec_Parse n c10).bind fun y65 =>
  bif !((y65.2.1.1 == (0 : Int)) && (y65.2.1.2.1 == (0 : Int))) then
   (F.statsd_fault n (17 : Int) c11).bind fun y66 =>
    kr ab0 y66.1.1 y66.1.2.1 y66.1.2.2.1 y66.1.2.2.2.1 y66.1.2.2.2.2.1 y66.1.2.2.2.2.2.1 y66.2.1.1 y66.2.1.2.1
  else
  bif !c9 then
   (F.statsd_fault n (11 : Int) (ab0.length : Int)).bind fun y67 =>
    kr ab0 y67.1.1 y67.1.2.1 y67.1.2.2.1 y67.1.2.2.2.1 y67.1.2.2.2.2.1 y67.1.2.2.2.2.2.1 y67.2.1.1 y67.2.1.2.1
  else
   (sub ab0 db0 (ab0.length : Int)).bind fun x68 =>
    (F.strings_Cut n x68 ([124])).bind fun y69 =>
     bif y69.2.2.1 then
      F.statsd_Parse.C16 n
       (fun g0 h0 h1 h2 h3 h4 h5 i0 i1 =>
        kr g0 h0 h1 h2 h3 h4 h5 i0 i1) c7 y69.2.2.1 c10 c11 y69.1 db0 ab0 bb0 bb1 bb2 bb3 bb4 bb5 cb0 cb1 (IntKind.wrap .i64 ((IntKind.wrap .i64 (db0 + (y69.1.length : Int))) + (1 : Int))) hb0 hb1 hb2 hb3 hb4 hb5 y65.1.1 y65.1.2.1 y65.1.2.2.1 y65.2.1.1 y65.2.1.2.1 ck0 ck1 ck2 ck3
     else
      F.statsd_Parse.C16 n
       (fun g0 h0 h1 h2 h3 h4 h5 i0 i1 =>
        kr g0 h0 h1 h2 h3 h4 h5 i0 i1) c7 y69.2.2.1 c10 c11 y69.1 db0 ab0 bb0 bb1 bb2 bb3 bb4 bb5 cb0 cb1 (IntKind.wrap .i64 (db0 + (y69.1.length : Int))) hb0 hb1 hb2 hb3 hb4 hb5 y65.1.1 y65.1.2.1 y65.1.2.2.1 y65.2.1.1 y65.2.1.2.1 ck0 ck1 ck2 ck3
noncomputable def F.statsd_Parse.C5 {X : Type} (n : Nat) (kr : Z1 → Z1 → Int → Z3 → Int → Z5 → Int → Int → Int → Option X) (c7 : Z1) (c9 : Bool) (ab0 : Z1) (bb0 : Z1) (bb1 : Int) (bb2 : Z3) (bb3 : Int) (bb4 : Z5) (bb5 : Int) (cb0 : Int) (cb1 : Int) (db0 : Int) (hb0 : Z1) (hb1 : Int) (hb2 : Z3) (hb3 : Int) (hb4 : Z5) (hb5 : Int) (ck0 : Nat) (ck1 : Nat) (ck2 : Nat) (ck3 : Nat) : Option X :=
 (F.class_Text n (1 : Int) c7 (1 : Int) (200 : Int)).bind fun y74 =>
  bif !((y74.1 == (0 : Int)) && (y74.2.1 == (0 : Int))) then
   (F.statsd_fault n (15 : Int) (0 : Int)).bind fun y75 =>
    kr ab0 y75.1.1 y75.1.2.1 y75.1.2.2.1 y75.1.2.2.2.1 y75.1.2.2.2.2.1 y75.1.2.2.2.2.2.1 y75.2.1.1 y75.2.1.2.1
  else
  bif !c9 then
   (F.statsd_fault n (11 : Int) (ab0.length : Int)).bind fun y76 =>
    kr ab0 y76.1.1 y76.1.2.1 y76.1.2.2.1 y76.1.2.2.2.1 y76.1.2.2.2.2.1 y76.1.2.2.2.2.2.1 y76.2.1.1 y76.2.1.2.1
  else
   (sub ab0 db0 (ab0.length : Int)).bind fun x77 =>
    (F.strings_Cut n x77 ([124])).bind fun y78 =>
     bif y78.2.2.1 then
      F.statsd_Parse.C10 n
       (fun g0 h0 h1 h2 h3 h4 h5 i0 i1 =>
        kr g0 h0 h1 h2 h3 h4 h5 i0 i1) c7 y78.2.2.1 y78.1 db0 ab0 bb0 bb1 bb2 bb3 bb4 bb5 cb0 cb1 (IntKind.wrap .i64 ((IntKind.wrap .i64 (db0 + (y78.1.length : Int))) + (1 : Int))) hb0 hb1 hb2 hb3 hb4 hb5 ck0 ck1 ck2 ck3
     else
      F.statsd_Parse.C10 n
       (fun g0 h0 h1 h2 h3 h4 h5 i0 i1 =>
        kr g0 h0 h1 h2 h3 h4 h5 i0 i1) c7 y78.2.2.1 y78.1 db0 ab0 bb0 bb1 bb2 bb3 bb4 bb5 cb0 cb1 (IntKind.wrap .i64 (db0 + (y78.1.length : Int))) hb0 hb1 hb2 hb3 hb4 hb5 ck0 ck1 ck2 ck3
noncomputable def F.statsd_Parse (n : Nat) (a0 : Z1) : Option ((Z16) × (Z15) × Unit) :=
 (sub a0 (0 : Int) (a0.length : Int)).bind fun x1 =>
  (F.strings_Cut n x1 ([58])).bind fun y2 =>
   bif y2.2.2.1 then
    F.statsd_Parse.C5 n
     (fun g0 h0 h1 h2 h3 h4 h5 i0 i1 =>
      some (((h0, h1, h2, h3, h4, h5, ()), (i0, i1, ()), ()))) y2.1 y2.2.2.1 a0 [] (0 : Int) [] (0 : Int) [] (0 : Int) (0 : Int) (0 : Int) (IntKind.wrap .i64 ((IntKind.wrap .i64 ((0 : Int) + (y2.1.length : Int))) + (1 : Int))) [] (0 : Int) [] (1000000 : Int) [] (0 : Int) 0 0 0 0
   else
    F.statsd_Parse.C5 n
     (fun g0 h0 h1 h2 h3 h4 h5 i0 i1 =>
      some (((h0, h1, h2, h3, h4, h5, ()), (i0, i1, ()), ()))) y2.1 y2.2.2.1 a0 [] (0 : Int) [] (0 : Int) [] (0 : Int) (0 : Int) (0 : Int) (IntKind.wrap .i64 ((0 : Int) + (y2.1.length : Int))) [] (0 : Int) [] (1000000 : Int) [] (0 : Int) 0 0 0 0
noncomputable def F.slices_Clip_api_Tag_api_Tag (n : Nat) (a0 : Z5) : Option (Z5) :=
 bif (a0.length : Int) == (a0.length : Int) then
  (sub a0 (0 : Int) (a0.length : Int)).bind fun x1 =>
   some (x1)
 else
  none
noncomputable def F.tag_Normal.L5.step {X : Type} (n : Nat) (rec : Z20 → Int → Z20 → Int → Int → Z21 → Z21 → Z21 → Option X) (k0 : Z20 → Int → Z21 → Z21 → Z21 → Option X) (v3 : Z20) (v4 : Int) (v11 : Z20) (v12 : Int) (v13 : Int) (ab0 : Z21) (bb0 : Z21) (cb0 : Z21) : Option X :=
 bif decide (v13 < v12) then
  bif decide (0 ≤ v13) && decide (v13 < ((v11.2 : Nat) : Int)) then
   bif Nat.beq v11.1 cb0.1 then
    (idx cb0.2 v13).bind fun x1 =>
     bif v13 == (0 : Int) then
      bif decide (0 ≤ v4) && decide (v4 < ((v3.2 : Nat) : Int)) then
       bif Nat.beq v3.1 cb0.1 then
        (idx cb0.2 v4).bind fun x2 =>
         rec (v3.1, v3.2) (IntKind.wrap .i64 (v4 + (1 : Int))) (v11.1, v11.2) v12 (IntKind.wrap .i64 (v13 + (1 : Int))) (ab0.1, ab0.2) (bb0.1, bb0.2) (v3.1, upd cb0.2 (Int.toNat v4) (x1.1, x1.2))
       else
        none
      else
       none
     else
     bif decide (0 ≤ (IntKind.wrap .i64 (v4 - (1 : Int)))) && decide ((IntKind.wrap .i64 (v4 - (1 : Int))) < ((v3.2 : Nat) : Int)) then
      bif Nat.beq v3.1 cb0.1 then
       (idx cb0.2 (IntKind.wrap .i64 (v4 - (1 : Int)))).bind fun x3 =>
        bif !((x1.1 == x3.1) && (x1.2 == x3.2)) then
         bif decide (0 ≤ v4) && decide (v4 < ((v3.2 : Nat) : Int)) then
          bif Nat.beq v3.1 cb0.1 then
           (idx cb0.2 v4).bind fun x4 =>
            rec (v3.1, v3.2) (IntKind.wrap .i64 (v4 + (1 : Int))) (v11.1, v11.2) v12 (IntKind.wrap .i64 (v13 + (1 : Int))) (ab0.1, ab0.2) (bb0.1, bb0.2) (v3.1, upd cb0.2 (Int.toNat v4) (x1.1, x1.2))
          else
           none
         else
          none
        else
         rec (v3.1, v3.2) v4 (v11.1, v11.2) v12 (IntKind.wrap .i64 (v13 + (1 : Int))) (ab0.1, ab0.2) (bb0.1, bb0.2) (cb0.1, cb0.2)
      else
       none
     else
      none
   else
    none
  else
   none
 else
  k0 (v3.1, v3.2) v4 (ab0.1, ab0.2) (bb0.1, bb0.2) (cb0.1, cb0.2)
noncomputable def F.tag_Normal.L5 {X : Type} (n : Nat) (k0 : Z20 → Int → Z21 → Z21 → Z21 → Option X) : Nat → Z20 → Int → Z20 → Int → Int → Z21 → Z21 → Z21 → Option X
 | 0 => fun _ _ _ _ _ _ _ _ => none
 | m + 1 => fun v3 v4 v11 v12 v13 ab0 bb0 cb0 => F.tag_Normal.L5.step n (F.tag_Normal.L5 n k0 m) k0 v3 v4 v11 v12 v13 ab0 bb0 cb0
noncomputable def F.tag_Normal (n : Nat) (a0 : Z5) : Option (Z5) :=
 bif List.isEmpty a0 then
  both
   (
    bif Nat.beq (sortTags []).length 0 && Nat.blt 0 strMax then
     F.tag_Normal.L5 n
      (fun e3 e4 g0 h0 i0 =>
       bif Nat.beq e3.1 i0.1 then
        (sub i0.2 (0 : Int) e4).bind fun x6 =>
         (F.slices_Clip_api_Tag_api_Tag n x6).bind fun y7 =>
          some (y7)
       else
        none) n (1, 0) (0 : Int) (1, 0) (0 : Int) (0 : Int) (1, []) (1, []) (1, sortTags [])
    else
     none)
   (
    bif decide ((0 + a0.length) * 32 ≤ 2 ^ 46) && decide (0 < 32 ∧ 32 ≤ 2 ^ 20) then
     bif Nat.beq (sortTags ([] ++ a0)).length (([] ++ a0).length) && Nat.blt (([] ++ a0).length) strMax then
      F.tag_Normal.L5 n
       (fun e3 e4 g0 h0 i0 =>
        bif Nat.beq e3.1 i0.1 then
         (sub i0.2 (0 : Int) e4).bind fun x9 =>
          (F.slices_Clip_api_Tag_api_Tag n x9).bind fun y10 =>
           some (y10)
        else
         none) n (2, ([] ++ a0).length) (0 : Int) (2, ([] ++ a0).length) ((([] ++ a0).length : Nat) : Int) (0 : Int) (1, []) (1, []) (2, sortTags ([] ++ a0))
     else
      none
    else
     none)
 else
 bif decide ((0 + a0.length) * 32 ≤ 2 ^ 46) && decide (0 < 32 ∧ 32 ≤ 2 ^ 20) then
  bif Nat.beq (sortTags ([] ++ a0)).length (([] ++ a0).length) && Nat.blt (([] ++ a0).length) strMax then
   F.tag_Normal.L5 n
    (fun e3 e4 g0 h0 i0 =>
     bif Nat.beq e3.1 i0.1 then
      (sub i0.2 (0 : Int) e4).bind fun x12 =>
       (F.slices_Clip_api_Tag_api_Tag n x12).bind fun y13 =>
        some (y13)
     else
      none) n (2, ([] ++ a0).length) (0 : Int) (2, ([] ++ a0).length) ((([] ++ a0).length : Nat) : Int) (0 : Int) (1, []) (1, []) (2, sortTags ([] ++ a0))
  else
   none
 else
  none
noncomputable def F.dog_words (n : Nat) : Option (Z22) :=
 some (([], [99], [103], [109, 115], [104], [100], ()))
noncomputable def F.dog_Kind.L2.step {X : Type} (n : Nat) (rec : Z1 → Z22 → Int → Option X) (k0 : Unit → Option X) (kr : Int → Int → Option X) (v0 : Z1) (v6 : Z22) (v7 : Int) : Option X :=
 bif decide (v7 < (6 : Int)) then
  bif v7 == (0 : Int) then
   bif !(v6.1 == []) then
    bif v6.1 == v0 then
     kr v7 (0 : Int)
    else
     rec v0 (v6.1, v6.2.1, v6.2.2.1, v6.2.2.2.1, v6.2.2.2.2.1, v6.2.2.2.2.2.1, ()) (IntKind.wrap .i64 (v7 + (1 : Int)))
   else
    rec v0 (v6.1, v6.2.1, v6.2.2.1, v6.2.2.2.1, v6.2.2.2.2.1, v6.2.2.2.2.2.1, ()) (IntKind.wrap .i64 (v7 + (1 : Int)))
  else
  bif v7 == (1 : Int) then
   bif !(v6.2.1 == []) then
    bif v6.2.1 == v0 then
     kr v7 (0 : Int)
    else
     rec v0 (v6.1, v6.2.1, v6.2.2.1, v6.2.2.2.1, v6.2.2.2.2.1, v6.2.2.2.2.2.1, ()) (IntKind.wrap .i64 (v7 + (1 : Int)))
   else
    rec v0 (v6.1, v6.2.1, v6.2.2.1, v6.2.2.2.1, v6.2.2.2.2.1, v6.2.2.2.2.2.1, ()) (IntKind.wrap .i64 (v7 + (1 : Int)))
  else
  bif v7 == (2 : Int) then
   bif !(v6.2.2.1 == []) then
    bif v6.2.2.1 == v0 then
     kr v7 (0 : Int)
    else
     rec v0 (v6.1, v6.2.1, v6.2.2.1, v6.2.2.2.1, v6.2.2.2.2.1, v6.2.2.2.2.2.1, ()) (IntKind.wrap .i64 (v7 + (1 : Int)))
   else
    rec v0 (v6.1, v6.2.1, v6.2.2.1, v6.2.2.2.1, v6.2.2.2.2.1, v6.2.2.2.2.2.1, ()) (IntKind.wrap .i64 (v7 + (1 : Int)))
  else
  bif v7 == (3 : Int) then
   bif !(v6.2.2.2.1 == []) then
    bif v6.2.2.2.1 == v0 then
     kr v7 (0 : Int)
    else
     rec v0 (v6.1, v6.2.1, v6.2.2.1, v6.2.2.2.1, v6.2.2.2.2.1, v6.2.2.2.2.2.1, ()) (IntKind.wrap .i64 (v7 + (1 : Int)))
   else
    rec v0 (v6.1, v6.2.1, v6.2.2.1, v6.2.2.2.1, v6.2.2.2.2.1, v6.2.2.2.2.2.1, ()) (IntKind.wrap .i64 (v7 + (1 : Int)))
  else
  bif v7 == (4 : Int) then
   bif !(v6.2.2.2.2.1 == []) then
    bif v6.2.2.2.2.1 == v0 then
     kr v7 (0 : Int)
    else
     rec v0 (v6.1, v6.2.1, v6.2.2.1, v6.2.2.2.1, v6.2.2.2.2.1, v6.2.2.2.2.2.1, ()) (IntKind.wrap .i64 (v7 + (1 : Int)))
   else
    rec v0 (v6.1, v6.2.1, v6.2.2.1, v6.2.2.2.1, v6.2.2.2.2.1, v6.2.2.2.2.2.1, ()) (IntKind.wrap .i64 (v7 + (1 : Int)))
  else
  bif v7 == (5 : Int) then
   bif !(v6.2.2.2.2.2.1 == []) then
    bif v6.2.2.2.2.2.1 == v0 then
     kr v7 (0 : Int)
    else
     rec v0 (v6.1, v6.2.1, v6.2.2.1, v6.2.2.2.1, v6.2.2.2.2.1, v6.2.2.2.2.2.1, ()) (IntKind.wrap .i64 (v7 + (1 : Int)))
   else
    rec v0 (v6.1, v6.2.1, v6.2.2.1, v6.2.2.2.1, v6.2.2.2.2.1, v6.2.2.2.2.2.1, ()) (IntKind.wrap .i64 (v7 + (1 : Int)))
  else
   none
 else
  k0 ()
noncomputable def F.dog_Kind.L2 {X : Type} (n : Nat) (k0 : Unit → Option X) (kr : Int → Int → Option X) : Nat → Z1 → Z22 → Int → Option X
 | 0 => fun _ _ _ => none
 | m + 1 => fun v0 v6 v7 => F.dog_Kind.L2.step n (F.dog_Kind.L2 n k0 kr m) k0 kr v0 v6 v7
noncomputable def F.dog_Kind (n : Nat) (a0 : Z1) : Option ((Int) × (Int) × Unit) :=
 (F.dog_words n ).bind fun y1 =>
  F.dog_Kind.L2 n
   (fun (_ : Unit) =>
    some (((0 : Int), (16 : Int), ())))
   (fun e2 e3 =>
    some ((e2, e3, ()))) n a0 (y1.1, y1.2.1, y1.2.2.1, y1.2.2.2.1, y1.2.2.2.2.1, y1.2.2.2.2.2.1, ()) (0 : Int)
noncomputable def F.num_Parse (n : Nat) (a0 : Z1) (a1 : Int) (a2 : Int) : Option ((Int) × (Z15) × Unit) :=
 (F.class_Text n (4 : Int) a0 (1 : Int) (IntKind.wrap .i64 ((a0.length : Int) + (1 : Int)))).bind fun y1 =>
  bif !((y1.1 == (0 : Int)) && (y1.2.1 == (0 : Int))) then
   (F.num_fault n y1.1 y1.2.1).bind fun y2 =>
    some ((y2.1, (y2.2.1.1, y2.2.1.2.1, ()), ()))
  else
   (idx a0 (0 : Int)).bind fun x3 =>
    bif ((x3).toNat) == (48 : Int) then
     bif decide ((a0.length : Int) > (1 : Int)) then
      (F.num_fault n (11 : Int) (0 : Int)).bind fun y4 =>
       some ((y4.1, (y4.2.1.1, y4.2.1.2.1, ()), ()))
     else
      (O.atoi n a0).bind fun y5 =>
       bif y5.2.1 then
        (F.num_fault n (10 : Int) (0 : Int)).bind fun y6 =>
         some ((y6.1, (y6.2.1.1, y6.2.1.2.1, ()), ()))
       else
       bif decide (y5.1 < a1) then
        (F.num_fault n (10 : Int) (0 : Int)).bind fun y7 =>
         some ((y7.1, (y7.2.1.1, y7.2.1.2.1, ()), ()))
       else
       bif decide (y5.1 > a2) then
        (F.num_fault n (10 : Int) (0 : Int)).bind fun y8 =>
         some ((y8.1, (y8.2.1.1, y8.2.1.2.1, ()), ()))
       else
        some ((y5.1, ((0 : Int), (0 : Int), ()), ()))
    else
     (O.atoi n a0).bind fun y9 =>
      bif y9.2.1 then
       (F.num_fault n (10 : Int) (0 : Int)).bind fun y10 =>
        some ((y10.1, (y10.2.1.1, y10.2.1.2.1, ()), ()))
      else
      bif decide (y9.1 < a1) then
       (F.num_fault n (10 : Int) (0 : Int)).bind fun y11 =>
        some ((y11.1, (y11.2.1.1, y11.2.1.2.1, ()), ()))
      else
      bif decide (y9.1 > a2) then
       (F.num_fault n (10 : Int) (0 : Int)).bind fun y12 =>
        some ((y12.1, (y12.2.1.1, y12.2.1.2.1, ()), ()))
      else
       some ((y9.1, ((0 : Int), (0 : Int), ()), ()))
noncomputable def F.num_Time (n : Nat) (a0 : Z1) : Option ((Int) × (Z15) × Unit) :=
 (F.num_Parse n a0 (1 : Int) (1099511627776 : Int)).bind fun y1 =>
  some ((y1.1, (y1.2.1.1, y1.2.1.2.1, ()), ()))
noncomputable def F.tag_Check (n : Nat) (a0 : Z23) : Option (Int) :=
 (F.class_Text n (2 : Int) a0.1 (1 : Int) (64 : Int)).bind fun y1 =>
  bif !((y1.1 == (0 : Int)) && (y1.2.1 == (0 : Int))) then
   some ((19 : Int))
  else
   (F.class_Text n (3 : Int) a0.2.1 (0 : Int) (100 : Int)).bind fun y2 =>
    bif !((y2.1 == (0 : Int)) && (y2.2.1 == (0 : Int))) then
     some ((19 : Int))
    else
     some ((0 : Int))
noncomputable def F.tag_Parse.L4.step {X : Type} (n : Nat) (rec : Z5 → Int → Z18 → Int → Int → Int → Int → Nat → Option X) (k0 : Z5 → Int → Int → Nat → Option X) (kr : Z5 → Int → Int → Nat → Option X) (v4 : Z5) (v5 : Int) (v13 : Z18) (v14 : Int) (v15 : Int) (ab0 : Int) (ab1 : Int) (vk0 : Nat) : Option X :=
 bif decide (v15 < v14) then
  (idx v13 v15).bind fun x2 =>
   (F.strings_Cut n x2 ([58])).bind fun y3 =>
    (F.tag_Check n (y3.1, y3.2.1, ())).bind fun y4 =>
     bif !(y4 == (0 : Int)) then
      kr [] (19 : Int) v5 0
     else
     bif y3.2.2.1 then
      bif y3.2.1 == [] then
       kr [] (19 : Int) v5 0
      else
      bif decide ((v4.length + 1) * 32 ≤ 2 ^ 46) && decide (0 < 32 ∧ 32 ≤ 2 ^ 20) then
       bif Nat.beq vk0 v4.length then
        rec (v4 ++ ([(y3.1, y3.2.1)])) (IntKind.wrap .i64 (v5 + (IntKind.wrap .i64 ((x2.length : Int) + (1 : Int))))) v13 v14 (IntKind.wrap .i64 (v15 + (1 : Int))) ab0 ab1 ((v4 ++ ([(y3.1, y3.2.1)])).length)
       else
        none
      else
       none
     else
     bif decide ((v4.length + 1) * 32 ≤ 2 ^ 46) && decide (0 < 32 ∧ 32 ≤ 2 ^ 20) then
      bif Nat.beq vk0 v4.length then
       rec (v4 ++ ([(y3.1, y3.2.1)])) (IntKind.wrap .i64 (v5 + (IntKind.wrap .i64 ((x2.length : Int) + (1 : Int))))) v13 v14 (IntKind.wrap .i64 (v15 + (1 : Int))) ab0 ab1 ((v4 ++ ([(y3.1, y3.2.1)])).length)
      else
       none
     else
      none
 else
  k0 v4 ab0 ab1 vk0
noncomputable def F.tag_Parse.L4 {X : Type} (n : Nat) (k0 : Z5 → Int → Int → Nat → Option X) (kr : Z5 → Int → Int → Nat → Option X) : Nat → Z5 → Int → Z18 → Int → Int → Int → Int → Nat → Option X
 | 0 => fun _ _ _ _ _ _ _ _ => none
 | m + 1 => fun v4 v5 v13 v14 v15 ab0 ab1 vk0 => F.tag_Parse.L4.step n (F.tag_Parse.L4 n k0 kr m) k0 kr v4 v5 v13 v14 v15 ab0 ab1 vk0
noncomputable def F.tag_Parse (n : Nat) (a0 : Z1) : Option ((Z5) × (Z15) × Unit) :=
 (O.split1 n a0 ([44])).bind fun y1 =>
  F.tag_Parse.L4 n
   (fun e4 g0 g1 ek0 =>
    some ((e4, ((0 : Int), (0 : Int), ()), ())))
   (fun e2 g0 g1 ek0 =>
    some ((e2, (g0, g1, ()), ()))) n [] (0 : Int) y1 (y1.length : Int) (0 : Int) (0 : Int) (0 : Int) 0
noncomputable def F.dog_Parse.L9_dog_reader_first.step {X : Type} (n : Nat) (rec : Int → Z18 → Int → Int → Z1 → Int → Z3 → Int → Z5 → Int → Int → Int → Z1 → Int → Z3 → Int → Z5 → Int → Int → Int → Int → Int → Int → Int → Nat → Nat → Nat → Option X) (k1 : Z1 → Int → Z3 → Int → Z5 → Int → Int → Int → Z1 → Int → Z3 → Int → Z5 → Int → Int → Int → Int → Int → Int → Int → Nat → Nat → Nat → Option X) (kr : Z1 → Int → Z3 → Int → Z5 → Int → Int → Int → Z1 → Int → Z3 → Int → Z5 → Int → Int → Int → Int → Int → Int → Int → Nat → Nat → Nat → Option X) (v8 : Int) (v42 : Z18) (v43 : Int) (v44 : Int) (ab0 : Z1) (ab1 : Int) (ab2 : Z3) (ab3 : Int) (ab4 : Z5) (ab5 : Int) (bb0 : Int) (bb1 : Int) (cb0 : Z1) (cb1 : Int) (cb2 : Z3) (cb3 : Int) (cb4 : Z5) (cb5 : Int) (cb6 : Int) (cb7 : Int) (db0 : Int) (db1 : Int) (hb0 : Int) (hb1 : Int) (vk0 : Nat) (vk1 : Nat) (vk2 : Nat) : Option X :=
 bif decide (v44 < v43) then
  (idx v42 v44).bind fun x6 =>
   (F.dec_Parse n x6).bind fun y7 =>
    bif !((y7.2.1.1 == (0 : Int)) && (y7.2.1.2.1 == (0 : Int))) then
     kr ab0 ab1 ab2 ab3 ab4 ab5 bb0 bb1 cb0 cb1 cb2 cb3 cb4 cb5 cb6 cb7 db0 db1 (17 : Int) (IntKind.wrap .i64 (cb6 + v8)) vk0 vk1 vk2
    else
    bif (cb2.length : Int) == (64 : Int) then
     kr ab0 ab1 ab2 ab3 ab4 ab5 bb0 bb1 cb0 cb1 cb2 cb3 cb4 cb5 cb6 cb7 db0 db1 (17 : Int) (IntKind.wrap .i64 (cb6 + v8)) vk0 vk1 vk2
    else
    bif decide ((cb2.length + 1) * 24 ≤ 2 ^ 46) && decide (0 < 24 ∧ 24 ≤ 2 ^ 20) then
     bif Nat.beq vk2 cb2.length then
      rec (IntKind.wrap .i64 (v8 + (IntKind.wrap .i64 ((x6.length : Int) + (1 : Int))))) v42 v43 (IntKind.wrap .i64 (v44 + (1 : Int))) ab0 ab1 ab2 ab3 ab4 ab5 bb0 bb1 cb0 cb1 (cb2 ++ ([(y7.1.1, y7.1.2.1, y7.1.2.2.1)])) cb3 cb4 cb5 cb6 cb7 db0 db1 hb0 hb1 vk0 vk1 ((cb2 ++ ([(y7.1.1, y7.1.2.1, y7.1.2.2.1)])).length)
     else
      none
    else
     none
 else
  k1 ab0 ab1 ab2 ab3 ab4 ab5 bb0 bb1 cb0 cb1 cb2 cb3 cb4 cb5 cb6 cb7 db0 db1 hb0 hb1 vk0 vk1 vk2
noncomputable def F.dog_Parse.L9_dog_reader_first {X : Type} (n : Nat) (k1 : Z1 → Int → Z3 → Int → Z5 → Int → Int → Int → Z1 → Int → Z3 → Int → Z5 → Int → Int → Int → Int → Int → Int → Int → Nat → Nat → Nat → Option X) (kr : Z1 → Int → Z3 → Int → Z5 → Int → Int → Int → Z1 → Int → Z3 → Int → Z5 → Int → Int → Int → Int → Int → Int → Int → Nat → Nat → Nat → Option X) : Nat → Int → Z18 → Int → Int → Z1 → Int → Z3 → Int → Z5 → Int → Int → Int → Z1 → Int → Z3 → Int → Z5 → Int → Int → Int → Int → Int → Int → Int → Nat → Nat → Nat → Option X
 | 0 => fun _ _ _ _ _ _ _ _ _ _ _ _ _ _ _ _ _ _ _ _ _ _ _ _ _ _ _ => none
 | m + 1 => fun v8 v42 v43 v44 ab0 ab1 ab2 ab3 ab4 ab5 bb0 bb1 cb0 cb1 cb2 cb3 cb4 cb5 cb6 cb7 db0 db1 hb0 hb1 vk0 vk1 vk2 => F.dog_Parse.L9_dog_reader_first.step n (F.dog_Parse.L9_dog_reader_first n k1 kr m) k1 kr v8 v42 v43 v44 ab0 ab1 ab2 ab3 ab4 ab5 bb0 bb1 cb0 cb1 cb2 cb3 cb4 cb5 cb6 cb7 db0 db1 hb0 hb1 vk0 vk1 vk2
noncomputable def F.dog_Parse.L2_dog_reader_more.step {X : Type} (n : Nat) (rec : Z1 → Z19 → Int → Z1 → Int → Z3 → Int → Z5 → Int → Int → Int → Z1 → Int → Z3 → Int → Z5 → Int → Int → Int → Int → Int → Int → Int → Nat → Nat → Nat → Option X) (k0 : Z1 → Int → Z3 → Int → Z5 → Int → Int → Int → Z1 → Int → Z3 → Int → Z5 → Int → Int → Int → Int → Int → Int → Int → Nat → Nat → Nat → Option X) (kr : Z1 → Int → Z3 → Int → Z5 → Int → Int → Int → Z1 → Int → Z3 → Int → Z5 → Int → Int → Int → Int → Int → Int → Int → Nat → Nat → Nat → Option X) (v1 : Z1) (v19 : Z19) (v20 : Int) (ab0 : Z1) (ab1 : Int) (ab2 : Z3) (ab3 : Int) (ab4 : Z5) (ab5 : Int) (bb0 : Int) (bb1 : Int) (cb0 : Z1) (cb1 : Int) (cb2 : Z3) (cb3 : Int) (cb4 : Z5) (cb5 : Int) (cb6 : Int) (cb7 : Int) (db0 : Int) (db1 : Int) (hb0 : Int) (hb1 : Int) (vk0 : Nat) (vk1 : Nat) (vk2 : Nat) : Option X :=
 bif decide (v20 < (3 : Int)) then
  bif v20 == (0 : Int) then
   (F.strings_CutPrefix n v1 v19.1).bind fun y11 =>
    bif !y11.2.1 then
     rec v1 (v19.1, (), v19.2.2.1, (), v19.2.2.2.2.1, (), ()) (IntKind.wrap .i64 (v20 + (1 : Int))) ab0 ab1 ab2 ab3 ab4 ab5 bb0 bb1 cb0 cb1 cb2 cb3 cb4 cb5 cb6 cb7 db0 db1 hb0 hb1 vk0 vk1 vk2
    else
    bif decide (v20 < cb7) then
     k0 ab0 ab1 ab2 ab3 ab4 ab5 bb0 bb1 cb0 cb1 cb2 cb3 cb4 cb5 cb6 cb7 db0 db1 hb0 hb1 vk0 vk1 vk2
    else
     (F.num_Rate n y11.1).bind fun y12 =>
      bif !((y12.2.1.1 == (0 : Int)) && (y12.2.1.2.1 == (0 : Int))) then
       kr ab0 ab1 ab2 ab3 ab4 ab5 bb0 bb1 cb0 cb1 cb2 cb3 cb4 cb5 cb6 (IntKind.wrap .i64 (v20 + (1 : Int))) db0 db1 (18 : Int) (IntKind.wrap .i64 (cb6 + (0 : Int))) vk0 vk1 vk2
      else
      bif cb1 == (2 : Int) then
       bif !(y12.1 == (1000000 : Int)) then
        kr ab0 ab1 ab2 ab3 ab4 ab5 bb0 bb1 cb0 cb1 cb2 cb3 cb4 cb5 cb6 (IntKind.wrap .i64 (v20 + (1 : Int))) db0 db1 (18 : Int) (IntKind.wrap .i64 (cb6 + (0 : Int))) vk0 vk1 vk2
       else
        kr ab0 ab1 ab2 ab3 ab4 ab5 bb0 bb1 cb0 cb1 cb2 y12.1 cb4 cb5 cb6 (IntKind.wrap .i64 (v20 + (1 : Int))) db0 db1 (0 : Int) (0 : Int) vk0 vk1 vk2
      else
       kr ab0 ab1 ab2 ab3 ab4 ab5 bb0 bb1 cb0 cb1 cb2 y12.1 cb4 cb5 cb6 (IntKind.wrap .i64 (v20 + (1 : Int))) db0 db1 (0 : Int) (0 : Int) vk0 vk1 vk2
  else
  bif v20 == (1 : Int) then
   (F.strings_CutPrefix n v1 v19.2.2.1).bind fun y13 =>
    bif !y13.2.1 then
     rec v1 (v19.1, (), v19.2.2.1, (), v19.2.2.2.2.1, (), ()) (IntKind.wrap .i64 (v20 + (1 : Int))) ab0 ab1 ab2 ab3 ab4 ab5 bb0 bb1 cb0 cb1 cb2 cb3 cb4 cb5 cb6 cb7 db0 db1 hb0 hb1 vk0 vk1 vk2
    else
    bif decide (v20 < cb7) then
     k0 ab0 ab1 ab2 ab3 ab4 ab5 bb0 bb1 cb0 cb1 cb2 cb3 cb4 cb5 cb6 cb7 db0 db1 hb0 hb1 vk0 vk1 vk2
    else
     (F.tag_Parse n y13.1).bind fun y14 =>
      bif !((y14.2.1.1 == (0 : Int)) && (y14.2.1.2.1 == (0 : Int))) then
       kr ab0 ab1 ab2 ab3 ab4 ab5 bb0 bb1 cb0 cb1 cb2 cb3 cb4 cb5 cb6 (IntKind.wrap .i64 (v20 + (1 : Int))) db0 db1 (19 : Int) (IntKind.wrap .i64 (cb6 + (0 : Int))) vk0 vk1 vk2
      else
      bif decide ((y14.1.length : Int) > (32 : Int)) then
       kr ab0 ab1 ab2 ab3 ab4 ab5 bb0 bb1 cb0 cb1 cb2 cb3 cb4 cb5 cb6 (IntKind.wrap .i64 (v20 + (1 : Int))) db0 db1 (19 : Int) (IntKind.wrap .i64 (cb6 + (0 : Int))) vk0 vk1 vk2
      else
       (F.tag_Normal n y14.1).bind fun y15 =>
        kr ab0 ab1 ab2 ab3 ab4 ab5 bb0 bb1 cb0 cb1 cb2 cb3 y15 cb5 cb6 (IntKind.wrap .i64 (v20 + (1 : Int))) db0 db1 (0 : Int) (0 : Int) vk0 vk1 vk2
  else
  bif v20 == (2 : Int) then
   (F.strings_CutPrefix n v1 v19.2.2.2.2.1).bind fun y16 =>
    bif !y16.2.1 then
     rec v1 (v19.1, (), v19.2.2.1, (), v19.2.2.2.2.1, (), ()) (IntKind.wrap .i64 (v20 + (1 : Int))) ab0 ab1 ab2 ab3 ab4 ab5 bb0 bb1 cb0 cb1 cb2 cb3 cb4 cb5 cb6 cb7 db0 db1 hb0 hb1 vk0 vk1 vk2
    else
    bif decide (v20 < cb7) then
     k0 ab0 ab1 ab2 ab3 ab4 ab5 bb0 bb1 cb0 cb1 cb2 cb3 cb4 cb5 cb6 cb7 db0 db1 hb0 hb1 vk0 vk1 vk2
    else
     (F.num_Time n y16.1).bind fun y17 =>
      bif !((y17.2.1.1 == (0 : Int)) && (y17.2.1.2.1 == (0 : Int))) then
       kr ab0 ab1 ab2 ab3 ab4 ab5 bb0 bb1 cb0 cb1 cb2 cb3 cb4 cb5 cb6 (IntKind.wrap .i64 (v20 + (1 : Int))) db0 db1 (20 : Int) (IntKind.wrap .i64 (cb6 + (0 : Int))) vk0 vk1 vk2
      else
       kr ab0 ab1 ab2 ab3 ab4 ab5 bb0 bb1 cb0 cb1 cb2 cb3 cb4 y17.1 cb6 (IntKind.wrap .i64 (v20 + (1 : Int))) db0 db1 (0 : Int) (0 : Int) vk0 vk1 vk2
  else
   none
 else
  k0 ab0 ab1 ab2 ab3 ab4 ab5 bb0 bb1 cb0 cb1 cb2 cb3 cb4 cb5 cb6 cb7 db0 db1 hb0 hb1 vk0 vk1 vk2
noncomputable def F.dog_Parse.L2_dog_reader_more {X : Type} (n : Nat) (k0 : Z1 → Int → Z3 → Int → Z5 → Int → Int → Int → Z1 → Int → Z3 → Int → Z5 → Int → Int → Int → Int → Int → Int → Int → Nat → Nat → Nat → Option X) (kr : Z1 → Int → Z3 → Int → Z5 → Int → Int → Int → Z1 → Int → Z3 → Int → Z5 → Int → Int → Int → Int → Int → Int → Int → Nat → Nat → Nat → Option X) : Nat → Z1 → Z19 → Int → Z1 → Int → Z3 → Int → Z5 → Int → Int → Int → Z1 → Int → Z3 → Int → Z5 → Int → Int → Int → Int → Int → Int → Int → Nat → Nat → Nat → Option X
 | 0 => fun _ _ _ _ _ _ _ _ _ _ _ _ _ _ _ _ _ _ _ _ _ _ _ _ _ _ => none
 | m + 1 => fun v1 v19 v20 ab0 ab1 ab2 ab3 ab4 ab5 bb0 bb1 cb0 cb1 cb2 cb3 cb4 cb5 cb6 cb7 db0 db1 hb0 hb1 vk0 vk1 vk2 => F.dog_Parse.L2_dog_reader_more.step n (F.dog_Parse.L2_dog_reader_more n k0 kr m) k0 kr v1 v19 v20 ab0 ab1 ab2 ab3 ab4 ab5 bb0 bb1 cb0 cb1 cb2 cb3 cb4 cb5 cb6 cb7 db0 db1 hb0 hb1 vk0 vk1 vk2
noncomputable def F.dog_Parse.L8.step {X : Type} (n : Nat) (rec : Z1 → Z18 → Z18 → Int → Int → Z1 → Int → Z3 → Int → Z5 → Int → Int → Int → Z1 → Int → Z3 → Int → Z5 → Int → Int → Int → Int → Int → Nat → Nat → Nat → Option X) (k0 : Z1 → Z18 → Z1 → Int → Z3 → Int → Z5 → Int → Int → Int → Z1 → Int → Z3 → Int → Z5 → Int → Int → Int → Int → Int → Nat → Nat → Nat → Option X) (v0 : Z1) (v5 : Z18) (v26 : Z18) (v27 : Int) (v28 : Int) (ab0 : Z1) (ab1 : Int) (ab2 : Z3) (ab3 : Int) (ab4 : Z5) (ab5 : Int) (bb0 : Int) (bb1 : Int) (cb0 : Z1) (cb1 : Int) (cb2 : Z3) (cb3 : Int) (cb4 : Z5) (cb5 : Int) (cb6 : Int) (cb7 : Int) (db0 : Int) (db1 : Int) (vk0 : Nat) (vk1 : Nat) (vk2 : Nat) : Option X :=
 bif decide (v28 < v27) then
  (idx v26 v28).bind fun x2 =>
   bif decide (v28 < (2 : Int)) then
    bif v28 == (0 : Int) then
     (F.strings_Cut n x2 ([58])).bind fun y3 =>
      (F.class_Text n (1 : Int) y3.1 (1 : Int) (200 : Int)).bind fun y4 =>
       bif !((y4.1 == (0 : Int)) && (y4.2.1 == (0 : Int))) then
        bif !(false && ((IntKind.wrap .i64 (cb6 + (0 : Int))) == (0 : Int))) then
         k0 v0 v5 ab0 ab1 ab2 ab3 ab4 ab5 bb0 bb1 cb0 cb1 cb2 cb3 cb4 cb5 cb6 cb7 (15 : Int) (IntKind.wrap .i64 (cb6 + (0 : Int))) vk0 vk1 vk2
        else
         rec v0 v5 v26 v27 (IntKind.wrap .i64 (v28 + (1 : Int))) ab0 ab1 ab2 ab3 ab4 ab5 bb0 bb1 cb0 cb1 cb2 cb3 cb4 cb5 (IntKind.wrap .i64 (cb6 + (IntKind.wrap .i64 ((x2.length : Int) + (1 : Int))))) cb7 (15 : Int) (IntKind.wrap .i64 (cb6 + (0 : Int))) vk0 vk1 vk2
       else
       bif !y3.2.2.1 then
        bif !(false && ((IntKind.wrap .i64 (cb6 + (x2.length : Int))) == (0 : Int))) then
         k0 v0 v5 ab0 ab1 ab2 ab3 ab4 ab5 bb0 bb1 cb0 cb1 cb2 cb3 cb4 cb5 cb6 cb7 (11 : Int) (IntKind.wrap .i64 (cb6 + (x2.length : Int))) vk0 vk1 vk2
        else
         rec v0 v5 v26 v27 (IntKind.wrap .i64 (v28 + (1 : Int))) ab0 ab1 ab2 ab3 ab4 ab5 bb0 bb1 cb0 cb1 cb2 cb3 cb4 cb5 (IntKind.wrap .i64 (cb6 + (IntKind.wrap .i64 ((x2.length : Int) + (1 : Int))))) cb7 (11 : Int) (IntKind.wrap .i64 (cb6 + (x2.length : Int))) vk0 vk1 vk2
       else
        (O.split1 n y3.2.1 ([58])).bind fun y5 =>
         F.dog_Parse.L9_dog_reader_first n
          (fun g0 g1 g2 g3 g4 g5 h0 h1 i0 i1 i2 i3 i4 i5 i6 i7 j0 j1 l0 l1 ek0 ek1 ek2 =>
           bif !(true && true) then
            k0 v0 v5 g0 g1 g2 g3 g4 g5 h0 h1 i0 i1 i2 i3 i4 i5 i6 i7 (0 : Int) (0 : Int) ek0 ek1 ek2
           else
            rec v0 v5 v26 v27 (IntKind.wrap .i64 (v28 + (1 : Int))) g0 g1 g2 g3 g4 g5 h0 h1 i0 i1 i2 i3 i4 i5 (IntKind.wrap .i64 (i6 + (IntKind.wrap .i64 ((x2.length : Int) + (1 : Int))))) i7 (0 : Int) (0 : Int) ek0 ek1 ek2)
          (fun g0 g1 g2 g3 g4 g5 h0 h1 i0 i1 i2 i3 i4 i5 i6 i7 j0 j1 l0 l1 ek0 ek1 ek2 =>
           bif !((l0 == (0 : Int)) && (l1 == (0 : Int))) then
            k0 v0 v5 g0 g1 g2 g3 g4 g5 h0 h1 i0 i1 i2 i3 i4 i5 i6 i7 l0 l1 ek0 ek1 ek2
           else
            rec v0 v5 v26 v27 (IntKind.wrap .i64 (v28 + (1 : Int))) g0 g1 g2 g3 g4 g5 h0 h1 i0 i1 i2 i3 i4 i5 (IntKind.wrap .i64 (i6 + (IntKind.wrap .i64 ((x2.length : Int) + (1 : Int))))) i7 l0 l1 ek0 ek1 ek2) n (IntKind.wrap .i64 ((y3.1.length : Int) + (1 : Int))) y5 (y5.length : Int) (0 : Int) ab0 ab1 ab2 ab3 ab4 ab5 bb0 bb1 y3.1 cb1 cb2 cb3 cb4 cb5 cb6 cb7 db0 db1 (0 : Int) (0 : Int) vk0 vk1 vk2
    else
    bif v28 == (1 : Int) then
     (F.dog_Kind n x2).bind fun y10 =>
      bif !(y10.2.1 == (0 : Int)) then
       bif !((y10.2.1 == (0 : Int)) && ((IntKind.wrap .i64 (cb6 + (0 : Int))) == (0 : Int))) then
        k0 v0 v5 ab0 ab1 ab2 ab3 ab4 ab5 bb0 bb1 cb0 cb1 cb2 cb3 cb4 cb5 cb6 cb7 y10.2.1 (IntKind.wrap .i64 (cb6 + (0 : Int))) vk0 vk1 vk2
       else
        rec v0 v5 v26 v27 (IntKind.wrap .i64 (v28 + (1 : Int))) ab0 ab1 ab2 ab3 ab4 ab5 bb0 bb1 cb0 cb1 cb2 cb3 cb4 cb5 (IntKind.wrap .i64 (cb6 + (IntKind.wrap .i64 ((x2.length : Int) + (1 : Int))))) cb7 y10.2.1 (IntKind.wrap .i64 (cb6 + (0 : Int))) vk0 vk1 vk2
      else
      bif !(true && true) then
       k0 v0 v5 ab0 ab1 ab2 ab3 ab4 ab5 bb0 bb1 cb0 y10.1 cb2 cb3 cb4 cb5 cb6 cb7 (0 : Int) (0 : Int) vk0 vk1 vk2
      else
       rec v0 v5 v26 v27 (IntKind.wrap .i64 (v28 + (1 : Int))) ab0 ab1 ab2 ab3 ab4 ab5 bb0 bb1 cb0 y10.1 cb2 cb3 cb4 cb5 (IntKind.wrap .i64 (cb6 + (IntKind.wrap .i64 ((x2.length : Int) + (1 : Int))))) cb7 (0 : Int) (0 : Int) vk0 vk1 vk2
    else
     none
   else
    F.dog_Parse.L2_dog_reader_more n
     (fun g0 g1 g2 g3 g4 g5 h0 h1 i0 i1 i2 i3 i4 i5 i6 i7 j0 j1 l0 l1 ek0 ek1 ek2 =>
      bif !(false && ((IntKind.wrap .i64 (i6 + (0 : Int))) == (0 : Int))) then
       k0 v0 v5 g0 g1 g2 g3 g4 g5 h0 h1 i0 i1 i2 i3 i4 i5 i6 i7 (11 : Int) (IntKind.wrap .i64 (i6 + (0 : Int))) ek0 ek1 ek2
      else
       rec v0 v5 v26 v27 (IntKind.wrap .i64 (v28 + (1 : Int))) g0 g1 g2 g3 g4 g5 h0 h1 i0 i1 i2 i3 i4 i5 (IntKind.wrap .i64 (i6 + (IntKind.wrap .i64 ((x2.length : Int) + (1 : Int))))) i7 (11 : Int) (IntKind.wrap .i64 (i6 + (0 : Int))) ek0 ek1 ek2)
     (fun g0 g1 g2 g3 g4 g5 h0 h1 i0 i1 i2 i3 i4 i5 i6 i7 j0 j1 l0 l1 ek0 ek1 ek2 =>
      bif !((l0 == (0 : Int)) && (l1 == (0 : Int))) then
       k0 v0 v5 g0 g1 g2 g3 g4 g5 h0 h1 i0 i1 i2 i3 i4 i5 i6 i7 l0 l1 ek0 ek1 ek2
      else
       rec v0 v5 v26 v27 (IntKind.wrap .i64 (v28 + (1 : Int))) g0 g1 g2 g3 g4 g5 h0 h1 i0 i1 i2 i3 i4 i5 (IntKind.wrap .i64 (i6 + (IntKind.wrap .i64 ((x2.length : Int) + (1 : Int))))) i7 l0 l1 ek0 ek1 ek2) n x2 ([64], (), [35], (), [84], (), ()) (0 : Int) ab0 ab1 ab2 ab3 ab4 ab5 bb0 bb1 cb0 cb1 cb2 cb3 cb4 cb5 cb6 cb7 db0 db1 (0 : Int) (0 : Int) vk0 vk1 vk2
 else
  k0 v0 v5 ab0 ab1 ab2 ab3 ab4 ab5 bb0 bb1 cb0 cb1 cb2 cb3 cb4 cb5 cb6 cb7 db0 db1 vk0 vk1 vk2
noncomputable def F.dog_Parse.L8 {X : Type} (n : Nat) (k0 : Z1 → Z18 → Z1 → Int → Z3 → Int → Z5 → Int → Int → Int → Z1 → Int → Z3 → Int → Z5 → Int → Int → Int → Int → Int → Nat → Nat → Nat → Option X) : Nat → Z1 → Z18 → Z18 → Int → Int → Z1 → Int → Z3 → Int → Z5 → Int → Int → Int → Z1 → Int → Z3 → Int → Z5 → Int → Int → Int → Int → Int → Nat → Nat → Nat → Option X
 | 0 => fun _ _ _ _ _ _ _ _ _ _ _ _ _ _ _ _ _ _ _ _ _ _ _ _ _ _ => none
 | m + 1 => fun v0 v5 v26 v27 v28 ab0 ab1 ab2 ab3 ab4 ab5 bb0 bb1 cb0 cb1 cb2 cb3 cb4 cb5 cb6 cb7 db0 db1 vk0 vk1 vk2 => F.dog_Parse.L8.step n (F.dog_Parse.L8 n k0 m) k0 v0 v5 v26 v27 v28 ab0 ab1 ab2 ab3 ab4 ab5 bb0 bb1 cb0 cb1 cb2 cb3 cb4 cb5 cb6 cb7 db0 db1 vk0 vk1 vk2
noncomputable def F.dog_Parse (n : Nat) (a0 : Z1) : Option ((Z16) × (Z15) × Unit) :=
 bif decide ((a0.length : Int) > (8192 : Int)) then
  some ((([], (0 : Int), [], (0 : Int), [], (0 : Int), ()), ((12 : Int), (0 : Int), ()), ()))
 else
  (O.split1 n a0 ([124])).bind fun y1 =>
   F.dog_Parse.L8 n
    (fun e0 e5 g0 g1 g2 g3 g4 g5 h0 h1 i0 i1 i2 i3 i4 i5 i6 i7 j0 j1 ek0 ek1 ek2 =>
     bif (j0 == (0 : Int)) && (j1 == (0 : Int)) then
      bif decide ((e5.length : Int) < (2 : Int)) then
       bif !(false && ((e0.length : Int) == (0 : Int))) then
        some ((([], (0 : Int), [], (0 : Int), [], (0 : Int), ()), ((11 : Int), (e0.length : Int), ()), ()))
       else
        some (((i0, i1, i2, i3, i4, i5, ()), ((11 : Int), (e0.length : Int), ()), ()))
      else
      bif !((j0 == (0 : Int)) && (j1 == (0 : Int))) then
       some ((([], (0 : Int), [], (0 : Int), [], (0 : Int), ()), (j0, j1, ()), ()))
      else
       some (((i0, i1, i2, i3, i4, i5, ()), (j0, j1, ()), ()))
     else
     bif !((j0 == (0 : Int)) && (j1 == (0 : Int))) then
      some ((([], (0 : Int), [], (0 : Int), [], (0 : Int), ()), (j0, j1, ()), ()))
     else
      some (((i0, i1, i2, i3, i4, i5, ()), (j0, j1, ()), ()))) n a0 y1 y1 (y1.length : Int) (0 : Int) [] (0 : Int) [] (0 : Int) [] (0 : Int) (0 : Int) (0 : Int) [] (0 : Int) [] (1000000 : Int) [] (0 : Int) (0 : Int) (0 : Int) (0 : Int) (0 : Int) 0 0 0
noncomputable def F.graphite_Parse.L2_graphite_cut_1.step {X : Type} (n : Nat) (rec : Int → Int → Bool → Z1 → Int → Z3 → Int → Z5 → Int → Int → Int → Z1 → Int → Z3 → Int → Z5 → Int → Int → Int → Z1 → Nat → Nat → Nat → Nat → Option X) (k0 : Z1 → Int → Z3 → Int → Z5 → Int → Int → Int → Z1 → Int → Z3 → Int → Z5 → Int → Int → Int → Z1 → Nat → Nat → Nat → Nat → Option X) (kr : Z1 → Int → Z3 → Int → Z5 → Int → Int → Int → Z1 → Int → Z3 → Int → Z5 → Int → Int → Int → Z1 → Nat → Nat → Nat → Nat → Option X) (v3 : Int) (v4 : Int) (v5 : Bool) (ab0 : Z1) (ab1 : Int) (ab2 : Z3) (ab3 : Int) (ab4 : Z5) (ab5 : Int) (bb0 : Int) (bb1 : Int) (cb0 : Z1) (cb1 : Int) (cb2 : Z3) (cb3 : Int) (cb4 : Z5) (cb5 : Int) (db0 : Int) (db1 : Int) (hb0 : Z1) (vk0 : Nat) (vk1 : Nat) (vk2 : Nat) (vk3 : Nat) : Option X :=
 bif v5 then
  (sub hb0 v3 (hb0.length : Int)).bind fun x1 =>
   (F.strings_Cut n x1 ([32])).bind fun y2 =>
    bif v4 == (0 : Int) then
     (F.class_Text n (1 : Int) y2.1 (1 : Int) (200 : Int)).bind fun y3 =>
      bif !((y3.1 == (0 : Int)) && (y3.2.1 == (0 : Int))) then
       kr ab0 ab1 ab2 ab3 ab4 ab5 bb0 bb1 y2.1 cb1 cb2 cb3 cb4 cb5 (15 : Int) v3 hb0 vk0 vk1 vk2 vk3
      else
      bif !(y2.2.2.1 == (decide (v4 < (2 : Int)))) then
       kr ab0 ab1 ab2 ab3 ab4 ab5 bb0 bb1 y2.1 cb1 cb2 cb3 cb4 cb5 (11 : Int) (IntKind.wrap .i64 (v3 + (y2.1.length : Int))) hb0 vk0 vk1 vk2 vk3
      else
       rec (IntKind.wrap .i64 (v3 + (IntKind.wrap .i64 ((y2.1.length : Int) + (1 : Int))))) (IntKind.wrap .i64 (v4 + (1 : Int))) y2.2.2.1 ab0 ab1 ab2 ab3 ab4 ab5 bb0 bb1 y2.1 cb1 cb2 cb3 cb4 cb5 db0 db1 hb0 vk0 vk1 vk2 vk3
    else
    bif v4 == (1 : Int) then
     (F.dec_Parse n y2.1).bind fun y4 =>
      bif !((y4.2.1.1 == (0 : Int)) && (y4.2.1.2.1 == (0 : Int))) then
       kr ab0 ab1 ab2 ab3 ab4 ab5 bb0 bb1 cb0 cb1 cb2 cb3 cb4 cb5 (17 : Int) v3 hb0 vk0 vk1 vk2 vk3
      else
      bif !(y2.2.2.1 == (decide (v4 < (2 : Int)))) then
       kr ab0 ab1 ab2 ab3 ab4 ab5 bb0 bb1 cb0 cb1 ([(y4.1.1, y4.1.2.1, y4.1.2.2.1)]) cb3 cb4 cb5 (11 : Int) (IntKind.wrap .i64 (v3 + (y2.1.length : Int))) hb0 vk0 vk1 1 vk3
      else
       rec (IntKind.wrap .i64 (v3 + (IntKind.wrap .i64 ((y2.1.length : Int) + (1 : Int))))) (IntKind.wrap .i64 (v4 + (1 : Int))) y2.2.2.1 ab0 ab1 ab2 ab3 ab4 ab5 bb0 bb1 cb0 cb1 ([(y4.1.1, y4.1.2.1, y4.1.2.2.1)]) cb3 cb4 cb5 db0 db1 hb0 vk0 vk1 1 vk3
    else
     (F.num_Time n y2.1).bind fun y5 =>
      bif !((y5.2.1.1 == (0 : Int)) && (y5.2.1.2.1 == (0 : Int))) then
       kr ab0 ab1 ab2 ab3 ab4 ab5 bb0 bb1 cb0 cb1 cb2 cb3 cb4 cb5 (20 : Int) v3 hb0 vk0 vk1 vk2 vk3
      else
      bif !(y2.2.2.1 == (decide (v4 < (2 : Int)))) then
       kr ab0 ab1 ab2 ab3 ab4 ab5 bb0 bb1 cb0 cb1 cb2 cb3 cb4 y5.1 (11 : Int) (IntKind.wrap .i64 (v3 + (y2.1.length : Int))) hb0 vk0 vk1 vk2 vk3
      else
       rec (IntKind.wrap .i64 (v3 + (IntKind.wrap .i64 ((y2.1.length : Int) + (1 : Int))))) (IntKind.wrap .i64 (v4 + (1 : Int))) y2.2.2.1 ab0 ab1 ab2 ab3 ab4 ab5 bb0 bb1 cb0 cb1 cb2 cb3 cb4 y5.1 db0 db1 hb0 vk0 vk1 vk2 vk3
 else
  k0 ab0 ab1 ab2 ab3 ab4 ab5 bb0 bb1 cb0 cb1 cb2 cb3 cb4 cb5 db0 db1 hb0 vk0 vk1 vk2 vk3
noncomputable def F.graphite_Parse.L2_graphite_cut_1 {X : Type} (n : Nat) (k0 : Z1 → Int → Z3 → Int → Z5 → Int → Int → Int → Z1 → Int → Z3 → Int → Z5 → Int → Int → Int → Z1 → Nat → Nat → Nat → Nat → Option X) (kr : Z1 → Int → Z3 → Int → Z5 → Int → Int → Int → Z1 → Int → Z3 → Int → Z5 → Int → Int → Int → Z1 → Nat → Nat → Nat → Nat → Option X) : Nat → Int → Int → Bool → Z1 → Int → Z3 → Int → Z5 → Int → Int → Int → Z1 → Int → Z3 → Int → Z5 → Int → Int → Int → Z1 → Nat → Nat → Nat → Nat → Option X
 | 0 => fun _ _ _ _ _ _ _ _ _ _ _ _ _ _ _ _ _ _ _ _ _ _ _ _ => none
 | m + 1 => fun v3 v4 v5 ab0 ab1 ab2 ab3 ab4 ab5 bb0 bb1 cb0 cb1 cb2 cb3 cb4 cb5 db0 db1 hb0 vk0 vk1 vk2 vk3 => F.graphite_Parse.L2_graphite_cut_1.step n (F.graphite_Parse.L2_graphite_cut_1 n k0 kr m) k0 kr v3 v4 v5 ab0 ab1 ab2 ab3 ab4 ab5 bb0 bb1 cb0 cb1 cb2 cb3 cb4 cb5 db0 db1 hb0 vk0 vk1 vk2 vk3
noncomputable def F.graphite_Parse (n : Nat) (a0 : Z1) : Option ((Z16) × (Z15) × Unit) :=
 F.graphite_Parse.L2_graphite_cut_1 n
  (fun g0 g1 g2 g3 g4 g5 h0 h1 i0 i1 i2 i3 i4 i5 j0 j1 l0 ek0 ek1 ek2 ek3 =>
   bif !((j0 == (0 : Int)) && (j1 == (0 : Int))) then
    some ((([], (0 : Int), [], (0 : Int), [], (0 : Int), ()), (j0, j1, ()), ()))
   else
    some (((i0, i1, i2, i3, i4, i5, ()), (j0, j1, ()), ())))
  (fun g0 g1 g2 g3 g4 g5 h0 h1 i0 i1 i2 i3 i4 i5 j0 j1 l0 ek0 ek1 ek2 ek3 =>
   bif !((j0 == (0 : Int)) && (j1 == (0 : Int))) then
    some ((([], (0 : Int), [], (0 : Int), [], (0 : Int), ()), (j0, j1, ()), ()))
   else
    some (((i0, i1, i2, i3, i4, i5, ()), (j0, j1, ()), ()))) n (0 : Int) (0 : Int) true [] (0 : Int) [] (0 : Int) [] (0 : Int) (0 : Int) (0 : Int) [] (2 : Int) [] (1000000 : Int) [] (0 : Int) (0 : Int) (0 : Int) a0 0 0 0 0
noncomputable def F.text_Parse (n : Nat) (a0 : Z1) (a1 : Int) : Option ((Z16) × (Z15) × Unit) :=
 bif a1 == (1 : Int) then
  bif decide ((a0.length : Int) > (8192 : Int)) then
   some ((([], (0 : Int), [], (0 : Int), [], (0 : Int), ()), ((12 : Int), (0 : Int), ()), ()))
  else
   (F.statsd_Parse n a0).bind fun y1 =>
    some (((y1.1.1, y1.1.2.1, y1.1.2.2.1, y1.1.2.2.2.1, y1.1.2.2.2.2.1, y1.1.2.2.2.2.2.1, ()), (y1.2.1.1, y1.2.1.2.1, ()), ()))
 else
 bif a1 == (2 : Int) then
  bif decide ((a0.length : Int) > (8192 : Int)) then
   some ((([], (0 : Int), [], (0 : Int), [], (0 : Int), ()), ((12 : Int), (0 : Int), ()), ()))
  else
   (F.dog_Parse n a0).bind fun y2 =>
    some (((y2.1.1, y2.1.2.1, y2.1.2.2.1, y2.1.2.2.2.1, y2.1.2.2.2.2.1, y2.1.2.2.2.2.2.1, ()), (y2.2.1.1, y2.2.1.2.1, ()), ()))
 else
 bif a1 == (3 : Int) then
  bif decide ((a0.length : Int) > (8192 : Int)) then
   some ((([], (0 : Int), [], (0 : Int), [], (0 : Int), ()), ((12 : Int), (0 : Int), ()), ()))
  else
   (F.graphite_Parse n a0).bind fun y3 =>
    some (((y3.1.1, y3.1.2.1, y3.1.2.2.1, y3.1.2.2.2.1, y3.1.2.2.2.2.1, y3.1.2.2.2.2.2.1, ()), (y3.2.1.1, y3.2.1.2.1, ()), ()))
 else
  some ((([], (0 : Int), [], (0 : Int), [], (0 : Int), ()), ((29 : Int), (0 : Int), ()), ()))
noncomputable def F.frame_Decode (n : Nat) (a0 : Z0) : Option ((Z7) × (Z15) × Unit) := none
noncomputable def F.bytes_Clone (n : Nat) (a0 : Z0) : Option (Z0) :=
 bif List.isEmpty a0 then
  both
   (
    some ([]))
   (
    bif decide ((0 + a0.length) * 1 ≤ 2 ^ 46) && decide (0 < 1 ∧ 1 ≤ 2 ^ 20) then
     some ([] ++ a0)
    else
     none)
 else
 bif decide ((0 + a0.length) * 1 ≤ 2 ^ 46) && decide (0 < 1 ∧ 1 ≤ 2 ^ 20) then
  some ([] ++ a0)
 else
  none
noncomputable def F.frame_head.L2.step {X : Type} (n : Nat) (rec : Z0 → Z24 → Int → Int → Int → Option X) (k0 : Z0 → Int → Int → Option X) (kr : Int → Int → Int → Int → Option X) (v0 : Z0) (v13 : Z24) (v14 : Int) (ab0 : Int) (ab1 : Int) : Option X :=
 bif decide (v14 < (3 : Int)) then
  bif v14 == (0 : Int) then
   bif decide (v14 ≥ (v0.length : Int)) then
    kr (0 : Int) (0 : Int) (0 : Int) (0 : Int)
   else
    (idx v0 v14).bind fun x1 =>
     bif !(((x1).toNat) == v13.1) then
      kr (0 : Int) (0 : Int) v13.2.1 v14
     else
      rec v0 (v13.1, v13.2.1, v13.2.2.1, v13.2.2.2.1, v13.2.2.2.2.1, v13.2.2.2.2.2.1, ()) (IntKind.wrap .i64 (v14 + (1 : Int))) ab0 ab1
  else
  bif v14 == (1 : Int) then
   bif decide (v14 ≥ (v0.length : Int)) then
    kr (0 : Int) (0 : Int) (0 : Int) (0 : Int)
   else
    (idx v0 v14).bind fun x2 =>
     bif !(((x2).toNat) == v13.2.2.1) then
      kr (0 : Int) (0 : Int) v13.2.2.2.1 v14
     else
      rec v0 (v13.1, v13.2.1, v13.2.2.1, v13.2.2.2.1, v13.2.2.2.2.1, v13.2.2.2.2.2.1, ()) (IntKind.wrap .i64 (v14 + (1 : Int))) ab0 ab1
  else
  bif v14 == (2 : Int) then
   bif decide (v14 ≥ (v0.length : Int)) then
    kr (0 : Int) (0 : Int) (0 : Int) (0 : Int)
   else
    (idx v0 v14).bind fun x3 =>
     bif !(((x3).toNat) == v13.2.2.2.2.1) then
      kr (0 : Int) (0 : Int) v13.2.2.2.2.2.1 v14
     else
      rec v0 (v13.1, v13.2.1, v13.2.2.1, v13.2.2.2.1, v13.2.2.2.2.1, v13.2.2.2.2.2.1, ()) (IntKind.wrap .i64 (v14 + (1 : Int))) ab0 ab1
  else
   none
 else
  k0 v0 ab0 ab1
noncomputable def F.frame_head.L2 {X : Type} (n : Nat) (k0 : Z0 → Int → Int → Option X) (kr : Int → Int → Int → Int → Option X) : Nat → Z0 → Z24 → Int → Int → Int → Option X
 | 0 => fun _ _ _ _ _ => none
 | m + 1 => fun v0 v13 v14 ab0 ab1 => F.frame_head.L2.step n (F.frame_head.L2 n k0 kr m) k0 kr v0 v13 v14 ab0 ab1
noncomputable def F.frame_head.L10.step {X : Type} (n : Nat) (rec : Z0 → Int → Int → Int → Int → Option X) (k3 : Int → Int → Option X) (kr : Int → Int → Int → Int → Option X) (v0 : Z0) (v7 : Int) (v8 : Int) (ab0 : Int) (ab1 : Int) : Option X :=
 bif decide (v8 < (v0.length : Int)) then
  (idx v0 v8).bind fun x5 =>
   bif v8 == (5 : Int) then
    bif decide ((IntKind.wrap .i64 ((x5).toNat)) ≥ (128 : Int)) then
     kr (0 : Int) (0 : Int) (12 : Int) v8
    else
    bif decide ((IntKind.wrap .i64 ((7 : Int) * (IntKind.wrap .i64 (v8 - (3 : Int))))) < 0) then
     none
    else
    bif decide ((IntKind.wrap .i64 ((x5).toNat)) ≥ (128 : Int)) then
     rec v0 (bitsA .or .i64 v7 (shlA .i64 ((IntKind.wrap .i64 ((x5).toNat)).tmod (128 : Int)) (IntKind.wrap .i64 ((7 : Int) * (IntKind.wrap .i64 (v8 - (3 : Int))))))) (IntKind.wrap .i64 (v8 + (1 : Int))) ab0 ab1
    else
    bif (IntKind.wrap .i64 ((x5).toNat)) == (0 : Int) then
     bif decide (v8 > (3 : Int)) then
      kr (0 : Int) (0 : Int) (21 : Int) v8
     else
     bif decide ((bitsA .or .i64 v7 (shlA .i64 ((IntKind.wrap .i64 ((x5).toNat)).tmod (128 : Int)) (IntKind.wrap .i64 ((7 : Int) * (IntKind.wrap .i64 (v8 - (3 : Int))))))) > (1048576 : Int)) then
      kr (0 : Int) (0 : Int) (12 : Int) v8
     else
      kr (IntKind.wrap .i64 (v8 + (1 : Int))) (bitsA .or .i64 v7 (shlA .i64 ((IntKind.wrap .i64 ((x5).toNat)).tmod (128 : Int)) (IntKind.wrap .i64 ((7 : Int) * (IntKind.wrap .i64 (v8 - (3 : Int))))))) (0 : Int) (0 : Int)
    else
    bif decide ((bitsA .or .i64 v7 (shlA .i64 ((IntKind.wrap .i64 ((x5).toNat)).tmod (128 : Int)) (IntKind.wrap .i64 ((7 : Int) * (IntKind.wrap .i64 (v8 - (3 : Int))))))) > (1048576 : Int)) then
     kr (0 : Int) (0 : Int) (12 : Int) v8
    else
     kr (IntKind.wrap .i64 (v8 + (1 : Int))) (bitsA .or .i64 v7 (shlA .i64 ((IntKind.wrap .i64 ((x5).toNat)).tmod (128 : Int)) (IntKind.wrap .i64 ((7 : Int) * (IntKind.wrap .i64 (v8 - (3 : Int))))))) (0 : Int) (0 : Int)
   else
   bif decide ((IntKind.wrap .i64 ((7 : Int) * (IntKind.wrap .i64 (v8 - (3 : Int))))) < 0) then
    none
   else
   bif decide ((IntKind.wrap .i64 ((x5).toNat)) ≥ (128 : Int)) then
    rec v0 (bitsA .or .i64 v7 (shlA .i64 ((IntKind.wrap .i64 ((x5).toNat)).tmod (128 : Int)) (IntKind.wrap .i64 ((7 : Int) * (IntKind.wrap .i64 (v8 - (3 : Int))))))) (IntKind.wrap .i64 (v8 + (1 : Int))) ab0 ab1
   else
   bif (IntKind.wrap .i64 ((x5).toNat)) == (0 : Int) then
    bif decide (v8 > (3 : Int)) then
     kr (0 : Int) (0 : Int) (21 : Int) v8
    else
    bif decide ((bitsA .or .i64 v7 (shlA .i64 ((IntKind.wrap .i64 ((x5).toNat)).tmod (128 : Int)) (IntKind.wrap .i64 ((7 : Int) * (IntKind.wrap .i64 (v8 - (3 : Int))))))) > (1048576 : Int)) then
     kr (0 : Int) (0 : Int) (12 : Int) v8
    else
     kr (IntKind.wrap .i64 (v8 + (1 : Int))) (bitsA .or .i64 v7 (shlA .i64 ((IntKind.wrap .i64 ((x5).toNat)).tmod (128 : Int)) (IntKind.wrap .i64 ((7 : Int) * (IntKind.wrap .i64 (v8 - (3 : Int))))))) (0 : Int) (0 : Int)
   else
   bif decide ((bitsA .or .i64 v7 (shlA .i64 ((IntKind.wrap .i64 ((x5).toNat)).tmod (128 : Int)) (IntKind.wrap .i64 ((7 : Int) * (IntKind.wrap .i64 (v8 - (3 : Int))))))) > (1048576 : Int)) then
    kr (0 : Int) (0 : Int) (12 : Int) v8
   else
    kr (IntKind.wrap .i64 (v8 + (1 : Int))) (bitsA .or .i64 v7 (shlA .i64 ((IntKind.wrap .i64 ((x5).toNat)).tmod (128 : Int)) (IntKind.wrap .i64 ((7 : Int) * (IntKind.wrap .i64 (v8 - (3 : Int))))))) (0 : Int) (0 : Int)
 else
  k3 ab0 ab1
noncomputable def F.frame_head.L10 {X : Type} (n : Nat) (k3 : Int → Int → Option X) (kr : Int → Int → Int → Int → Option X) : Nat → Z0 → Int → Int → Int → Int → Option X
 | 0 => fun _ _ _ _ _ => none
 | m + 1 => fun v0 v7 v8 ab0 ab1 => F.frame_head.L10.step n (F.frame_head.L10 n k3 kr m) k3 kr v0 v7 v8 ab0 ab1
noncomputable def F.frame_head (n : Nat) (a0 : Z0) : Option ((Int) × (Int) × (Z15) × Unit) :=
 F.frame_head.L2 n
  (fun e0 g0 g1 =>
   F.frame_head.L10 n
    (fun g0 g1 =>
     some (((0 : Int), (0 : Int), ((0 : Int), (0 : Int), ()), ())))
    (fun e2 e3 g0 g1 =>
     some ((e2, e3, (g0, g1, ()), ()))) n e0 (0 : Int) (3 : Int) g0 g1)
  (fun e2 e3 g0 g1 =>
   some ((e2, e3, (g0, g1, ()), ()))) n a0 ((77 : Int), (22 : Int), (71 : Int), (22 : Int), (1 : Int), (23 : Int), ()) (0 : Int) (0 : Int) (0 : Int)
noncomputable def F.frame_Head (n : Nat) (a0 : Z0) : Option ((Int) × (Z15) × Unit) :=
 (F.frame_head n a0).bind fun y1 =>
  bif y1.1 == (0 : Int) then
   some (((0 : Int), (y1.2.2.1.1, y1.2.2.1.2.1, ()), ()))
  else
   some (((IntKind.wrap .i64 ((IntKind.wrap .i64 (y1.1 + y1.2.1)) + (4 : Int))), (y1.2.2.1.1, y1.2.2.1.2.1, ()), ()))
noncomputable def F.bytes_Cut (n : Nat) (a0 : Z0) (a1 : Z0) : Option ((Z0) × (Z0) × (Bool) × Unit) :=
 (O.bindex n a0 a1).bind fun y1 =>
  bif decide (y1 ≥ (0 : Int)) then
   (sub a0 (0 : Int) y1).bind fun x2 =>
    (sub a0 (IntKind.wrap .i64 (y1 + (a1.length : Int))) (a0.length : Int)).bind fun x3 =>
     some ((x2, x3, true, ()))
  else
   some ((a0, [], false, ()))
noncomputable def F.sess_Whole.L0_line_pieces_1.step {X : Type} (n : Nat) (rec : Int → Bool → Bool → Int → Int → Int → Z0 → Bool → Z9 → Z0 → Z11 → Z0 → Nat → Nat → Nat → Option X) (k0 : Int → Bool → Bool → Int → Int → Int → Z0 → Bool → Z9 → Z0 → Z11 → Z0 → Nat → Nat → Nat → Option X) (ab0 : Int) (ab4 : Bool) (ab5 : Bool) (bb0 : Int) (bb1 : Int) (bb2 : Int) (bb3 : Z0) (bb4 : Bool) (cb0 : Z9) (hb0 : Z0) (jb0 : Z11) (lb0 : Z0) (vk0 : Nat) (vk1 : Nat) (vk2 : Nat) : Option X :=
 bif decide ((lb0.length : Int) > (0 : Int)) then
  (F.bytes_Cut n lb0 ([UInt8.ofNat ((10 : Int)).toNat])).bind fun y1 =>
   bif decide (IntKind.wrap .i64 ((IntKind.wrap .i64 (bb1 + (y1.1.length : Int))) - bb2) > bb0) then
    bif y1.2.2.1 then
     bif !(decide (IntKind.wrap .i64 ((IntKind.wrap .i64 ((IntKind.wrap .i64 ((IntKind.wrap .i64 (bb1 + (y1.1.length : Int))) + (1 : Int))) - (1 : Int))) - bb2) > bb0)) then
      eqK (some [(.sl Y1 jb0 (.own 2))]) (some [(.sl Y1 jb0 (.own 2))]) (
       bif decide ((jb0.length + 1) * 40 ≤ 2 ^ 46) && decide (0 < 40 ∧ 40 ≤ 2 ^ 20) then
        bif Nat.beq vk2 jb0.length then
         rec ab0 ab4 ab5 bb0 (IntKind.wrap .i64 ((IntKind.wrap .i64 (bb1 + (y1.1.length : Int))) + (1 : Int))) (IntKind.wrap .i64 ((IntKind.wrap .i64 (bb1 + (y1.1.length : Int))) + (1 : Int))) [] bb4 cb0 hb0 (jb0 ++ ([(bb2, IntKind.wrap .i64 ((IntKind.wrap .i64 (bb1 + (y1.1.length : Int))) + (1 : Int)), [], decide (IntKind.wrap .i64 ((IntKind.wrap .i64 ((IntKind.wrap .i64 ((IntKind.wrap .i64 (bb1 + (y1.1.length : Int))) + (1 : Int))) - (1 : Int))) - bb2) > bb0))])) y1.2.1 0 vk1 ((jb0 ++ ([(bb2, IntKind.wrap .i64 ((IntKind.wrap .i64 (bb1 + (y1.1.length : Int))) + (1 : Int)), [], decide (IntKind.wrap .i64 ((IntKind.wrap .i64 ((IntKind.wrap .i64 ((IntKind.wrap .i64 (bb1 + (y1.1.length : Int))) + (1 : Int))) - (1 : Int))) - bb2) > bb0))])).length)
        else
         none
       else
        none)
     else
      eqK (some [(.sl Y1 jb0 (.own 2))]) (some [(.sl Y1 jb0 (.own 2))]) (
       bif decide ((jb0.length + 1) * 40 ≤ 2 ^ 46) && decide (0 < 40 ∧ 40 ≤ 2 ^ 20) then
        bif Nat.beq vk2 jb0.length then
         rec ab0 ab4 ab5 bb0 (IntKind.wrap .i64 ((IntKind.wrap .i64 (bb1 + (y1.1.length : Int))) + (1 : Int))) (IntKind.wrap .i64 ((IntKind.wrap .i64 (bb1 + (y1.1.length : Int))) + (1 : Int))) [] bb4 cb0 hb0 (jb0 ++ ([(bb2, IntKind.wrap .i64 ((IntKind.wrap .i64 (bb1 + (y1.1.length : Int))) + (1 : Int)), [], decide (IntKind.wrap .i64 ((IntKind.wrap .i64 ((IntKind.wrap .i64 ((IntKind.wrap .i64 (bb1 + (y1.1.length : Int))) + (1 : Int))) - (1 : Int))) - bb2) > bb0))])) y1.2.1 0 vk1 ((jb0 ++ ([(bb2, IntKind.wrap .i64 ((IntKind.wrap .i64 (bb1 + (y1.1.length : Int))) + (1 : Int)), [], decide (IntKind.wrap .i64 ((IntKind.wrap .i64 ((IntKind.wrap .i64 ((IntKind.wrap .i64 (bb1 + (y1.1.length : Int))) + (1 : Int))) - (1 : Int))) - bb2) > bb0))])).length)
        else
         none
       else
        none)
    else
     rec ab0 ab4 ab5 bb0 (IntKind.wrap .i64 (bb1 + (y1.1.length : Int))) bb2 [] bb4 cb0 hb0 jb0 y1.2.1 0 vk1 vk2
   else
   bif (bb3.length : Int) == (bb3.length : Int) then
    (sub bb3 (0 : Int) (bb3.length : Int)).bind fun x2 =>
     bif decide ((x2.length + y1.1.length) * 1 ≤ 2 ^ 46) && decide (0 < 1 ∧ 1 ≤ 2 ^ 20) then
      bif y1.2.2.1 then
       bif !(decide (IntKind.wrap .i64 ((IntKind.wrap .i64 ((IntKind.wrap .i64 ((IntKind.wrap .i64 (bb1 + (y1.1.length : Int))) + (1 : Int))) - (1 : Int))) - bb2) > bb0)) then
        eqK (some [(.sl Y1 jb0 (.own 2))]) (some [(.sl Y1 jb0 (.own 2))]) (
         bif decide ((jb0.length + 1) * 40 ≤ 2 ^ 46) && decide (0 < 40 ∧ 40 ≤ 2 ^ 20) then
          bif Nat.beq vk2 jb0.length then
           rec ab0 ab4 ab5 bb0 (IntKind.wrap .i64 ((IntKind.wrap .i64 (bb1 + (y1.1.length : Int))) + (1 : Int))) (IntKind.wrap .i64 ((IntKind.wrap .i64 (bb1 + (y1.1.length : Int))) + (1 : Int))) [] bb4 cb0 hb0 (jb0 ++ ([(bb2, IntKind.wrap .i64 ((IntKind.wrap .i64 (bb1 + (y1.1.length : Int))) + (1 : Int)), x2 ++ y1.1, decide (IntKind.wrap .i64 ((IntKind.wrap .i64 ((IntKind.wrap .i64 ((IntKind.wrap .i64 (bb1 + (y1.1.length : Int))) + (1 : Int))) - (1 : Int))) - bb2) > bb0))])) y1.2.1 0 vk1 ((jb0 ++ ([(bb2, IntKind.wrap .i64 ((IntKind.wrap .i64 (bb1 + (y1.1.length : Int))) + (1 : Int)), x2 ++ y1.1, decide (IntKind.wrap .i64 ((IntKind.wrap .i64 ((IntKind.wrap .i64 ((IntKind.wrap .i64 (bb1 + (y1.1.length : Int))) + (1 : Int))) - (1 : Int))) - bb2) > bb0))])).length)
          else
           none
         else
          none)
       else
        eqK (some [(.sl Y1 jb0 (.own 2))]) (some [(.sl Y1 jb0 (.own 2))]) (
         bif decide ((jb0.length + 1) * 40 ≤ 2 ^ 46) && decide (0 < 40 ∧ 40 ≤ 2 ^ 20) then
          bif Nat.beq vk2 jb0.length then
           rec ab0 ab4 ab5 bb0 (IntKind.wrap .i64 ((IntKind.wrap .i64 (bb1 + (y1.1.length : Int))) + (1 : Int))) (IntKind.wrap .i64 ((IntKind.wrap .i64 (bb1 + (y1.1.length : Int))) + (1 : Int))) [] bb4 cb0 hb0 (jb0 ++ ([(bb2, IntKind.wrap .i64 ((IntKind.wrap .i64 (bb1 + (y1.1.length : Int))) + (1 : Int)), [], decide (IntKind.wrap .i64 ((IntKind.wrap .i64 ((IntKind.wrap .i64 ((IntKind.wrap .i64 (bb1 + (y1.1.length : Int))) + (1 : Int))) - (1 : Int))) - bb2) > bb0))])) y1.2.1 0 vk1 ((jb0 ++ ([(bb2, IntKind.wrap .i64 ((IntKind.wrap .i64 (bb1 + (y1.1.length : Int))) + (1 : Int)), [], decide (IntKind.wrap .i64 ((IntKind.wrap .i64 ((IntKind.wrap .i64 ((IntKind.wrap .i64 (bb1 + (y1.1.length : Int))) + (1 : Int))) - (1 : Int))) - bb2) > bb0))])).length)
          else
           none
         else
          none)
      else
       rec ab0 ab4 ab5 bb0 (IntKind.wrap .i64 (bb1 + (y1.1.length : Int))) bb2 (x2 ++ y1.1) bb4 cb0 hb0 jb0 y1.2.1 ((x2 ++ y1.1).length) vk1 vk2
     else
      none
   else
    none
 else
  k0 ab0 ab4 ab5 bb0 bb1 bb2 bb3 bb4 cb0 hb0 jb0 lb0 vk0 vk1 vk2
noncomputable def F.sess_Whole.L0_line_pieces_1 {X : Type} (n : Nat) (k0 : Int → Bool → Bool → Int → Int → Int → Z0 → Bool → Z9 → Z0 → Z11 → Z0 → Nat → Nat → Nat → Option X) : Nat → Int → Bool → Bool → Int → Int → Int → Z0 → Bool → Z9 → Z0 → Z11 → Z0 → Nat → Nat → Nat → Option X
 | 0 => fun _ _ _ _ _ _ _ _ _ _ _ _ _ _ _ => none
 | m + 1 => fun ab0 ab4 ab5 bb0 bb1 bb2 bb3 bb4 cb0 hb0 jb0 lb0 vk0 vk1 vk2 => F.sess_Whole.L0_line_pieces_1.step n (F.sess_Whole.L0_line_pieces_1 n k0 m) k0 ab0 ab4 ab5 bb0 bb1 bb2 bb3 bb4 cb0 hb0 jb0 lb0 vk0 vk1 vk2
noncomputable def F.sess_Whole.L2_sess_Sess_text_1.step {X : Type} (n : Nat) (rec : Z11 → Int → Int → Int → Bool → Bool → Int → Int → Int → Z0 → Bool → Z9 → Z0 → Z11 → Z0 → Nat → Nat → Nat → Option X) (k0 : Int → Bool → Bool → Int → Int → Int → Z0 → Bool → Z9 → Z0 → Z11 → Z0 → Nat → Nat → Option X) (v17 : Z11) (v18 : Int) (v19 : Int) (ab0 : Int) (ab4 : Bool) (ab5 : Bool) (bb0 : Int) (bb1 : Int) (bb2 : Int) (bb3 : Z0) (bb4 : Bool) (cb0 : Z9) (hb0 : Z0) (jb0 : Z11) (lb0 : Z0) (vk0 : Nat) (vk1 : Nat) (vk2 : Nat) : Option X :=
 bif decide (v19 < v18) then
  (idx v17 v19).bind fun x4 =>
   bif x4.2.2.2 then
    bif decide ((cb0.length + 1) * 64 ≤ 2 ^ 46) && decide (0 < 64 ∧ 64 ≤ 2 ^ 20) then
     bif Nat.beq vk2 cb0.length then
      rec v17 v18 (IntKind.wrap .i64 (v19 + (1 : Int))) ab0 ab4 ab5 bb0 bb1 bb2 bb3 bb4 (cb0 ++ ([(2, x4.1, x4.2.1, [], 12, x4.1)])) hb0 jb0 lb0 vk0 vk1 ((cb0 ++ ([(2, x4.1, x4.2.1, [], 12, x4.1)])).length)
     else
      none
    else
     none
   else
    (F.text_Parse n x4.2.2.1 ab0).bind fun y5 =>
     bif !((y5.2.1.1 == (0 : Int)) && (y5.2.1.2.1 == (0 : Int))) then
      bif decide ((cb0.length + 1) * 64 ≤ 2 ^ 46) && decide (0 < 64 ∧ 64 ≤ 2 ^ 20) then
       bif Nat.beq vk2 cb0.length then
        rec v17 v18 (IntKind.wrap .i64 (v19 + (1 : Int))) ab0 ab4 ab5 bb0 bb1 bb2 bb3 bb4 (cb0 ++ ([(2, x4.1, x4.2.1, [], y5.2.1.1, IntKind.wrap .i64 (x4.1 + y5.2.1.2.1))])) hb0 jb0 lb0 vk0 vk1 ((cb0 ++ ([(2, x4.1, x4.2.1, [], y5.2.1.1, IntKind.wrap .i64 (x4.1 + y5.2.1.2.1))])).length)
       else
        none
      else
       none
     else
     bif decide ((cb0.length + 1) * 64 ≤ 2 ^ 46) && decide (0 < 64 ∧ 64 ≤ 2 ^ 20) then
      bif Nat.beq vk2 cb0.length then
       rec v17 v18 (IntKind.wrap .i64 (v19 + (1 : Int))) ab0 ab4 ab5 bb0 bb1 bb2 bb3 bb4 (cb0 ++ ([(1, x4.1, x4.2.1, [(y5.1.1, y5.1.2.1, y5.1.2.2.1, y5.1.2.2.2.1, y5.1.2.2.2.2.1, y5.1.2.2.2.2.2.1)], 0, 0)])) hb0 jb0 lb0 vk0 vk1 ((cb0 ++ ([(1, x4.1, x4.2.1, [(y5.1.1, y5.1.2.1, y5.1.2.2.1, y5.1.2.2.2.1, y5.1.2.2.2.2.1, y5.1.2.2.2.2.2.1)], 0, 0)])).length)
      else
       none
     else
      none
 else
  k0 ab0 ab4 ab5 bb0 bb1 bb2 bb3 bb4 cb0 hb0 jb0 lb0 vk1 vk2
noncomputable def F.sess_Whole.L2_sess_Sess_text_1 {X : Type} (n : Nat) (k0 : Int → Bool → Bool → Int → Int → Int → Z0 → Bool → Z9 → Z0 → Z11 → Z0 → Nat → Nat → Option X) : Nat → Z11 → Int → Int → Int → Bool → Bool → Int → Int → Int → Z0 → Bool → Z9 → Z0 → Z11 → Z0 → Nat → Nat → Nat → Option X
 | 0 => fun _ _ _ _ _ _ _ _ _ _ _ _ _ _ _ _ _ _ => none
 | m + 1 => fun v17 v18 v19 ab0 ab4 ab5 bb0 bb1 bb2 bb3 bb4 cb0 hb0 jb0 lb0 vk0 vk1 vk2 => F.sess_Whole.L2_sess_Sess_text_1.step n (F.sess_Whole.L2_sess_Sess_text_1 n k0 m) k0 v17 v18 v19 ab0 ab4 ab5 bb0 bb1 bb2 bb3 bb4 cb0 hb0 jb0 lb0 vk0 vk1 vk2
noncomputable def F.sess_Whole.C8 {X : Type} (n : Nat) (kr : Z9 → Int → Nat → Option X) (c9 : Int) (c10 : Z9) (c11 : Z9) (ck0 : Nat) (ck1 : Nat) : Option X :=
 bif !(c9 == (0 : Int)) then
  kr [] c9 0
 else
 bif decide ((c10.length + c11.length) * 64 ≤ 2 ^ 46) && decide (0 < 64 ∧ 64 ≤ 2 ^ 20) then
  bif Nat.beq ck0 c10.length then
   kr (c10 ++ c11) (0 : Int) ((c10 ++ c11).length)
  else
   none
 else
  none
noncomputable def F.sess_Whole.C5 {X : Type} (n : Nat) (kr : Z9 → Int → Nat → Option X) (krx1 : Z9 → Int → Nat → Option X) (c9 : Int) (c10 : Z9) (ab0 : Int) (ab4 : Bool) (ab5 : Bool) (bb0 : Int) (bb1 : Int) (bb2 : Int) (bb3 : Z0) (bb4 : Bool) (ck0 : Nat) (ck1 : Nat) : Option X :=
 bif !(c9 == (0 : Int)) then
  kr [] c9 0
 else
 bif ab5 then
  F.sess_Whole.C8 n
   (fun e6 e7 ek0 =>
    kr e6 e7 ek0) (28 : Int) c10 [] ck0 0
 else
 bif ab4 then
  F.sess_Whole.C8 n
   (fun e6 e7 ek0 =>
    kr e6 e7 ek0) (0 : Int) c10 [] ck0 0
 else
 bif ab0 == (4 : Int) then
  F.sess_Whole.C8 n
   (fun e6 e7 ek0 =>
    kr e6 e7 ek0) (0 : Int) c10 [] ck0 0
 else
 bif bb4 then
  F.sess_Whole.C8 n
   (fun e6 e7 ek0 =>
    kr e6 e7 ek0) (0 : Int) c10 [] ck0 0
 else
 bif bb1 == bb2 then
  F.sess_Whole.C8 n
   (fun e6 e7 ek0 =>
    kr e6 e7 ek0) (0 : Int) c10 [] ck0 0
 else
 bif !(decide (IntKind.wrap .i64 (bb1 - bb2) > bb0)) then
  F.sess_Whole.C8 n
   (fun e6 e7 ek0 =>
    kr e6 e7 ek0) (0 : Int) c10 ([(3, bb2, bb1, [], 30, bb2)]) ck0 1
 else
  F.sess_Whole.C8 n
   (fun e6 e7 ek0 =>
    kr e6 e7 ek0) (0 : Int) c10 ([(3, bb2, bb1, [], 30, bb2)]) ck0 1
noncomputable def F.sess_Whole.L0_chunk_Framer_frames_1.step {X : Type} (n : Nat) (rec : Int → Bool → Bool → Int → Int → Z0 → Int → Bool → Z9 → Z0 → Z14 → Z0 → Nat → Nat → Nat → Option X) (k0 : Int → Bool → Bool → Int → Int → Z0 → Int → Bool → Z9 → Z0 → Z14 → Z0 → Nat → Nat → Nat → Option X) (kr : Int → Bool → Bool → Int → Int → Z0 → Int → Bool → Z9 → Z0 → Z14 → Z0 → Nat → Nat → Nat → Nat → Option X) (ab0 : Int) (ab4 : Bool) (ab5 : Bool) (bb0 : Int) (bb1 : Int) (bb2 : Z0) (bb3 : Int) (bb4 : Bool) (cb0 : Z9) (hb0 : Z0) (ib0 : Z14) (lb0 : Z0) (vk0 : Nat) (vk1 : Nat) (vk2 : Nat) : Option X :=
 bif decide ((lb0.length : Int) > (0 : Int)) then
  bif decide (bb3 > (0 : Int)) then
   (sub lb0 (0 : Int) (if (lb0.length : Int) < (IntKind.wrap .i64 (bb3 - (bb2.length : Int))) then (lb0.length : Int) else (IntKind.wrap .i64 (bb3 - (bb2.length : Int))))).bind fun x26 =>
    bif decide ((bb2.length + x26.length) * 1 ≤ 2 ^ 46) && decide (0 < 1 ∧ 1 ≤ 2 ^ 20) then
     bif Nat.beq vk0 bb2.length then
      (sub lb0 (if (lb0.length : Int) < (IntKind.wrap .i64 (bb3 - (bb2.length : Int))) then (lb0.length : Int) else (IntKind.wrap .i64 (bb3 - (bb2.length : Int)))) (lb0.length : Int)).bind fun x27 =>
       bif bb3 == (0 : Int) then
        rec ab0 ab4 ab5 bb0 (IntKind.wrap .i64 (bb1 + (x26.length : Int))) (bb2 ++ x26) bb3 bb4 cb0 hb0 ib0 x27 ((bb2 ++ x26).length) vk1 vk2
       else
       bif decide (((bb2 ++ x26).length : Int) < bb3) then
        rec ab0 ab4 ab5 bb0 (IntKind.wrap .i64 (bb1 + (x26.length : Int))) (bb2 ++ x26) bb3 bb4 cb0 hb0 ib0 x27 ((bb2 ++ x26).length) vk1 vk2
       else
       bif decide ((ib0.length + 1) * 56 ≤ 2 ^ 46) && decide (0 < 56 ∧ 56 ≤ 2 ^ 20) then
        bif Nat.beq vk2 ib0.length then
         rec ab0 ab4 ab5 bb0 (IntKind.wrap .i64 (bb1 + (x26.length : Int))) [] (0 : Int) bb4 cb0 hb0 (ib0 ++ ([(IntKind.wrap .i64 ((IntKind.wrap .i64 (bb1 + (x26.length : Int))) - ((bb2 ++ x26).length : Int)), IntKind.wrap .i64 (bb1 + (x26.length : Int)), bb2 ++ x26, (0, 0))])) x27 0 vk1 ((ib0 ++ ([(IntKind.wrap .i64 ((IntKind.wrap .i64 (bb1 + (x26.length : Int))) - ((bb2 ++ x26).length : Int)), IntKind.wrap .i64 (bb1 + (x26.length : Int)), bb2 ++ x26, (0, 0))])).length)
        else
         none
       else
        none
     else
      none
    else
     none
  else
   (sub lb0 (0 : Int) (1 : Int)).bind fun x28 =>
    bif decide ((bb2.length + x28.length) * 1 ≤ 2 ^ 46) && decide (0 < 1 ∧ 1 ≤ 2 ^ 20) then
     bif Nat.beq vk0 bb2.length then
      (F.frame_Head n (bb2 ++ x28)).bind fun y29 =>
       bif !((y29.2.1.1 == (0 : Int)) && (y29.2.1.2.1 == (0 : Int))) then
        bif !(y29.2.1.1 == (0 : Int)) then
         bif decide ((ib0.length + 1) * 56 ≤ 2 ^ 46) && decide (0 < 56 ∧ 56 ≤ 2 ^ 20) then
          bif Nat.beq vk2 ib0.length then
           kr ab0 ab4 ab5 bb0 (IntKind.wrap .i64 (bb1 + (x28.length : Int))) [] (0 : Int) true cb0 hb0 (ib0 ++ ([(IntKind.wrap .i64 ((IntKind.wrap .i64 (bb1 + (x28.length : Int))) - ((bb2 ++ x28).length : Int)), IntKind.wrap .i64 (bb1 + (x28.length : Int)), [], (y29.2.1.1, IntKind.wrap .i64 ((IntKind.wrap .i64 (bb1 + (x28.length : Int))) - (1 : Int))))])) [] 0 vk1 ((ib0 ++ ([(IntKind.wrap .i64 ((IntKind.wrap .i64 (bb1 + (x28.length : Int))) - ((bb2 ++ x28).length : Int)), IntKind.wrap .i64 (bb1 + (x28.length : Int)), [], (y29.2.1.1, IntKind.wrap .i64 ((IntKind.wrap .i64 (bb1 + (x28.length : Int))) - (1 : Int))))])).length) 0
          else
           none
         else
          none
        else
        bif bb3 == (0 : Int) then
         rec ab0 ab4 ab5 bb0 (IntKind.wrap .i64 (bb1 + (x28.length : Int))) (bb2 ++ x28) bb3 bb4 cb0 hb0 ib0 [] ((bb2 ++ x28).length) vk1 vk2
        else
        bif decide (((bb2 ++ x28).length : Int) < bb3) then
         rec ab0 ab4 ab5 bb0 (IntKind.wrap .i64 (bb1 + (x28.length : Int))) (bb2 ++ x28) bb3 bb4 cb0 hb0 ib0 [] ((bb2 ++ x28).length) vk1 vk2
        else
        bif decide ((ib0.length + 1) * 56 ≤ 2 ^ 46) && decide (0 < 56 ∧ 56 ≤ 2 ^ 20) then
         bif Nat.beq vk2 ib0.length then
          rec ab0 ab4 ab5 bb0 (IntKind.wrap .i64 (bb1 + (x28.length : Int))) [] (0 : Int) bb4 cb0 hb0 (ib0 ++ ([(IntKind.wrap .i64 ((IntKind.wrap .i64 (bb1 + (x28.length : Int))) - ((bb2 ++ x28).length : Int)), IntKind.wrap .i64 (bb1 + (x28.length : Int)), bb2 ++ x28, (0, 0))])) [] 0 vk1 ((ib0 ++ ([(IntKind.wrap .i64 ((IntKind.wrap .i64 (bb1 + (x28.length : Int))) - ((bb2 ++ x28).length : Int)), IntKind.wrap .i64 (bb1 + (x28.length : Int)), bb2 ++ x28, (0, 0))])).length)
         else
          none
        else
         none
       else
       bif decide (y29.1 > (0 : Int)) then
        bif decide ((IntKind.wrap .i64 ((IntKind.wrap .i64 (y29.1 - ((bb2 ++ x28).length : Int))) - (4 : Int))) > bb0) then
         bif decide ((ib0.length + 1) * 56 ≤ 2 ^ 46) && decide (0 < 56 ∧ 56 ≤ 2 ^ 20) then
          bif Nat.beq vk2 ib0.length then
           kr ab0 ab4 ab5 bb0 (IntKind.wrap .i64 (bb1 + (x28.length : Int))) [] (0 : Int) true cb0 hb0 (ib0 ++ ([(IntKind.wrap .i64 ((IntKind.wrap .i64 (bb1 + (x28.length : Int))) - ((bb2 ++ x28).length : Int)), IntKind.wrap .i64 (bb1 + (x28.length : Int)), [], (12, IntKind.wrap .i64 ((IntKind.wrap .i64 (bb1 + (x28.length : Int))) - (1 : Int))))])) [] 0 vk1 ((ib0 ++ ([(IntKind.wrap .i64 ((IntKind.wrap .i64 (bb1 + (x28.length : Int))) - ((bb2 ++ x28).length : Int)), IntKind.wrap .i64 (bb1 + (x28.length : Int)), [], (12, IntKind.wrap .i64 ((IntKind.wrap .i64 (bb1 + (x28.length : Int))) - (1 : Int))))])).length) 0
          else
           none
         else
          none
        else
         (sub lb0 (1 : Int) (lb0.length : Int)).bind fun x30 =>
          bif y29.1 == (0 : Int) then
           rec ab0 ab4 ab5 bb0 (IntKind.wrap .i64 (bb1 + (x28.length : Int))) (bb2 ++ x28) y29.1 bb4 cb0 hb0 ib0 x30 ((bb2 ++ x28).length) vk1 vk2
          else
          bif decide (((bb2 ++ x28).length : Int) < y29.1) then
           rec ab0 ab4 ab5 bb0 (IntKind.wrap .i64 (bb1 + (x28.length : Int))) (bb2 ++ x28) y29.1 bb4 cb0 hb0 ib0 x30 ((bb2 ++ x28).length) vk1 vk2
          else
          bif decide ((ib0.length + 1) * 56 ≤ 2 ^ 46) && decide (0 < 56 ∧ 56 ≤ 2 ^ 20) then
           bif Nat.beq vk2 ib0.length then
            rec ab0 ab4 ab5 bb0 (IntKind.wrap .i64 (bb1 + (x28.length : Int))) [] (0 : Int) bb4 cb0 hb0 (ib0 ++ ([(IntKind.wrap .i64 ((IntKind.wrap .i64 (bb1 + (x28.length : Int))) - ((bb2 ++ x28).length : Int)), IntKind.wrap .i64 (bb1 + (x28.length : Int)), bb2 ++ x28, (0, 0))])) x30 0 vk1 ((ib0 ++ ([(IntKind.wrap .i64 ((IntKind.wrap .i64 (bb1 + (x28.length : Int))) - ((bb2 ++ x28).length : Int)), IntKind.wrap .i64 (bb1 + (x28.length : Int)), bb2 ++ x28, (0, 0))])).length)
           else
            none
          else
           none
       else
        (sub lb0 (1 : Int) (lb0.length : Int)).bind fun x31 =>
         bif y29.1 == (0 : Int) then
          rec ab0 ab4 ab5 bb0 (IntKind.wrap .i64 (bb1 + (x28.length : Int))) (bb2 ++ x28) y29.1 bb4 cb0 hb0 ib0 x31 ((bb2 ++ x28).length) vk1 vk2
         else
         bif decide (((bb2 ++ x28).length : Int) < y29.1) then
          rec ab0 ab4 ab5 bb0 (IntKind.wrap .i64 (bb1 + (x28.length : Int))) (bb2 ++ x28) y29.1 bb4 cb0 hb0 ib0 x31 ((bb2 ++ x28).length) vk1 vk2
         else
         bif decide ((ib0.length + 1) * 56 ≤ 2 ^ 46) && decide (0 < 56 ∧ 56 ≤ 2 ^ 20) then
          bif Nat.beq vk2 ib0.length then
           rec ab0 ab4 ab5 bb0 (IntKind.wrap .i64 (bb1 + (x28.length : Int))) [] (0 : Int) bb4 cb0 hb0 (ib0 ++ ([(IntKind.wrap .i64 ((IntKind.wrap .i64 (bb1 + (x28.length : Int))) - ((bb2 ++ x28).length : Int)), IntKind.wrap .i64 (bb1 + (x28.length : Int)), bb2 ++ x28, (0, 0))])) x31 0 vk1 ((ib0 ++ ([(IntKind.wrap .i64 ((IntKind.wrap .i64 (bb1 + (x28.length : Int))) - ((bb2 ++ x28).length : Int)), IntKind.wrap .i64 (bb1 + (x28.length : Int)), bb2 ++ x28, (0, 0))])).length)
          else
           none
         else
          none
     else
      none
    else
     none
 else
  k0 ab0 ab4 ab5 bb0 bb1 bb2 bb3 bb4 cb0 hb0 ib0 lb0 vk0 vk1 vk2
noncomputable def F.sess_Whole.L0_chunk_Framer_frames_1 {X : Type} (n : Nat) (k0 : Int → Bool → Bool → Int → Int → Z0 → Int → Bool → Z9 → Z0 → Z14 → Z0 → Nat → Nat → Nat → Option X) (kr : Int → Bool → Bool → Int → Int → Z0 → Int → Bool → Z9 → Z0 → Z14 → Z0 → Nat → Nat → Nat → Nat → Option X) : Nat → Int → Bool → Bool → Int → Int → Z0 → Int → Bool → Z9 → Z0 → Z14 → Z0 → Nat → Nat → Nat → Option X
 | 0 => fun _ _ _ _ _ _ _ _ _ _ _ _ _ _ _ => none
 | m + 1 => fun ab0 ab4 ab5 bb0 bb1 bb2 bb3 bb4 cb0 hb0 ib0 lb0 vk0 vk1 vk2 => F.sess_Whole.L0_chunk_Framer_frames_1.step n (F.sess_Whole.L0_chunk_Framer_frames_1 n k0 kr m) k0 kr ab0 ab4 ab5 bb0 bb1 bb2 bb3 bb4 cb0 hb0 ib0 lb0 vk0 vk1 vk2
noncomputable def F.sess_Whole.L2_sess_Sess_binary_1.step {X : Type} (n : Nat) (rec : Z14 → Int → Int → Int → Bool → Bool → Int → Int → Z0 → Int → Bool → Z9 → Z0 → Z14 → Z0 → Nat → Nat → Nat → Option X) (k0 : Int → Bool → Bool → Int → Int → Z0 → Int → Bool → Z9 → Z0 → Z14 → Z0 → Nat → Nat → Option X) (kr : Int → Bool → Bool → Int → Int → Z0 → Int → Bool → Z9 → Z0 → Z14 → Z0 → Nat → Nat → Option X) (v20 : Z14) (v21 : Int) (v22 : Int) (ab0 : Int) (ab4 : Bool) (ab5 : Bool) (bb0 : Int) (bb1 : Int) (bb2 : Z0) (bb3 : Int) (bb4 : Bool) (cb0 : Z9) (hb0 : Z0) (ib0 : Z14) (lb0 : Z0) (vk0 : Nat) (vk1 : Nat) (vk2 : Nat) : Option X :=
 bif decide (v22 < v21) then
  (idx v20 v22).bind fun x33 =>
   bif (x33.2.2.2.1 == (0 : Int)) && (x33.2.2.2.2 == (0 : Int)) then
    (F.frame_Decode n x33.2.2.1).bind fun y34 =>
     bif (y34.2.1.1 == (0 : Int)) && (y34.2.1.2.1 == (0 : Int)) then
      bif decide ((cb0.length + 1) * 64 ≤ 2 ^ 46) && decide (0 < 64 ∧ 64 ≤ 2 ^ 20) then
       bif Nat.beq vk2 cb0.length then
        rec v20 v21 (IntKind.wrap .i64 (v22 + (1 : Int))) ab0 false ab5 bb0 bb1 bb2 bb3 bb4 (cb0 ++ ([(1, x33.1, x33.2.1, y34.1, 0, 0)])) hb0 ib0 lb0 vk0 vk1 ((cb0 ++ ([(1, x33.1, x33.2.1, y34.1, 0, 0)])).length)
       else
        none
      else
       none
     else
     bif decide ((cb0.length + 1) * 64 ≤ 2 ^ 46) && decide (0 < 64 ∧ 64 ≤ 2 ^ 20) then
      bif Nat.beq vk2 cb0.length then
       kr ab0 true ab5 bb0 bb1 bb2 bb3 bb4 (cb0 ++ ([(2, x33.1, x33.2.1, [], y34.2.1.1, IntKind.wrap .i64 (x33.1 + y34.2.1.2.1))])) hb0 ib0 lb0 vk1 ((cb0 ++ ([(2, x33.1, x33.2.1, [], y34.2.1.1, IntKind.wrap .i64 (x33.1 + y34.2.1.2.1))])).length)
      else
       none
     else
      none
   else
   bif decide ((cb0.length + 1) * 64 ≤ 2 ^ 46) && decide (0 < 64 ∧ 64 ≤ 2 ^ 20) then
    bif Nat.beq vk2 cb0.length then
     kr ab0 true ab5 bb0 bb1 bb2 bb3 bb4 (cb0 ++ ([(2, x33.1, x33.2.1, [], x33.2.2.2.1, x33.2.2.2.2)])) hb0 ib0 lb0 vk1 ((cb0 ++ ([(2, x33.1, x33.2.1, [], x33.2.2.2.1, x33.2.2.2.2)])).length)
    else
     none
   else
    none
 else
  k0 ab0 ab4 ab5 bb0 bb1 bb2 bb3 bb4 cb0 hb0 ib0 lb0 vk1 vk2
noncomputable def F.sess_Whole.L2_sess_Sess_binary_1 {X : Type} (n : Nat) (k0 : Int → Bool → Bool → Int → Int → Z0 → Int → Bool → Z9 → Z0 → Z14 → Z0 → Nat → Nat → Option X) (kr : Int → Bool → Bool → Int → Int → Z0 → Int → Bool → Z9 → Z0 → Z14 → Z0 → Nat → Nat → Option X) : Nat → Z14 → Int → Int → Int → Bool → Bool → Int → Int → Z0 → Int → Bool → Z9 → Z0 → Z14 → Z0 → Nat → Nat → Nat → Option X
 | 0 => fun _ _ _ _ _ _ _ _ _ _ _ _ _ _ _ _ _ _ => none
 | m + 1 => fun v20 v21 v22 ab0 ab4 ab5 bb0 bb1 bb2 bb3 bb4 cb0 hb0 ib0 lb0 vk0 vk1 vk2 => F.sess_Whole.L2_sess_Sess_binary_1.step n (F.sess_Whole.L2_sess_Sess_binary_1 n k0 kr m) k0 kr v20 v21 v22 ab0 ab4 ab5 bb0 bb1 bb2 bb3 bb4 cb0 hb0 ib0 lb0 vk0 vk1 vk2
noncomputable def F.sess_Whole.C5_1 {X : Type} (n : Nat) (kr : Z9 → Int → Nat → Option X) (krx1 : Z9 → Int → Nat → Option X) (c9 : Int) (c10 : Z9) (ab0 : Int) (ab4 : Bool) (ab5 : Bool) (bb0 : Int) (bb1 : Int) (bb2 : Z0) (bb3 : Int) (bb4 : Bool) (ck0 : Nat) (ck1 : Nat) : Option X :=
 bif !(c9 == (0 : Int)) then
  kr [] c9 0
 else
 bif ab5 then
  F.sess_Whole.C8 n
   (fun e6 e7 ek0 =>
    kr e6 e7 ek0) (28 : Int) c10 [] ck0 0
 else
 bif ab4 then
  F.sess_Whole.C8 n
   (fun e6 e7 ek0 =>
    kr e6 e7 ek0) (0 : Int) c10 [] ck0 0
 else
 bif ab0 == (4 : Int) then
  bif bb4 then
   F.sess_Whole.C8 n
    (fun e6 e7 ek0 =>
     kr e6 e7 ek0) (0 : Int) c10 [] ck0 0
  else
  bif (bb2.length : Int) == (0 : Int) then
   F.sess_Whole.C8 n
    (fun e6 e7 ek0 =>
     kr e6 e7 ek0) (0 : Int) c10 [] ck0 0
  else
   F.sess_Whole.C8 n
    (fun e6 e7 ek0 =>
     kr e6 e7 ek0) (0 : Int) c10 ([(3, IntKind.wrap .i64 (bb1 - (bb2.length : Int)), bb1, [], 30, IntKind.wrap .i64 (bb1 - (bb2.length : Int)))]) ck0 1
 else
  F.sess_Whole.C8 n
   (fun e6 e7 ek0 =>
    kr e6 e7 ek0) (0 : Int) c10 [] ck0 0
noncomputable def F.sess_Whole (n : Nat) (a0 : Int) (a1 : Int) (a2 : Z0) : Option ((Z9) × (Int) × Unit) :=
 bif a0 == (1 : Int) then
  bif a0 == (1 : Int) then
   bif decide (a1 < (1 : Int)) then
    some (([], (10 : Int), ()))
   else
   bif decide (a1 > (8192 : Int)) then
    some (([], (10 : Int), ()))
   else
    F.sess_Whole.L0_line_pieces_1 n
     (fun g0 g4 g5 h0 h1 h2 h3 h4 i0 l0 p0 q0 ek0 ek1 ek2 =>
      F.sess_Whole.L2_sess_Sess_text_1 n
       (fun g0 g4 g5 h0 h1 h2 h3 h4 i0 l0 p0 q0 ek0 ek1 =>
        bif g4 then
         F.sess_Whole.C5 n
          (fun e6 e7 ek0 =>
           some ((e6, e7, ())))
          (fun e6 e7 ek0 =>
           some ((e6, e7, ()))) (0 : Int) i0 g0 g4 g5 h0 h1 h2 h3 h4 ek1 ek0
        else
         F.sess_Whole.C5 n
          (fun e6 e7 ek0 =>
           some ((e6, e7, ())))
          (fun e6 e7 ek0 =>
           some ((e6, e7, ()))) (0 : Int) i0 g0 g4 g5 h0 h1 h2 h3 h4 ek1 ek0) n p0 (p0.length : Int) (0 : Int) g0 g4 g5 h0 h1 h2 h3 h4 i0 l0 p0 q0 ek2 ek0 ek1) n a0 false false a1 (0 : Int) (0 : Int) [] false [] a2 [] a2 0 0 0
  else
  bif a0 == (4 : Int) then
   bif decide (a1 < (1 : Int)) then
    some (([], (10 : Int), ()))
   else
   bif decide (a1 > (1048576 : Int)) then
    some (([], (10 : Int), ()))
   else
    (F.bytes_Clone n a2).bind fun y25 =>
     F.sess_Whole.L0_chunk_Framer_frames_1 n
      (fun g0 g4 g5 h0 h1 h2 h3 h4 i0 l0 o0 q0 ek0 ek1 ek2 =>
       F.sess_Whole.L2_sess_Sess_binary_1 n
        (fun g0 g4 g5 h0 h1 h2 h3 h4 i0 l0 o0 q0 ek0 ek1 =>
         bif g4 then
          F.sess_Whole.C5_1 n
           (fun e6 e7 ek0 =>
            some ((e6, e7, ())))
           (fun e6 e7 ek0 =>
            some ((e6, e7, ()))) (0 : Int) i0 g0 g4 g5 h0 h1 [] (0 : Int) true ek1 0
         else
          F.sess_Whole.C5_1 n
           (fun e6 e7 ek0 =>
            some ((e6, e7, ())))
           (fun e6 e7 ek0 =>
            some ((e6, e7, ()))) (0 : Int) i0 g0 g4 g5 h0 h1 h2 h3 h4 ek1 ek0)
        (fun g0 g4 g5 h0 h1 h2 h3 h4 i0 l0 o0 q0 ek0 ek1 =>
         bif g4 then
          F.sess_Whole.C5_1 n
           (fun e6 e7 ek0 =>
            some ((e6, e7, ())))
           (fun e6 e7 ek0 =>
            some ((e6, e7, ()))) (0 : Int) i0 g0 g4 g5 h0 h1 [] (0 : Int) true ek1 0
         else
          F.sess_Whole.C5_1 n
           (fun e6 e7 ek0 =>
            some ((e6, e7, ())))
           (fun e6 e7 ek0 =>
            some ((e6, e7, ()))) (0 : Int) i0 g0 g4 g5 h0 h1 h2 h3 h4 ek1 ek0) n o0 (o0.length : Int) (0 : Int) g0 g4 g5 h0 h1 h2 h3 h4 i0 l0 o0 q0 ek2 ek0 ek1)
      (fun g0 g4 g5 h0 h1 h2 h3 h4 i0 l0 o0 q0 ek0 ek1 ek2 ek3 =>
       F.sess_Whole.L2_sess_Sess_binary_1 n
        (fun g0 g4 g5 h0 h1 h2 h3 h4 i0 l0 o0 q0 ek0 ek1 =>
         bif g4 then
          F.sess_Whole.C5_1 n
           (fun e6 e7 ek0 =>
            some ((e6, e7, ())))
           (fun e6 e7 ek0 =>
            some ((e6, e7, ()))) (0 : Int) i0 g0 g4 g5 h0 h1 [] (0 : Int) true ek1 0
         else
          F.sess_Whole.C5_1 n
           (fun e6 e7 ek0 =>
            some ((e6, e7, ())))
           (fun e6 e7 ek0 =>
            some ((e6, e7, ()))) (0 : Int) i0 g0 g4 g5 h0 h1 h2 h3 h4 ek1 ek0)
        (fun g0 g4 g5 h0 h1 h2 h3 h4 i0 l0 o0 q0 ek0 ek1 =>
         bif g4 then
          F.sess_Whole.C5_1 n
           (fun e6 e7 ek0 =>
            some ((e6, e7, ())))
           (fun e6 e7 ek0 =>
            some ((e6, e7, ()))) (0 : Int) i0 g0 g4 g5 h0 h1 [] (0 : Int) true ek1 0
         else
          F.sess_Whole.C5_1 n
           (fun e6 e7 ek0 =>
            some ((e6, e7, ())))
           (fun e6 e7 ek0 =>
            some ((e6, e7, ()))) (0 : Int) i0 g0 g4 g5 h0 h1 h2 h3 h4 ek1 ek0) n o0 (o0.length : Int) (0 : Int) g0 g4 g5 h0 h1 h2 h3 h4 i0 l0 o0 q0 ek2 ek0 ek1) n a0 false false a1 (0 : Int) [] (0 : Int) false [] a2 [] y25 0 0 0
  else
   some (([], (29 : Int), ()))
 else
 bif a0 == (2 : Int) then
  bif a0 == (2 : Int) then
   bif decide (a1 < (1 : Int)) then
    some (([], (10 : Int), ()))
   else
   bif decide (a1 > (8192 : Int)) then
    some (([], (10 : Int), ()))
   else
    F.sess_Whole.L0_line_pieces_1 n
     (fun g0 g4 g5 h0 h1 h2 h3 h4 i0 l0 p0 q0 ek0 ek1 ek2 =>
      F.sess_Whole.L2_sess_Sess_text_1 n
       (fun g0 g4 g5 h0 h1 h2 h3 h4 i0 l0 p0 q0 ek0 ek1 =>
        bif g4 then
         F.sess_Whole.C5 n
          (fun e6 e7 ek0 =>
           some ((e6, e7, ())))
          (fun e6 e7 ek0 =>
           some ((e6, e7, ()))) (0 : Int) i0 g0 g4 g5 h0 h1 h2 h3 h4 ek1 ek0
        else
         F.sess_Whole.C5 n
          (fun e6 e7 ek0 =>
           some ((e6, e7, ())))
          (fun e6 e7 ek0 =>
           some ((e6, e7, ()))) (0 : Int) i0 g0 g4 g5 h0 h1 h2 h3 h4 ek1 ek0) n p0 (p0.length : Int) (0 : Int) g0 g4 g5 h0 h1 h2 h3 h4 i0 l0 p0 q0 ek2 ek0 ek1) n a0 false false a1 (0 : Int) (0 : Int) [] false [] a2 [] a2 0 0 0
  else
  bif a0 == (4 : Int) then
   bif decide (a1 < (1 : Int)) then
    some (([], (10 : Int), ()))
   else
   bif decide (a1 > (1048576 : Int)) then
    some (([], (10 : Int), ()))
   else
    (F.bytes_Clone n a2).bind fun y74 =>
     F.sess_Whole.L0_chunk_Framer_frames_1 n
      (fun g0 g4 g5 h0 h1 h2 h3 h4 i0 l0 o0 q0 ek0 ek1 ek2 =>
       F.sess_Whole.L2_sess_Sess_binary_1 n
        (fun g0 g4 g5 h0 h1 h2 h3 h4 i0 l0 o0 q0 ek0 ek1 =>
         bif g4 then
          F.sess_Whole.C5_1 n
           (fun e6 e7 ek0 =>
            some ((e6, e7, ())))
           (fun e6 e7 ek0 =>
            some ((e6, e7, ()))) (0 : Int) i0 g0 g4 g5 h0 h1 [] (0 : Int) true ek1 0
         else
          F.sess_Whole.C5_1 n
           (fun e6 e7 ek0 =>
            some ((e6, e7, ())))
           (fun e6 e7 ek0 =>
            some ((e6, e7, ()))) (0 : Int) i0 g0 g4 g5 h0 h1 h2 h3 h4 ek1 ek0)
        (fun g0 g4 g5 h0 h1 h2 h3 h4 i0 l0 o0 q0 ek0 ek1 =>
         bif g4 then
          F.sess_Whole.C5_1 n
           (fun e6 e7 ek0 =>
            some ((e6, e7, ())))
           (fun e6 e7 ek0 =>
            some ((e6, e7, ()))) (0 : Int) i0 g0 g4 g5 h0 h1 [] (0 : Int) true ek1 0
         else
          F.sess_Whole.C5_1 n
           (fun e6 e7 ek0 =>
            some ((e6, e7, ())))
           (fun e6 e7 ek0 =>
            some ((e6, e7, ()))) (0 : Int) i0 g0 g4 g5 h0 h1 h2 h3 h4 ek1 ek0) n o0 (o0.length : Int) (0 : Int) g0 g4 g5 h0 h1 h2 h3 h4 i0 l0 o0 q0 ek2 ek0 ek1)
      (fun g0 g4 g5 h0 h1 h2 h3 h4 i0 l0 o0 q0 ek0 ek1 ek2 ek3 =>
       F.sess_Whole.L2_sess_Sess_binary_1 n
        (fun g0 g4 g5 h0 h1 h2 h3 h4 i0 l0 o0 q0 ek0 ek1 =>
         bif g4 then
          F.sess_Whole.C5_1 n
           (fun e6 e7 ek0 =>
            some ((e6, e7, ())))
           (fun e6 e7 ek0 =>
            some ((e6, e7, ()))) (0 : Int) i0 g0 g4 g5 h0 h1 [] (0 : Int) true ek1 0
         else
          F.sess_Whole.C5_1 n
           (fun e6 e7 ek0 =>
            some ((e6, e7, ())))
           (fun e6 e7 ek0 =>
            some ((e6, e7, ()))) (0 : Int) i0 g0 g4 g5 h0 h1 h2 h3 h4 ek1 ek0)
        (fun g0 g4 g5 h0 h1 h2 h3 h4 i0 l0 o0 q0 ek0 ek1 =>
         bif g4 then
          F.sess_Whole.C5_1 n
           (fun e6 e7 ek0 =>
            some ((e6, e7, ())))
           (fun e6 e7 ek0 =>
            some ((e6, e7, ()))) (0 : Int) i0 g0 g4 g5 h0 h1 [] (0 : Int) true ek1 0
         else
          F.sess_Whole.C5_1 n
           (fun e6 e7 ek0 =>
            some ((e6, e7, ())))
           (fun e6 e7 ek0 =>
            some ((e6, e7, ()))) (0 : Int) i0 g0 g4 g5 h0 h1 h2 h3 h4 ek1 ek0) n o0 (o0.length : Int) (0 : Int) g0 g4 g5 h0 h1 h2 h3 h4 i0 l0 o0 q0 ek2 ek0 ek1) n a0 false false a1 (0 : Int) [] (0 : Int) false [] a2 [] y74 0 0 0
  else
   some (([], (29 : Int), ()))
 else
 bif a0 == (3 : Int) then
  bif decide (a1 < (1 : Int)) then
   some (([], (10 : Int), ()))
  else
  bif decide (a1 > (8192 : Int)) then
   some (([], (10 : Int), ()))
  else
   F.sess_Whole.L0_line_pieces_1 n
    (fun g0 g4 g5 h0 h1 h2 h3 h4 i0 l0 p0 q0 ek0 ek1 ek2 =>
     F.sess_Whole.L2_sess_Sess_text_1 n
      (fun g0 g4 g5 h0 h1 h2 h3 h4 i0 l0 p0 q0 ek0 ek1 =>
       bif g4 then
        F.sess_Whole.C5 n
         (fun e6 e7 ek0 =>
          some ((e6, e7, ())))
         (fun e6 e7 ek0 =>
          some ((e6, e7, ()))) (0 : Int) i0 g0 g4 g5 h0 h1 h2 h3 h4 ek1 ek0
       else
        F.sess_Whole.C5 n
         (fun e6 e7 ek0 =>
          some ((e6, e7, ())))
         (fun e6 e7 ek0 =>
          some ((e6, e7, ()))) (0 : Int) i0 g0 g4 g5 h0 h1 h2 h3 h4 ek1 ek0) n p0 (p0.length : Int) (0 : Int) g0 g4 g5 h0 h1 h2 h3 h4 i0 l0 p0 q0 ek2 ek0 ek1) n a0 false false a1 (0 : Int) (0 : Int) [] false [] a2 [] a2 0 0 0
 else
 bif a0 == (4 : Int) then
  bif decide (a1 < (1 : Int)) then
   some (([], (10 : Int), ()))
  else
  bif decide (a1 > (1048576 : Int)) then
   some (([], (10 : Int), ()))
  else
   (F.bytes_Clone n a2).bind fun y103 =>
    F.sess_Whole.L0_chunk_Framer_frames_1 n
     (fun g0 g4 g5 h0 h1 h2 h3 h4 i0 l0 o0 q0 ek0 ek1 ek2 =>
      F.sess_Whole.L2_sess_Sess_binary_1 n
       (fun g0 g4 g5 h0 h1 h2 h3 h4 i0 l0 o0 q0 ek0 ek1 =>
        bif g4 then
         F.sess_Whole.C5_1 n
          (fun e6 e7 ek0 =>
           some ((e6, e7, ())))
          (fun e6 e7 ek0 =>
           some ((e6, e7, ()))) (0 : Int) i0 g0 g4 g5 h0 h1 [] (0 : Int) true ek1 0
        else
         F.sess_Whole.C5_1 n
          (fun e6 e7 ek0 =>
           some ((e6, e7, ())))
          (fun e6 e7 ek0 =>
           some ((e6, e7, ()))) (0 : Int) i0 g0 g4 g5 h0 h1 h2 h3 h4 ek1 ek0)
       (fun g0 g4 g5 h0 h1 h2 h3 h4 i0 l0 o0 q0 ek0 ek1 =>
        bif g4 then
         F.sess_Whole.C5_1 n
          (fun e6 e7 ek0 =>
           some ((e6, e7, ())))
          (fun e6 e7 ek0 =>
           some ((e6, e7, ()))) (0 : Int) i0 g0 g4 g5 h0 h1 [] (0 : Int) true ek1 0
        else
         F.sess_Whole.C5_1 n
          (fun e6 e7 ek0 =>
           some ((e6, e7, ())))
          (fun e6 e7 ek0 =>
           some ((e6, e7, ()))) (0 : Int) i0 g0 g4 g5 h0 h1 h2 h3 h4 ek1 ek0) n o0 (o0.length : Int) (0 : Int) g0 g4 g5 h0 h1 h2 h3 h4 i0 l0 o0 q0 ek2 ek0 ek1)
     (fun g0 g4 g5 h0 h1 h2 h3 h4 i0 l0 o0 q0 ek0 ek1 ek2 ek3 =>
      F.sess_Whole.L2_sess_Sess_binary_1 n
       (fun g0 g4 g5 h0 h1 h2 h3 h4 i0 l0 o0 q0 ek0 ek1 =>
        bif g4 then
         F.sess_Whole.C5_1 n
          (fun e6 e7 ek0 =>
           some ((e6, e7, ())))
          (fun e6 e7 ek0 =>
           some ((e6, e7, ()))) (0 : Int) i0 g0 g4 g5 h0 h1 [] (0 : Int) true ek1 0
        else
         F.sess_Whole.C5_1 n
          (fun e6 e7 ek0 =>
           some ((e6, e7, ())))
          (fun e6 e7 ek0 =>
           some ((e6, e7, ()))) (0 : Int) i0 g0 g4 g5 h0 h1 h2 h3 h4 ek1 ek0)
       (fun g0 g4 g5 h0 h1 h2 h3 h4 i0 l0 o0 q0 ek0 ek1 =>
        bif g4 then
         F.sess_Whole.C5_1 n
          (fun e6 e7 ek0 =>
           some ((e6, e7, ())))
          (fun e6 e7 ek0 =>
           some ((e6, e7, ()))) (0 : Int) i0 g0 g4 g5 h0 h1 [] (0 : Int) true ek1 0
        else
         F.sess_Whole.C5_1 n
          (fun e6 e7 ek0 =>
           some ((e6, e7, ())))
          (fun e6 e7 ek0 =>
           some ((e6, e7, ()))) (0 : Int) i0 g0 g4 g5 h0 h1 h2 h3 h4 ek1 ek0) n o0 (o0.length : Int) (0 : Int) g0 g4 g5 h0 h1 h2 h3 h4 i0 l0 o0 q0 ek2 ek0 ek1) n a0 false false a1 (0 : Int) [] (0 : Int) false [] a2 [] y103 0 0 0
 else
  some (([], (29 : Int), ()))
noncomputable def F.ref07_Equal.L4.step {X : Type} (n : Nat) (rec : Int → Z1 → Int → Z3 → Int → Z5 → Int → Z1 → Int → Z3 → Int → Z5 → Int → Option X) (k0 : Z1 → Int → Z3 → Int → Z5 → Int → Z1 → Int → Z3 → Int → Z5 → Int → Option X) (kr : Bool → Z1 → Int → Z3 → Int → Z5 → Int → Z1 → Int → Z3 → Int → Z5 → Int → Option X) (v5 : Int) (ab0 : Z1) (ab1 : Int) (ab2 : Z3) (ab3 : Int) (ab4 : Z5) (ab5 : Int) (bb0 : Z1) (bb1 : Int) (bb2 : Z3) (bb3 : Int) (bb4 : Z5) (bb5 : Int) : Option X :=
 bif decide (v5 < (ab2.length : Int)) then
  (idx ab2 v5).bind fun x1 =>
   (idx bb2 v5).bind fun x2 =>
    bif !((x1.1 == x2.1) && ((x1.2.1 == x2.2.1) && (x1.2.2 == x2.2.2))) then
     kr false ab0 ab1 ab2 ab3 ab4 ab5 bb0 bb1 bb2 bb3 bb4 bb5
    else
     rec (IntKind.wrap .i64 (v5 + (1 : Int))) ab0 ab1 ab2 ab3 ab4 ab5 bb0 bb1 bb2 bb3 bb4 bb5
 else
  k0 ab0 ab1 ab2 ab3 ab4 ab5 bb0 bb1 bb2 bb3 bb4 bb5
noncomputable def F.ref07_Equal.L4 {X : Type} (n : Nat) (k0 : Z1 → Int → Z3 → Int → Z5 → Int → Z1 → Int → Z3 → Int → Z5 → Int → Option X) (kr : Bool → Z1 → Int → Z3 → Int → Z5 → Int → Z1 → Int → Z3 → Int → Z5 → Int → Option X) : Nat → Int → Z1 → Int → Z3 → Int → Z5 → Int → Z1 → Int → Z3 → Int → Z5 → Int → Option X
 | 0 => fun _ _ _ _ _ _ _ _ _ _ _ _ _ => none
 | m + 1 => fun v5 ab0 ab1 ab2 ab3 ab4 ab5 bb0 bb1 bb2 bb3 bb4 bb5 => F.ref07_Equal.L4.step n (F.ref07_Equal.L4 n k0 kr m) k0 kr v5 ab0 ab1 ab2 ab3 ab4 ab5 bb0 bb1 bb2 bb3 bb4 bb5
noncomputable def F.ref07_Equal.L9.step {X : Type} (n : Nat) (rec : Int → Z1 → Int → Z3 → Int → Z5 → Int → Z1 → Int → Z3 → Int → Z5 → Int → Option X) (k2 : Z1 → Int → Z3 → Int → Z5 → Int → Z1 → Int → Z3 → Int → Z5 → Int → Option X) (kr : Bool → Z1 → Int → Z3 → Int → Z5 → Int → Z1 → Int → Z3 → Int → Z5 → Int → Option X) (v6 : Int) (ab0 : Z1) (ab1 : Int) (ab2 : Z3) (ab3 : Int) (ab4 : Z5) (ab5 : Int) (bb0 : Z1) (bb1 : Int) (bb2 : Z3) (bb3 : Int) (bb4 : Z5) (bb5 : Int) : Option X :=
 bif decide (v6 < (ab4.length : Int)) then
  (idx ab4 v6).bind fun x4 =>
   (idx bb4 v6).bind fun x5 =>
    bif !((x4.1 == x5.1) && (x4.2 == x5.2)) then
     kr false ab0 ab1 ab2 ab3 ab4 ab5 bb0 bb1 bb2 bb3 bb4 bb5
    else
     rec (IntKind.wrap .i64 (v6 + (1 : Int))) ab0 ab1 ab2 ab3 ab4 ab5 bb0 bb1 bb2 bb3 bb4 bb5
 else
  k2 ab0 ab1 ab2 ab3 ab4 ab5 bb0 bb1 bb2 bb3 bb4 bb5
noncomputable def F.ref07_Equal.L9 {X : Type} (n : Nat) (k2 : Z1 → Int → Z3 → Int → Z5 → Int → Z1 → Int → Z3 → Int → Z5 → Int → Option X) (kr : Bool → Z1 → Int → Z3 → Int → Z5 → Int → Z1 → Int → Z3 → Int → Z5 → Int → Option X) : Nat → Int → Z1 → Int → Z3 → Int → Z5 → Int → Z1 → Int → Z3 → Int → Z5 → Int → Option X
 | 0 => fun _ _ _ _ _ _ _ _ _ _ _ _ _ => none
 | m + 1 => fun v6 ab0 ab1 ab2 ab3 ab4 ab5 bb0 bb1 bb2 bb3 bb4 bb5 => F.ref07_Equal.L9.step n (F.ref07_Equal.L9 n k2 kr m) k2 kr v6 ab0 ab1 ab2 ab3 ab4 ab5 bb0 bb1 bb2 bb3 bb4 bb5
noncomputable def F.ref07_Equal (n : Nat) (a0 : Z16) (a1 : Z16) : Option (Bool) :=
 bif !(a0.1 == a1.1) then
  some (false)
 else
 bif !(a0.2.1 == a1.2.1) then
  some (false)
 else
 bif !(a0.2.2.2.1 == a1.2.2.2.1) then
  some (false)
 else
 bif !(a0.2.2.2.2.2.1 == a1.2.2.2.2.2.1) then
  some (false)
 else
 bif !((a0.2.2.1.length : Int) == (a1.2.2.1.length : Int)) then
  some (false)
 else
 bif !((a0.2.2.2.2.1.length : Int) == (a1.2.2.2.2.1.length : Int)) then
  some (false)
 else
  F.ref07_Equal.L4 n
   (fun g0 g1 g2 g3 g4 g5 h0 h1 h2 h3 h4 h5 =>
    F.ref07_Equal.L9 n
     (fun g0 g1 g2 g3 g4 g5 h0 h1 h2 h3 h4 h5 =>
      some (true))
     (fun e4 g0 g1 g2 g3 g4 g5 h0 h1 h2 h3 h4 h5 =>
      some (e4)) n (0 : Int) g0 g1 g2 g3 g4 g5 h0 h1 h2 h3 h4 h5)
   (fun e4 g0 g1 g2 g3 g4 g5 h0 h1 h2 h3 h4 h5 =>
    some (e4)) n (0 : Int) a0.1 a0.2.1 a0.2.2.1 a0.2.2.2.1 a0.2.2.2.2.1 a0.2.2.2.2.2.1 a1.1 a1.2.1 a1.2.2.1 a1.2.2.2.1 a1.2.2.2.2.1 a1.2.2.2.2.2.1
noncomputable def F.ref08_Equal.L4.step {X : Type} (n : Nat) (rec : Z7 → Z7 → Int → Option X) (k0 : Unit → Option X) (kr : Bool → Option X) (v0 : Z7) (v1 : Z7) (v5 : Int) : Option X :=
 bif decide (v5 < (v0.length : Int)) then
  (idx v0 v5).bind fun x1 =>
   (idx v1 v5).bind fun x2 =>
    (F.ref07_Equal n (x1.1, x1.2.1, x1.2.2.1, x1.2.2.2.1, x1.2.2.2.2.1, x1.2.2.2.2.2, ()) (x2.1, x2.2.1, x2.2.2.1, x2.2.2.2.1, x2.2.2.2.2.1, x2.2.2.2.2.2, ())).bind fun y3 =>
     bif !y3 then
      kr false
     else
      rec v0 v1 (IntKind.wrap .i64 (v5 + (1 : Int)))
 else
  k0 ()
noncomputable def F.ref08_Equal.L4 {X : Type} (n : Nat) (k0 : Unit → Option X) (kr : Bool → Option X) : Nat → Z7 → Z7 → Int → Option X
 | 0 => fun _ _ _ => none
 | m + 1 => fun v0 v1 v5 => F.ref08_Equal.L4.step n (F.ref08_Equal.L4 n k0 kr m) k0 kr v0 v1 v5
noncomputable def F.ref08_Equal (n : Nat) (a0 : Z7) (a1 : Z7) : Option (Bool) :=
 bif !((a0.length : Int) == (a1.length : Int)) then
  some (false)
 else
  F.ref08_Equal.L4 n
   (fun (_ : Unit) =>
    some (true))
   (fun e4 =>
    some (e4)) n a0 a1 (0 : Int)
noncomputable def F.law22_one (n : Nat) (a0 : Z25) (a1 : Z25) : Option (Bool) :=
 bif a0.1 == a1.1 then
  bif a0.2.1 == a1.2.1 then
   bif a0.2.2.1 == a1.2.2.1 then
    bif a0.2.2.2.2.1 == a1.2.2.2.2.1 then
     bif a0.2.2.2.2.2.1 == a1.2.2.2.2.2.1 then
      (F.ref08_Equal n a0.2.2.2.1 a1.2.2.2.1).bind fun y1 =>
       some (y1)
     else
      some (false)
    else
     some (false)
   else
    some (false)
  else
   some (false)
 else
  some (false)
noncomputable def F.law22_awake (n : Nat) : Option (Bool) :=
 (F.sess_Whole n (1 : Int) (100 : Int) ([UInt8.ofNat ((97 : Int)).toNat, UInt8.ofNat ((58 : Int)).toNat, UInt8.ofNat ((49 : Int)).toNat, UInt8.ofNat ((124 : Int)).toNat, UInt8.ofNat ((99 : Int)).toNat, UInt8.ofNat ((10 : Int)).toNat, UInt8.ofNat ((98 : Int)).toNat, UInt8.ofNat ((10 : Int)).toNat, UInt8.ofNat ((99 : Int)).toNat])).bind fun y1 =>
  (F.sess_Whole n (4 : Int) (100 : Int) ([UInt8.ofNat ((77 : Int)).toNat, UInt8.ofNat ((0 : Int)).toNat, UInt8.ofNat ((5 : Int)).toNat])).bind fun y2 =>
   bif !(y1.2.1 == (0 : Int)) then
    some (false)
   else
   bif !((y1.1.length : Int) == (3 : Int)) then
    some (false)
   else
    (idx y1.1 (0 : Int)).bind fun x3 =>
     bif !(x3.1 == (1 : Int)) then
      some (false)
     else
      (idx y1.1 (0 : Int)).bind fun x4 =>
       bif !(x4.2.2.1 == (6 : Int)) then
        some (false)
       else
        (idx y1.1 (0 : Int)).bind fun x5 =>
         bif !((x5.2.2.2.1.length : Int) == (1 : Int)) then
          some (false)
         else
          (idx y1.1 (0 : Int)).bind fun x6 =>
           (idx x6.2.2.2.1 (0 : Int)).bind fun x7 =>
            bif !(x7.1 == ([97])) then
             some (false)
            else
             (idx y1.1 (1 : Int)).bind fun x8 =>
              (F.law22_one n (x8.1, x8.2.1, x8.2.2.1, x8.2.2.2.1, x8.2.2.2.2.1, x8.2.2.2.2.2, ()) ((2 : Int), (6 : Int), (8 : Int), [], (11 : Int), (7 : Int), ())).bind fun y9 =>
               bif y9 then
                (idx y1.1 (2 : Int)).bind fun x10 =>
                 (F.law22_one n (x10.1, x10.2.1, x10.2.2.1, x10.2.2.2.1, x10.2.2.2.2.1, x10.2.2.2.2.2, ()) ((3 : Int), (8 : Int), (9 : Int), [], (30 : Int), (8 : Int), ())).bind fun y11 =>
                  bif y11 then
                   bif y2.2.1 == (0 : Int) then
                    bif (y2.1.length : Int) == (1 : Int) then
                     (idx y2.1 (0 : Int)).bind fun x12 =>
                      (F.law22_one n (x12.1, x12.2.1, x12.2.2.1, x12.2.2.2.1, x12.2.2.2.2.1, x12.2.2.2.2.2, ()) ((2 : Int), (0 : Int), (2 : Int), [], (22 : Int), (1 : Int), ())).bind fun y13 =>
                       some (y13)
                    else
                     some (false)
                   else
                    some (false)
                  else
                   some (false)
               else
                some (false)
noncomputable def F.law22_SessCovers.L8.step {X : Type} (n : Nat) (rec : Z0 → Z9 → Int → Int → Int → Int → Option X) (k0 : Z0 → Int → Int → Int → Option X) (kr : Bool → Int → Int → Option X) (v0 : Z0) (v5 : Z9) (v7 : Int) (v8 : Int) (ab0 : Int) (ab1 : Int) : Option X :=
 bif decide (v8 < (v5.length : Int)) then
  (idx v5 v8).bind fun x5 =>
   bif !(x5.2.1 == v7) then
    kr false ab0 ab1
   else
   bif decide (x5.2.2.1 ≤ v7) then
    kr false ab0 ab1
   else
   bif decide (x5.2.2.1 > (v0.length : Int)) then
    kr false ab0 ab1
   else
    (sub v0 x5.2.1 x5.2.2.1).bind fun x6 =>
     (F.sess_Whole n ab0 ab1 x6).bind fun y7 =>
      bif !(y7.2.1 == (0 : Int)) then
       kr false ab0 ab1
      else
      bif !((y7.1.length : Int) == (1 : Int)) then
       kr false ab0 ab1
      else
       (idx y7.1 (0 : Int)).bind fun x8 =>
        bif !(x8.1 == (1 : Int)) then
         (F.law22_one n (x5.1, x5.2.1, x5.2.2.1, x5.2.2.2.1, x5.2.2.2.2.1, x5.2.2.2.2.2, ()) (x8.1, x5.2.1, x5.2.2.1, x8.2.2.2.1, x8.2.2.2.2.1, (IntKind.wrap .i64 (x8.2.2.2.2.2 + x5.2.1)), ())).bind fun y9 =>
          bif !y9 then
           kr false ab0 ab1
          else
           (idx v0 (IntKind.wrap .i64 (x5.2.2.1 - (1 : Int)))).bind fun x10 =>
            bif !((x5.1 == (3 : Int)) == (!(((x10).toNat) == (10 : Int)))) then
             kr false ab0 ab1
            else
            bif x5.1 == (3 : Int) then
             bif !(v8 == (IntKind.wrap .i64 ((v5.length : Int) - (1 : Int)))) then
              kr false ab0 ab1
             else
             bif !(x5.1 == (1 : Int)) then
              bif !((x5.2.2.2.1.length : Int) == (0 : Int)) then
               kr false ab0 ab1
              else
              bif x5.2.2.2.2.1 == (0 : Int) then
               kr false ab0 ab1
              else
              bif decide (x5.2.2.2.2.2 < x5.2.1) then
               kr false ab0 ab1
              else
              bif decide (x5.2.2.2.2.2 > x5.2.2.1) then
               kr false ab0 ab1
              else
               rec v0 v5 x5.2.2.1 (IntKind.wrap .i64 (v8 + (1 : Int))) ab0 ab1
             else
              (sub v0 x5.2.1 (IntKind.wrap .i64 (x5.2.2.1 - (1 : Int)))).bind fun x11 =>
               (F.text_Parse n x11 ab0).bind fun y12 =>
                bif !((y12.2.1.1 == (0 : Int)) && (y12.2.1.2.1 == (0 : Int))) then
                 kr false ab0 ab1
                else
                 (F.ref08_Equal n x5.2.2.2.1 ([(y12.1.1, y12.1.2.1, y12.1.2.2.1, y12.1.2.2.2.1, y12.1.2.2.2.2.1, y12.1.2.2.2.2.2.1)])).bind fun y13 =>
                  bif !y13 then
                   kr false ab0 ab1
                  else
                   rec v0 v5 x5.2.2.1 (IntKind.wrap .i64 (v8 + (1 : Int))) ab0 ab1
            else
            bif !(x5.1 == (1 : Int)) then
             bif !((x5.2.2.2.1.length : Int) == (0 : Int)) then
              kr false ab0 ab1
             else
             bif x5.2.2.2.2.1 == (0 : Int) then
              kr false ab0 ab1
             else
             bif decide (x5.2.2.2.2.2 < x5.2.1) then
              kr false ab0 ab1
             else
             bif decide (x5.2.2.2.2.2 > x5.2.2.1) then
              kr false ab0 ab1
             else
              rec v0 v5 x5.2.2.1 (IntKind.wrap .i64 (v8 + (1 : Int))) ab0 ab1
            else
             (sub v0 x5.2.1 (IntKind.wrap .i64 (x5.2.2.1 - (1 : Int)))).bind fun x14 =>
              (F.text_Parse n x14 ab0).bind fun y15 =>
               bif !((y15.2.1.1 == (0 : Int)) && (y15.2.1.2.1 == (0 : Int))) then
                kr false ab0 ab1
               else
                (F.ref08_Equal n x5.2.2.2.1 ([(y15.1.1, y15.1.2.1, y15.1.2.2.1, y15.1.2.2.2.1, y15.1.2.2.2.2.1, y15.1.2.2.2.2.2.1)])).bind fun y16 =>
                 bif !y16 then
                  kr false ab0 ab1
                 else
                  rec v0 v5 x5.2.2.1 (IntKind.wrap .i64 (v8 + (1 : Int))) ab0 ab1
        else
         (F.law22_one n (x5.1, x5.2.1, x5.2.2.1, x5.2.2.2.1, x5.2.2.2.2.1, x5.2.2.2.2.2, ()) (x8.1, x5.2.1, x5.2.2.1, x8.2.2.2.1, x8.2.2.2.2.1, x8.2.2.2.2.2, ())).bind fun y17 =>
          bif !y17 then
           kr false ab0 ab1
          else
           (idx v0 (IntKind.wrap .i64 (x5.2.2.1 - (1 : Int)))).bind fun x18 =>
            bif !((x5.1 == (3 : Int)) == (!(((x18).toNat) == (10 : Int)))) then
             kr false ab0 ab1
            else
            bif x5.1 == (3 : Int) then
             bif !(v8 == (IntKind.wrap .i64 ((v5.length : Int) - (1 : Int)))) then
              kr false ab0 ab1
             else
             bif !(x5.1 == (1 : Int)) then
              bif !((x5.2.2.2.1.length : Int) == (0 : Int)) then
               kr false ab0 ab1
              else
              bif x5.2.2.2.2.1 == (0 : Int) then
               kr false ab0 ab1
              else
              bif decide (x5.2.2.2.2.2 < x5.2.1) then
               kr false ab0 ab1
              else
              bif decide (x5.2.2.2.2.2 > x5.2.2.1) then
               kr false ab0 ab1
              else
               rec v0 v5 x5.2.2.1 (IntKind.wrap .i64 (v8 + (1 : Int))) ab0 ab1
             else
              (sub v0 x5.2.1 (IntKind.wrap .i64 (x5.2.2.1 - (1 : Int)))).bind fun x19 =>
               (F.text_Parse n x19 ab0).bind fun y20 =>
                bif !((y20.2.1.1 == (0 : Int)) && (y20.2.1.2.1 == (0 : Int))) then
                 kr false ab0 ab1
                else
                 (F.ref08_Equal n x5.2.2.2.1 ([(y20.1.1, y20.1.2.1, y20.1.2.2.1, y20.1.2.2.2.1, y20.1.2.2.2.2.1, y20.1.2.2.2.2.2.1)])).bind fun y21 =>
                  bif !y21 then
                   kr false ab0 ab1
                  else
                   rec v0 v5 x5.2.2.1 (IntKind.wrap .i64 (v8 + (1 : Int))) ab0 ab1
            else
            bif !(x5.1 == (1 : Int)) then
             bif !((x5.2.2.2.1.length : Int) == (0 : Int)) then
              kr false ab0 ab1
             else
             bif x5.2.2.2.2.1 == (0 : Int) then
              kr false ab0 ab1
             else
             bif decide (x5.2.2.2.2.2 < x5.2.1) then
              kr false ab0 ab1
             else
             bif decide (x5.2.2.2.2.2 > x5.2.2.1) then
              kr false ab0 ab1
             else
              rec v0 v5 x5.2.2.1 (IntKind.wrap .i64 (v8 + (1 : Int))) ab0 ab1
            else
             (sub v0 x5.2.1 (IntKind.wrap .i64 (x5.2.2.1 - (1 : Int)))).bind fun x22 =>
              (F.text_Parse n x22 ab0).bind fun y23 =>
               bif !((y23.2.1.1 == (0 : Int)) && (y23.2.1.2.1 == (0 : Int))) then
                kr false ab0 ab1
               else
                (F.ref08_Equal n x5.2.2.2.1 ([(y23.1.1, y23.1.2.1, y23.1.2.2.1, y23.1.2.2.2.1, y23.1.2.2.2.2.1, y23.1.2.2.2.2.2.1)])).bind fun y24 =>
                 bif !y24 then
                  kr false ab0 ab1
                 else
                  rec v0 v5 x5.2.2.1 (IntKind.wrap .i64 (v8 + (1 : Int))) ab0 ab1
 else
  k0 v0 v7 ab0 ab1
noncomputable def F.law22_SessCovers.L8 {X : Type} (n : Nat) (k0 : Z0 → Int → Int → Int → Option X) (kr : Bool → Int → Int → Option X) : Nat → Z0 → Z9 → Int → Int → Int → Int → Option X
 | 0 => fun _ _ _ _ _ _ => none
 | m + 1 => fun v0 v5 v7 v8 ab0 ab1 => F.law22_SessCovers.L8.step n (F.law22_SessCovers.L8 n k0 kr m) k0 kr v0 v5 v7 v8 ab0 ab1
noncomputable def F.law22_SessCovers (n : Nat) (a0 : Z0) (a1 : Z15) : Option (Bool) :=
 bif decide ((a0.length : Int) > (3000 : Int)) then
  (F.law22_awake n ).bind fun y1 =>
   some (y1)
 else
 bif a1.1 == (4 : Int) then
  (F.law22_awake n ).bind fun y2 =>
   some (y2)
 else
  (F.sess_Whole n a1.1 a1.2.1 a0).bind fun y3 =>
   bif !(y3.2.1 == (0 : Int)) then
    bif (y3.1.length : Int) == (0 : Int) then
     (F.law22_awake n ).bind fun y4 =>
      some (y4)
    else
     some (false)
   else
    F.law22_SessCovers.L8 n
     (fun e0 e7 g0 g1 =>
      bif e7 == (e0.length : Int) then
       (F.law22_awake n ).bind fun y26 =>
        some (y26)
      else
       some (false))
     (fun e4 g0 g1 =>
      some (e4)) n a0 y3.1 (0 : Int) (0 : Int) a1.1 a1.2.1
end Go.AM
namespace Go.Proofs
open Go.Shelf
def Tryz.lays161_ren : Go.Shelf.Ren := ⟨fun | 161 => 109 | 231 => 177 | 227 => 169 | 233 => 178 | 235 => 179 | 228 => 241 | 197 => 249 | 151 => 243 | 260 => 299 | 152 => 296 | 137 => 330 | 119 => 331 | 224 => 246 | 225 => 245 | 217 => 244 | 266 => 297 | n => n, fun | 9 => 9 | 4 => 4 | 3 => 3 | 5 => 5 | 117 => 246 | 116 => 245 | 0 => 0 | 124 => 249 | 105 => 318 | 21 => 21 | 119 => 370 | 46 => 239 | 139 => 373 | 138 => 372 | n => n, fun | 3 => 2 | 4 => 3 | n => n⟩
theorem Tryz.lays161 : Go.Proofs.Lays.n161 Tryz.prog Tryz.lays161_ren := {
  mixed := by kernel_rfl
  f119 := Tryz.func331.trans (congrArg some (by kernel_rfl))
  f137 := Tryz.func330.trans (congrArg some (by kernel_rfl))
  f151 := Tryz.func243.trans (congrArg some (by kernel_rfl))
  f152 := Tryz.func296.trans (congrArg some (by kernel_rfl))
  f161 := Tryz.func109.trans (congrArg some (by kernel_rfl))
  f197 := Tryz.func249.trans (congrArg some (by kernel_rfl))
  f217 := Tryz.func244.trans (congrArg some (by kernel_rfl))
  f224 := Tryz.func246.trans (congrArg some (by kernel_rfl))
  f225 := Tryz.func245.trans (congrArg some (by kernel_rfl))
  f227 := Tryz.func169.trans (congrArg some (by kernel_rfl))
  f228 := Tryz.func241.trans (congrArg some (by kernel_rfl))
  f231 := Tryz.func177.trans (congrArg some (by kernel_rfl))
  f233 := Tryz.func178.trans (congrArg some (by kernel_rfl))
  f235 := Tryz.func179.trans (congrArg some (by kernel_rfl))
  f260 := Tryz.func299.trans (congrArg some (by kernel_rfl))
  f266 := Tryz.func297.trans (congrArg some (by kernel_rfl))
  t0 := Tryz.underlying0
  a0 := Tryz.isAgg0
  z0 := Tryz.sizeOf0
  v0 := Tryz.zeroValue0
  t3 := Tryz.underlying3
  a3 := Tryz.isAgg3
  z3 := Tryz.sizeOf3
  v3 := Tryz.zeroValue3
  t4 := Tryz.underlying4
  a4 := Tryz.isAgg4
  z4 := Tryz.sizeOf4
  v4 := Tryz.zeroValue4
  t5 := Tryz.underlying5
  a5 := Tryz.isAgg5
  z5 := Tryz.sizeOf5
  v5 := Tryz.zeroValue5
  t9 := Tryz.underlying9
  a9 := Tryz.isAgg9
  z9 := Tryz.sizeOf9
  v9 := Tryz.zeroValue9
  t21 := Tryz.underlying21
  a21 := Tryz.isAgg21
  z21 := Tryz.sizeOf21
  v21 := Tryz.zeroValue21
  t46 := Tryz.underlying239
  a46 := Tryz.isAgg239
  z46 := Tryz.sizeOf239
  v46 := Tryz.zeroValue239
  t105 := Tryz.underlying318
  a105 := Tryz.isAgg318
  z105 := Tryz.sizeOf318
  v105 := Tryz.zeroValue318
  t116 := Tryz.underlying245
  a116 := Tryz.isAgg245
  z116 := Tryz.sizeOf245
  t117 := Tryz.underlying246
  a117 := Tryz.isAgg246
  z117 := Tryz.sizeOf246
  v117 := Tryz.zeroValue246
  t119 := Tryz.underlying370
  a119 := Tryz.isAgg370
  z119 := Tryz.sizeOf370
  t124 := Tryz.underlying249
  a124 := Tryz.isAgg249
  z124 := Tryz.sizeOf249
  v124 := Tryz.zeroValue249
  t138 := Tryz.underlying372
  a138 := Tryz.isAgg372
  z138 := Tryz.sizeOf372
  v138 := Tryz.zeroValue372
  t139 := Tryz.underlying373
  a139 := Tryz.isAgg373
  z139 := Tryz.sizeOf373
  v139 := Tryz.zeroValue373
  g3 := by kernel_rfl
  g4 := by kernel_rfl }
open Go.RowKit in
theorem Tryz.strings_TrimLeft_one (s : ByteArray) (c : UInt8) (hc : c.toNat < 128) (w : World) :
    Calls Tryz.prog 109 #[.string s, .string ⟨#[c]⟩] w fun e w' => e = .returned (.string ⟨(Lib.trimLeftB s.data.toList c).toArray⟩) ∧ w' = w := Any.strings_TrimLeft_one Tryz.lays161 s c hc w
def Tryz.lays162_ren : Go.Shelf.Ren := ⟨fun | 162 => 104 | 232 => 168 | 227 => 169 | 234 => 170 | 236 => 171 | 228 => 241 | 271 => 242 | 151 => 243 | 120 => 295 | 197 => 249 | 152 => 296 | 260 => 299 | 137 => 330 | 119 => 331 | 224 => 246 | 225 => 245 | 217 => 244 | 266 => 297 | n => n, fun | 9 => 9 | 4 => 4 | 3 => 3 | 5 => 5 | 117 => 246 | 116 => 245 | 0 => 0 | 124 => 249 | 21 => 21 | 105 => 318 | 46 => 239 | 119 => 370 | 139 => 373 | 138 => 372 | n => n, fun | 3 => 2 | 4 => 3 | n => n⟩
theorem Tryz.lays162 : Go.Proofs.Lays.n162 Tryz.prog Tryz.lays162_ren := {
  mixed := by kernel_rfl
  f119 := Tryz.func331.trans (congrArg some (by kernel_rfl))
  f120 := Tryz.func295.trans (congrArg some (by kernel_rfl))
  f137 := Tryz.func330.trans (congrArg some (by kernel_rfl))
  f151 := Tryz.func243.trans (congrArg some (by kernel_rfl))
  f152 := Tryz.func296.trans (congrArg some (by kernel_rfl))
  f162 := Tryz.func104.trans (congrArg some (by kernel_rfl))
  f197 := Tryz.func249.trans (congrArg some (by kernel_rfl))
  f217 := Tryz.func244.trans (congrArg some (by kernel_rfl))
  f224 := Tryz.func246.trans (congrArg some (by kernel_rfl))
  f225 := Tryz.func245.trans (congrArg some (by kernel_rfl))
  f227 := Tryz.func169.trans (congrArg some (by kernel_rfl))
  f228 := Tryz.func241.trans (congrArg some (by kernel_rfl))
  f232 := Tryz.func168.trans (congrArg some (by kernel_rfl))
  f234 := Tryz.func170.trans (congrArg some (by kernel_rfl))
  f236 := Tryz.func171.trans (congrArg some (by kernel_rfl))
  f260 := Tryz.func299.trans (congrArg some (by kernel_rfl))
  f266 := Tryz.func297.trans (congrArg some (by kernel_rfl))
  f271 := Tryz.func242.trans (congrArg some (by kernel_rfl))
  t0 := Tryz.underlying0
  a0 := Tryz.isAgg0
  z0 := Tryz.sizeOf0
  v0 := Tryz.zeroValue0
  t3 := Tryz.underlying3
  a3 := Tryz.isAgg3
  z3 := Tryz.sizeOf3
  v3 := Tryz.zeroValue3
  t4 := Tryz.underlying4
  a4 := Tryz.isAgg4
  z4 := Tryz.sizeOf4
  v4 := Tryz.zeroValue4
  t5 := Tryz.underlying5
  a5 := Tryz.isAgg5
  z5 := Tryz.sizeOf5
  v5 := Tryz.zeroValue5
  t9 := Tryz.underlying9
  a9 := Tryz.isAgg9
  z9 := Tryz.sizeOf9
  v9 := Tryz.zeroValue9
  t21 := Tryz.underlying21
  a21 := Tryz.isAgg21
  z21 := Tryz.sizeOf21
  v21 := Tryz.zeroValue21
  t46 := Tryz.underlying239
  a46 := Tryz.isAgg239
  z46 := Tryz.sizeOf239
  v46 := Tryz.zeroValue239
  t105 := Tryz.underlying318
  a105 := Tryz.isAgg318
  z105 := Tryz.sizeOf318
  v105 := Tryz.zeroValue318
  t116 := Tryz.underlying245
  a116 := Tryz.isAgg245
  z116 := Tryz.sizeOf245
  t117 := Tryz.underlying246
  a117 := Tryz.isAgg246
  z117 := Tryz.sizeOf246
  v117 := Tryz.zeroValue246
  t119 := Tryz.underlying370
  a119 := Tryz.isAgg370
  z119 := Tryz.sizeOf370
  t124 := Tryz.underlying249
  a124 := Tryz.isAgg249
  z124 := Tryz.sizeOf249
  v124 := Tryz.zeroValue249
  t138 := Tryz.underlying372
  a138 := Tryz.isAgg372
  z138 := Tryz.sizeOf372
  v138 := Tryz.zeroValue372
  t139 := Tryz.underlying373
  a139 := Tryz.isAgg373
  z139 := Tryz.sizeOf373
  v139 := Tryz.zeroValue373
  g3 := by kernel_rfl
  g4 := by kernel_rfl }
open Go.RowKit in
theorem Tryz.strings_TrimRight_one (s : ByteArray) (c : UInt8) (hc : c.toNat < 128) (w : World) (hs : s.size ≤ 9223372036854775807) :
    Calls Tryz.prog 104 #[.string s, .string ⟨#[c]⟩] w fun e w' => e = .returned (.string ⟨(Lib.trimRightB s.data.toList c).toArray⟩) ∧ w' = w := Any.strings_TrimRight_one Tryz.lays162 s c hc w hs
def Tryz.laysC172_ren : Go.Shelf.Ren := ⟨fun | 172 => 255 | 244 => 309 | 245 => 310 | 247 => 337 | 279 => 338 | 280 => 339 | 281 => 340 | 282 => 341 | 287 => 348 | 316 => 349 | 171 => 103 | 205 => 350 | 321 => 351 | 322 => 352 | 243 => 167 | 246 => 240 | 283 => 234 | 284 => 235 | 285 => 236 | 286 => 237 | 129 => 290 | 317 => 289 | 318 => 291 | 319 => 292 | 320 => 293 | 337 => 328 | 338 => 329 | n => n, fun | 9 => 9 | 3 => 3 | 75 => 139 | 76 => 140 | 4 => 4 | 5 => 5 | 167 => 379 | 37 => 22 | 0 => 0 | 85 => 380 | 2 => 2 | 168 => 382 | 53 => 85 | 175 => 392 | 46 => 239 | 210 => 396 | 127 => 207 | 145 => 401 | 143 => 399 | 21 => 21 | 171 => 309 | 173 => 312 | 212 => 349 | 51 => 222 | 20 => 20 | 213 => 350 | 232 => 387 | 233 => 388 | 80 => 145 | n => n, fun | 15 => 6 | 16 => 7 | 17 => 1 | 18 => 4 | 19 => 5 | n => n⟩
theorem Tryz.laysC172 : Go.Proofs.LaysC.n172 Tryz.prog Tryz.laysC172_ren := {
  mixed := by kernel_rfl
  f129 := Tryz.func290.trans (congrArg some (by kernel_rfl))
  f171 := Tryz.func103.trans (congrArg some (by kernel_rfl))
  f172 := Tryz.func255.trans (congrArg some (by kernel_rfl))
  f205 := Tryz.func350.trans (congrArg some (by kernel_rfl))
  f243 := Tryz.func167.trans (congrArg some (by kernel_rfl))
  f244 := Tryz.func309.trans (congrArg some (by kernel_rfl))
  f245 := Tryz.func310.trans (congrArg some (by kernel_rfl))
  f246 := Tryz.func240.trans (congrArg some (by kernel_rfl))
  f247 := Tryz.func337.trans (congrArg some (by kernel_rfl))
  f279 := Tryz.func338.trans (congrArg some (by kernel_rfl))
  f280 := Tryz.func339.trans (congrArg some (by kernel_rfl))
  f281 := Tryz.func340.trans (congrArg some (by kernel_rfl))
  f282 := Tryz.func341.trans (congrArg some (by kernel_rfl))
  f283 := Tryz.func234.trans (congrArg some (by kernel_rfl))
  f284 := Tryz.func235.trans (congrArg some (by kernel_rfl))
  f285 := Tryz.func236.trans (congrArg some (by kernel_rfl))
  f286 := Tryz.func237.trans (congrArg some (by kernel_rfl))
  f287 := Tryz.func348.trans (congrArg some (by kernel_rfl))
  f316 := Tryz.func349.trans (congrArg some (by kernel_rfl))
  f317 := Tryz.func289.trans (congrArg some (by kernel_rfl))
  f318 := Tryz.func291.trans (congrArg some (by kernel_rfl))
  f319 := Tryz.func292.trans (congrArg some (by kernel_rfl))
  f320 := Tryz.func293.trans (congrArg some (by kernel_rfl))
  f321 := Tryz.func351.trans (congrArg some (by kernel_rfl))
  f322 := Tryz.func352.trans (congrArg some (by kernel_rfl))
  f337 := Tryz.func328.trans (congrArg some (by kernel_rfl))
  f338 := Tryz.func329.trans (congrArg some (by kernel_rfl))
  t0 := Tryz.underlying0
  a0 := Tryz.isAgg0
  z0 := Tryz.sizeOf0
  v0 := Tryz.zeroValue0
  t2 := Tryz.underlying2
  a2 := Tryz.isAgg2
  z2 := Tryz.sizeOf2
  v2 := Tryz.zeroValue2
  t3 := Tryz.underlying3
  a3 := Tryz.isAgg3
  z3 := Tryz.sizeOf3
  v3 := Tryz.zeroValue3
  t4 := Tryz.underlying4
  a4 := Tryz.isAgg4
  z4 := Tryz.sizeOf4
  v4 := Tryz.zeroValue4
  t5 := Tryz.underlying5
  a5 := Tryz.isAgg5
  z5 := Tryz.sizeOf5
  v5 := Tryz.zeroValue5
  t9 := Tryz.underlying9
  a9 := Tryz.isAgg9
  z9 := Tryz.sizeOf9
  v9 := Tryz.zeroValue9
  t20 := Tryz.underlying20
  a20 := Tryz.isAgg20
  z20 := Tryz.sizeOf20
  v20 := Tryz.zeroValue20
  t21 := Tryz.underlying21
  a21 := Tryz.isAgg21
  z21 := Tryz.sizeOf21
  v21 := Tryz.zeroValue21
  t37 := Tryz.underlying22
  a37 := Tryz.isAgg22
  z37 := Tryz.sizeOf22
  v37 := Tryz.zeroValue22
  t46 := Tryz.underlying239
  a46 := Tryz.isAgg239
  z46 := Tryz.sizeOf239
  v46 := Tryz.zeroValue239
  t51 := Tryz.underlying222
  a51 := Tryz.isAgg222
  z51 := Tryz.sizeOf222
  v51 := Tryz.zeroValue222
  t53 := Tryz.underlying85
  a53 := Tryz.isAgg85
  z53 := Tryz.sizeOf85
  v53 := Tryz.zeroValue85
  t75 := Tryz.underlying139
  a75 := Tryz.isAgg139
  z75 := Tryz.sizeOf139
  v75 := Tryz.zeroValue139
  t76 := Tryz.underlying140
  a76 := Tryz.isAgg140
  z76 := Tryz.sizeOf140
  v76 := Tryz.zeroValue140
  t85 := Tryz.underlying380
  a85 := Tryz.isAgg380
  z85 := Tryz.sizeOf380
  v85 := Tryz.zeroValue380
  t127 := Tryz.underlying207
  a127 := Tryz.isAgg207
  z127 := Tryz.sizeOf207
  v127 := Tryz.zeroValue207
  t143 := Tryz.underlying399
  a143 := Tryz.isAgg399
  z143 := Tryz.sizeOf399
  v143 := Tryz.zeroValue399
  t145 := Tryz.underlying401
  a145 := Tryz.isAgg401
  z145 := Tryz.sizeOf401
  v145 := Tryz.zeroValue401
  t167 := Tryz.underlying379
  a167 := Tryz.isAgg379
  z167 := Tryz.sizeOf379
  v167 := Tryz.zeroValue379
  t168 := Tryz.underlying382
  a168 := Tryz.isAgg382
  z168 := Tryz.sizeOf382
  v168 := Tryz.zeroValue382
  t171 := Tryz.underlying309
  a171 := Tryz.isAgg309
  z171 := Tryz.sizeOf309
  v171 := Tryz.zeroValue309
  t173 := Tryz.underlying312
  a173 := Tryz.isAgg312
  z173 := Tryz.sizeOf312
  v173 := Tryz.zeroValue312
  t175 := Tryz.underlying392
  a175 := Tryz.isAgg392
  z175 := Tryz.sizeOf392
  v175 := Tryz.zeroValue392
  t210 := Tryz.underlying396
  a210 := Tryz.isAgg396
  z210 := Tryz.sizeOf396
  v210 := Tryz.zeroValue396
  t212 := Tryz.underlying349
  a212 := Tryz.isAgg349
  z212 := Tryz.sizeOf349
  v212 := Tryz.zeroValue349
  t213 := Tryz.underlying350
  a213 := Tryz.isAgg350
  z213 := Tryz.sizeOf350
  t232 := Tryz.underlying387
  a232 := Tryz.isAgg387
  z232 := Tryz.sizeOf387
  v232 := Tryz.zeroValue387
  t233 := Tryz.underlying388
  a233 := Tryz.isAgg388
  z233 := Tryz.sizeOf388
  v233 := Tryz.zeroValue388
  g15 := by kernel_rfl
  g16 := by kernel_rfl
  g17 := by kernel_rfl
  g18 := by kernel_rfl
  g19 := by kernel_rfl
  t80 := Tryz.underlying145
  a80 := Tryz.isAgg145
  z80 := Tryz.sizeOf145
  v80 := Tryz.zeroValue145
  i0 := by kernel_rfl
  i2 := by kernel_rfl
  i3 := by kernel_rfl
  i4 := by kernel_rfl
  i5 := by kernel_rfl
  i9 := by kernel_rfl
  i20 := by kernel_rfl
  i21 := by kernel_rfl
  i37 := by kernel_rfl
  i46 := by kernel_rfl
  i51 := by kernel_rfl
  i53 := by kernel_rfl
  i75 := by kernel_rfl
  i76 := by kernel_rfl
  i80 := by kernel_rfl
  i85 := by kernel_rfl
  i127 := by kernel_rfl
  i143 := by kernel_rfl
  i145 := by kernel_rfl
  i167 := by kernel_rfl
  i168 := by kernel_rfl
  i171 := by kernel_rfl
  i173 := by kernel_rfl
  i175 := by kernel_rfl
  i210 := by kernel_rfl
  i212 := by kernel_rfl
  i232 := by kernel_rfl
  i233 := by kernel_rfl
  m15 := by kernel_rfl
  m16 := by kernel_rfl
  m17 := by kernel_rfl
  m18 := by kernel_rfl
  m19 := by kernel_rfl
  c0 := by kernel_rfl
  c2 := by kernel_rfl
  c3 := by kernel_rfl
  c4 := by kernel_rfl
  c5 := by kernel_rfl
  c9 := by kernel_rfl
  c20 := by kernel_rfl
  c21 := by kernel_rfl
  c37 := by kernel_rfl
  c46 := by kernel_rfl
  c51 := by kernel_rfl
  c53 := by kernel_rfl
  c75 := by kernel_rfl
  c76 := by kernel_rfl
  c80 := by kernel_rfl
  c85 := by kernel_rfl
  c127 := by kernel_rfl
  c143 := by kernel_rfl
  c145 := by kernel_rfl
  c167 := by kernel_rfl
  c168 := by kernel_rfl
  c171 := by kernel_rfl
  c173 := by kernel_rfl
  c175 := by kernel_rfl
  c210 := by kernel_rfl
  c212 := by kernel_rfl
  c213 := by kernel_rfl
  c232 := by kernel_rfl
  c233 := by kernel_rfl }
open Go.RowKit in
theorem Tryz.strconv_Atoi_ok (s : ByteArray) (hmax : s.size ≤ 9223372036854775806) (v : Int) (h : Lib.atoiAll s.data.toList = .ok v) (w : World) :
    Calls Tryz.prog 255 #[.string s] w fun e w' => e = .returned (.tuple #[.int .i64 v, .nilIface]) ∧ (w' = w ∨ ∃ t, w' = Lib.bytesWorld w 5 t) := Any.strconv_Atoi_ok Tryz.laysC172 s hmax v h w
def Tryz.lays219_ren : Go.Shelf.Ren := ⟨fun | 219 => 172 | 217 => 244 | 225 => 245 | 224 => 246 | 267 => 247 | 266 => 297 | 314 => 298 | n => n, fun | 9 => 9 | 3 => 3 | 4 => 4 | 5 => 5 | 46 => 239 | 146 => 314 | 51 => 222 | n => n, fun | 1 => 0 | n => n⟩
theorem Tryz.lays219 : Go.Proofs.Lays.n219 Tryz.prog Tryz.lays219_ren := {
  mixed := by kernel_rfl
  f217 := Tryz.func244.trans (congrArg some (by kernel_rfl))
  f219 := Tryz.func172.trans (congrArg some (by kernel_rfl))
  f224 := Tryz.func246.trans (congrArg some (by kernel_rfl))
  f225 := Tryz.func245.trans (congrArg some (by kernel_rfl))
  f266 := Tryz.func297.trans (congrArg some (by kernel_rfl))
  f267 := Tryz.func247.trans (congrArg some (by kernel_rfl))
  f314 := Tryz.func298.trans (congrArg some (by kernel_rfl))
  t3 := Tryz.underlying3
  a3 := Tryz.isAgg3
  z3 := Tryz.sizeOf3
  v3 := Tryz.zeroValue3
  t4 := Tryz.underlying4
  a4 := Tryz.isAgg4
  z4 := Tryz.sizeOf4
  v4 := Tryz.zeroValue4
  t5 := Tryz.underlying5
  a5 := Tryz.isAgg5
  z5 := Tryz.sizeOf5
  v5 := Tryz.zeroValue5
  t9 := Tryz.underlying9
  a9 := Tryz.isAgg9
  z9 := Tryz.sizeOf9
  v9 := Tryz.zeroValue9
  t46 := Tryz.underlying239
  a46 := Tryz.isAgg239
  z46 := Tryz.sizeOf239
  v46 := Tryz.zeroValue239
  t51 := Tryz.underlying222
  a51 := Tryz.isAgg222
  z51 := Tryz.sizeOf222
  v51 := Tryz.zeroValue222
  t146 := Tryz.underlying314
  a146 := Tryz.isAgg314
  z146 := Tryz.sizeOf314
  v146 := Tryz.zeroValue314
  g1 := by kernel_rfl }
open Go.RowKit Go.Lib in
theorem Tryz.stringslite_Index_one (s : ByteArray) (c : UInt8) (w : World) :
    Calls Tryz.prog 172 #[.string s, .string ⟨#[c]⟩] w fun e w' => e = .returned (.int .i64 (Lib.indexByte s.data.toList c)) ∧ w' = w := Any.stringslite_Index_one Tryz.lays219 s c w
def Tryz.lays143_ren : Go.Shelf.Ren := ⟨fun | 143 => 191 | 219 => 172 | 217 => 244 | 225 => 245 | 224 => 246 | 267 => 247 | 266 => 297 | 314 => 298 | n => n, fun | 9 => 9 | 3 => 3 | 4 => 4 | 5 => 5 | 46 => 239 | 146 => 314 | 51 => 222 | n => n, fun | 1 => 0 | n => n⟩
theorem Tryz.lays143 : Go.Proofs.Lays.n143 Tryz.prog Tryz.lays143_ren := {
  mixed := by kernel_rfl
  f143 := Tryz.func191.trans (congrArg some (by kernel_rfl))
  f217 := Tryz.func244.trans (congrArg some (by kernel_rfl))
  f219 := Tryz.func172.trans (congrArg some (by kernel_rfl))
  f224 := Tryz.func246.trans (congrArg some (by kernel_rfl))
  f225 := Tryz.func245.trans (congrArg some (by kernel_rfl))
  f266 := Tryz.func297.trans (congrArg some (by kernel_rfl))
  f267 := Tryz.func247.trans (congrArg some (by kernel_rfl))
  f314 := Tryz.func298.trans (congrArg some (by kernel_rfl))
  t3 := Tryz.underlying3
  a3 := Tryz.isAgg3
  z3 := Tryz.sizeOf3
  v3 := Tryz.zeroValue3
  t4 := Tryz.underlying4
  a4 := Tryz.isAgg4
  z4 := Tryz.sizeOf4
  v4 := Tryz.zeroValue4
  t5 := Tryz.underlying5
  a5 := Tryz.isAgg5
  z5 := Tryz.sizeOf5
  v5 := Tryz.zeroValue5
  t9 := Tryz.underlying9
  a9 := Tryz.isAgg9
  z9 := Tryz.sizeOf9
  v9 := Tryz.zeroValue9
  t46 := Tryz.underlying239
  a46 := Tryz.isAgg239
  z46 := Tryz.sizeOf239
  v46 := Tryz.zeroValue239
  t51 := Tryz.underlying222
  a51 := Tryz.isAgg222
  z51 := Tryz.sizeOf222
  v51 := Tryz.zeroValue222
  t146 := Tryz.underlying314
  a146 := Tryz.isAgg314
  z146 := Tryz.sizeOf314
  v146 := Tryz.zeroValue314
  g1 := by kernel_rfl }
open Go.RowKit Go.Lib in
theorem Tryz.strings_Index_one (s : ByteArray) (c : UInt8) (w : World) :
    Calls Tryz.prog 191 #[.string s, .string ⟨#[c]⟩] w fun e w' => e = .returned (.int .i64 (Lib.indexByte s.data.toList c)) ∧ w' = w := Any.strings_Index_one Tryz.lays143 s c w
def Tryz.lays138_ren : Go.Shelf.Ren := ⟨fun | 138 => 190 | 195 => 253 | 218 => 254 | 143 => 191 | 219 => 172 | 217 => 244 | 225 => 245 | 224 => 246 | 267 => 247 | 266 => 297 | 314 => 298 | n => n, fun | 9 => 9 | 3 => 3 | 4 => 4 | 5 => 5 | 0 => 0 | 46 => 239 | 146 => 314 | 51 => 222 | n => n, fun | 1 => 0 | n => n⟩
theorem Tryz.lays138 : Go.Proofs.Lays.n138 Tryz.prog Tryz.lays138_ren := {
  mixed := by kernel_rfl
  f138 := Tryz.func190.trans (congrArg some (by kernel_rfl))
  f143 := Tryz.func191.trans (congrArg some (by kernel_rfl))
  f195 := Tryz.func253.trans (congrArg some (by kernel_rfl))
  f217 := Tryz.func244.trans (congrArg some (by kernel_rfl))
  f218 := Tryz.func254.trans (congrArg some (by kernel_rfl))
  f219 := Tryz.func172.trans (congrArg some (by kernel_rfl))
  f224 := Tryz.func246.trans (congrArg some (by kernel_rfl))
  f225 := Tryz.func245.trans (congrArg some (by kernel_rfl))
  f266 := Tryz.func297.trans (congrArg some (by kernel_rfl))
  f267 := Tryz.func247.trans (congrArg some (by kernel_rfl))
  f314 := Tryz.func298.trans (congrArg some (by kernel_rfl))
  t0 := Tryz.underlying0
  a0 := Tryz.isAgg0
  z0 := Tryz.sizeOf0
  v0 := Tryz.zeroValue0
  t3 := Tryz.underlying3
  a3 := Tryz.isAgg3
  z3 := Tryz.sizeOf3
  v3 := Tryz.zeroValue3
  t4 := Tryz.underlying4
  a4 := Tryz.isAgg4
  z4 := Tryz.sizeOf4
  v4 := Tryz.zeroValue4
  t5 := Tryz.underlying5
  a5 := Tryz.isAgg5
  z5 := Tryz.sizeOf5
  v5 := Tryz.zeroValue5
  t9 := Tryz.underlying9
  a9 := Tryz.isAgg9
  z9 := Tryz.sizeOf9
  v9 := Tryz.zeroValue9
  t46 := Tryz.underlying239
  a46 := Tryz.isAgg239
  z46 := Tryz.sizeOf239
  v46 := Tryz.zeroValue239
  t51 := Tryz.underlying222
  a51 := Tryz.isAgg222
  z51 := Tryz.sizeOf222
  v51 := Tryz.zeroValue222
  t146 := Tryz.underlying314
  a146 := Tryz.isAgg314
  z146 := Tryz.sizeOf314
  v146 := Tryz.zeroValue314
  g1 := by kernel_rfl }
open Go.RowKit Go.Lib in
theorem Tryz.strings_Count_one (s : ByteArray) (c : UInt8) (w : World) :
    Calls Tryz.prog 190 #[.string s, .string ⟨#[c]⟩] w fun e w' => e = .returned (.int .i64 (Lib.countByte s.data.toList c)) ∧ w' = w := Any.strings_Count_one Tryz.lays138 s c w
def Tryz.lays221_ren : Go.Shelf.Ren := ⟨fun | 221 => 121 | 268 => 189 | 138 => 190 | 143 => 191 | 195 => 253 | 197 => 249 | 218 => 254 | 219 => 172 | 260 => 299 | 217 => 244 | 225 => 245 | 224 => 246 | 267 => 247 | 266 => 297 | 314 => 298 | n => n, fun | 9 => 9 | 3 => 3 | 31 => 149 | 4 => 4 | 0 => 0 | 105 => 318 | 21 => 21 | 5 => 5 | 46 => 239 | 119 => 370 | 139 => 373 | 138 => 372 | 146 => 314 | 51 => 222 | n => n, fun | 1 => 0 | 3 => 2 | 4 => 3 | n => n⟩
theorem Tryz.lays221 : Go.Proofs.Lays.n221 Tryz.prog Tryz.lays221_ren := {
  mixed := by kernel_rfl
  f138 := Tryz.func190.trans (congrArg some (by kernel_rfl))
  f143 := Tryz.func191.trans (congrArg some (by kernel_rfl))
  f195 := Tryz.func253.trans (congrArg some (by kernel_rfl))
  f197 := Tryz.func249.trans (congrArg some (by kernel_rfl))
  f217 := Tryz.func244.trans (congrArg some (by kernel_rfl))
  f218 := Tryz.func254.trans (congrArg some (by kernel_rfl))
  f219 := Tryz.func172.trans (congrArg some (by kernel_rfl))
  f221 := Tryz.func121.trans (congrArg some (by kernel_rfl))
  f224 := Tryz.func246.trans (congrArg some (by kernel_rfl))
  f225 := Tryz.func245.trans (congrArg some (by kernel_rfl))
  f260 := Tryz.func299.trans (congrArg some (by kernel_rfl))
  f266 := Tryz.func297.trans (congrArg some (by kernel_rfl))
  f267 := Tryz.func247.trans (congrArg some (by kernel_rfl))
  f268 := Tryz.func189.trans (congrArg some (by kernel_rfl))
  f314 := Tryz.func298.trans (congrArg some (by kernel_rfl))
  t0 := Tryz.underlying0
  a0 := Tryz.isAgg0
  z0 := Tryz.sizeOf0
  v0 := Tryz.zeroValue0
  t3 := Tryz.underlying3
  a3 := Tryz.isAgg3
  z3 := Tryz.sizeOf3
  v3 := Tryz.zeroValue3
  t4 := Tryz.underlying4
  a4 := Tryz.isAgg4
  z4 := Tryz.sizeOf4
  v4 := Tryz.zeroValue4
  t5 := Tryz.underlying5
  a5 := Tryz.isAgg5
  z5 := Tryz.sizeOf5
  v5 := Tryz.zeroValue5
  t9 := Tryz.underlying9
  a9 := Tryz.isAgg9
  z9 := Tryz.sizeOf9
  v9 := Tryz.zeroValue9
  t21 := Tryz.underlying21
  a21 := Tryz.isAgg21
  z21 := Tryz.sizeOf21
  v21 := Tryz.zeroValue21
  t31 := Tryz.underlying149
  a31 := Tryz.isAgg149
  z31 := Tryz.sizeOf149
  v31 := Tryz.zeroValue149
  t46 := Tryz.underlying239
  a46 := Tryz.isAgg239
  z46 := Tryz.sizeOf239
  v46 := Tryz.zeroValue239
  t51 := Tryz.underlying222
  a51 := Tryz.isAgg222
  z51 := Tryz.sizeOf222
  v51 := Tryz.zeroValue222
  t105 := Tryz.underlying318
  a105 := Tryz.isAgg318
  z105 := Tryz.sizeOf318
  v105 := Tryz.zeroValue318
  t119 := Tryz.underlying370
  a119 := Tryz.isAgg370
  z119 := Tryz.sizeOf370
  t138 := Tryz.underlying372
  a138 := Tryz.isAgg372
  z138 := Tryz.sizeOf372
  v138 := Tryz.zeroValue372
  t139 := Tryz.underlying373
  a139 := Tryz.isAgg373
  z139 := Tryz.sizeOf373
  v139 := Tryz.zeroValue373
  t146 := Tryz.underlying314
  a146 := Tryz.isAgg314
  z146 := Tryz.sizeOf314
  v146 := Tryz.zeroValue314
  g1 := by kernel_rfl
  g3 := by kernel_rfl
  g4 := by kernel_rfl }
def Tryz.lays264_ren : Go.Shelf.Ren := ⟨fun | 264 => 180 | n => n, fun | 53 => 85 | 46 => 239 | n => n, fun | n => n⟩
theorem Tryz.lays264 : Go.Proofs.Lays.n264 Tryz.prog Tryz.lays264_ren := {
  mixed := by kernel_rfl
  f264 := Tryz.func180.trans (congrArg some (by kernel_rfl))
  t46 := Tryz.underlying239
  a46 := Tryz.isAgg239
  z46 := Tryz.sizeOf239
  v46 := Tryz.zeroValue239
  t53 := Tryz.underlying85
  a53 := Tryz.isAgg85
  z53 := Tryz.sizeOf85
  v53 := Tryz.zeroValue85 }
open Go.RowKit Go.Lib in
theorem Tryz.bits_Mul64 (x y : Nat) (hx : x < 18446744073709551616) (hy : y < 18446744073709551616) (w : World) :
    Calls Tryz.prog 180 #[.int .u64 x, .int .u64 y] w fun e w' => e = .returned (.tuple #[.int .u64 ((x * y / 18446744073709551616 : Nat) : Int), .int .u64 ((x * y % 18446744073709551616 : Nat) : Int)]) ∧ w' = w := Any.bits_Mul64 Tryz.lays264 x y hx hy w
def Tryz.lays185_ren : Go.Shelf.Ren := ⟨fun | 185 => 194 | 187 => 256 | 115 => 134 | 253 => 257 | 224 => 246 | 254 => 258 | 255 => 311 | 291 => 312 | n => n, fun | 37 => 22 | 3 => 3 | 4 => 4 | 0 => 0 | 5 => 5 | 46 => 239 | 9 => 9 | 146 => 314 | 51 => 222 | n => n, fun | 1 => 0 | n => n⟩
theorem Tryz.lays185 : Go.Proofs.Lays.n185 Tryz.prog Tryz.lays185_ren := {
  mixed := by kernel_rfl
  f115 := Tryz.func134.trans (congrArg some (by kernel_rfl))
  f185 := Tryz.func194.trans (congrArg some (by kernel_rfl))
  f187 := Tryz.func256.trans (congrArg some (by kernel_rfl))
  f224 := Tryz.func246.trans (congrArg some (by kernel_rfl))
  f253 := Tryz.func257.trans (congrArg some (by kernel_rfl))
  f254 := Tryz.func258.trans (congrArg some (by kernel_rfl))
  f255 := Tryz.func311.trans (congrArg some (by kernel_rfl))
  f291 := Tryz.func312.trans (congrArg some (by kernel_rfl))
  t0 := Tryz.underlying0
  a0 := Tryz.isAgg0
  z0 := Tryz.sizeOf0
  v0 := Tryz.zeroValue0
  t3 := Tryz.underlying3
  a3 := Tryz.isAgg3
  z3 := Tryz.sizeOf3
  v3 := Tryz.zeroValue3
  t4 := Tryz.underlying4
  a4 := Tryz.isAgg4
  z4 := Tryz.sizeOf4
  v4 := Tryz.zeroValue4
  t5 := Tryz.underlying5
  a5 := Tryz.isAgg5
  z5 := Tryz.sizeOf5
  v5 := Tryz.zeroValue5
  t9 := Tryz.underlying9
  a9 := Tryz.isAgg9
  z9 := Tryz.sizeOf9
  v9 := Tryz.zeroValue9
  t37 := Tryz.underlying22
  a37 := Tryz.isAgg22
  z37 := Tryz.sizeOf22
  v37 := Tryz.zeroValue22
  t46 := Tryz.underlying239
  a46 := Tryz.isAgg239
  z46 := Tryz.sizeOf239
  v46 := Tryz.zeroValue239
  t51 := Tryz.underlying222
  a51 := Tryz.isAgg222
  z51 := Tryz.sizeOf222
  v51 := Tryz.zeroValue222
  t146 := Tryz.underlying314
  a146 := Tryz.isAgg314
  z146 := Tryz.sizeOf314
  v146 := Tryz.zeroValue314
  g1 := by kernel_rfl }
open Go.RowKit Go.Lib in
theorem Tryz.bytes_Index_one (b o n c b2 o2 d : Nat) (xs : List Int) (cv : Int) (w : World) (hx : xs.length = n) (hc : ∀ i, i < n → w.cell? ⟨b, o + i, none⟩ = some (.int .u8 (xs.getD i 0))) (hc2 : w.cell? ⟨b2, o2, none⟩ = some (.int .u8 cv)) :
    Calls Tryz.prog 194 #[.slice (some ⟨b, o, none⟩) n c, .slice (some ⟨b2, o2, none⟩) 1 d] w fun e w' => e = .returned (.int .i64 (Lib.indexByte (Lib.bytesOf xs) cv.toNat.toUInt8)) ∧ w' = w := Any.bytes_Index_one Tryz.lays185 b o n c b2 o2 d xs cv w hx hc hc2
def Tryz.laySort_ren : Go.Shelf.Ren := ⟨fun | 6 => 183 | 15 => 251 | 14 => 250 | 28 => 308 | 29 => 290 | 20 => 300 | 21 => 301 | 22 => 302 | 23 => 303 | 24 => 304 | 25 => 305 | 26 => 306 | 27 => 307 | 46 => 332 | 47 => 333 | 48 => 334 | 49 => 335 | 50 => 336 | 57 => 347 | n => n, fun | 22 => 35 | 24 => 89 | 25 => 257 | 3 => 3 | 39 => 239 | 0 => 0 | 53 => 222 | 55 => 85 | 4 => 4 | 46 => 355 | 45 => 354 | 50 => 343 | 5 => 5 | 9 => 9 | 66 => 374 | 70 => 377 | 76 => 389 | 77 => 390 | n => n, fun | n => n⟩
theorem Tryz.laySort : Go.Proofs.SlLaysF0.n6 Tryz.prog Tryz.laySort_ren := {
  mixed := by kernel_rfl
  f6 := ⟨Tryz.f183.name, by decide, Tryz.func183.trans (congrArg some (by kernel_rfl))⟩
  f14 := ⟨Tryz.f250.name, by decide, Tryz.func250.trans (congrArg some (by kernel_rfl))⟩
  f15 := Tryz.func251.trans (congrArg some (by kernel_rfl))
  f20 := ⟨Tryz.f300.name, by decide, Tryz.func300.trans (congrArg some (by kernel_rfl))⟩
  f21 := ⟨Tryz.f301.name, by decide, Tryz.func301.trans (congrArg some (by kernel_rfl))⟩
  f22 := ⟨Tryz.f302.name, by decide, Tryz.func302.trans (congrArg some (by kernel_rfl))⟩
  f23 := ⟨Tryz.f303.name, by decide, Tryz.func303.trans (congrArg some (by kernel_rfl))⟩
  f24 := ⟨Tryz.f304.name, by decide, Tryz.func304.trans (congrArg some (by kernel_rfl))⟩
  f25 := ⟨Tryz.f305.name, by decide, Tryz.func305.trans (congrArg some (by kernel_rfl))⟩
  f26 := ⟨Tryz.f306.name, by decide, Tryz.func306.trans (congrArg some (by kernel_rfl))⟩
  f27 := ⟨Tryz.f307.name, by decide, Tryz.func307.trans (congrArg some (by kernel_rfl))⟩
  f28 := Tryz.func308.trans (congrArg some (by kernel_rfl))
  f29 := Tryz.func290.trans (congrArg some (by kernel_rfl))
  f46 := ⟨Tryz.f332.name, by decide, Tryz.func332.trans (congrArg some (by kernel_rfl))⟩
  f47 := Tryz.func333.trans (congrArg some (by kernel_rfl))
  f48 := Tryz.func334.trans (congrArg some (by kernel_rfl))
  f49 := ⟨Tryz.f335.name, by decide, Tryz.func335.trans (congrArg some (by kernel_rfl))⟩
  f50 := ⟨Tryz.f336.name, by decide, Tryz.func336.trans (congrArg some (by kernel_rfl))⟩
  f57 := ⟨Tryz.f347.name, by decide, Tryz.func347.trans (congrArg some (by kernel_rfl))⟩
  t0 := Tryz.underlying0
  a0 := Tryz.isAgg0
  z0 := Tryz.sizeOf0
  v0 := Tryz.zeroValue0
  t3 := Tryz.underlying3
  a3 := Tryz.isAgg3
  z3 := Tryz.sizeOf3
  v3 := Tryz.zeroValue3
  t4 := Tryz.underlying4
  a4 := Tryz.isAgg4
  z4 := Tryz.sizeOf4
  v4 := Tryz.zeroValue4
  t5 := Tryz.underlying5
  a5 := Tryz.isAgg5
  z5 := Tryz.sizeOf5
  v5 := Tryz.zeroValue5
  t9 := Tryz.underlying9
  a9 := Tryz.isAgg9
  z9 := Tryz.sizeOf9
  v9 := Tryz.zeroValue9
  t22 := Tryz.underlying35
  a22 := Tryz.isAgg35
  z22 := Tryz.sizeOf35
  v22 := Tryz.zeroValue35
  t25 := Tryz.underlying257
  a25 := Tryz.isAgg257
  z25 := Tryz.sizeOf257
  v25 := Tryz.zeroValue257
  t39 := Tryz.underlying239
  a39 := Tryz.isAgg239
  z39 := Tryz.sizeOf239
  v39 := Tryz.zeroValue239
  t45 := Tryz.underlying354
  a45 := Tryz.isAgg354
  z45 := Tryz.sizeOf354
  v45 := Tryz.zeroValue354
  t46 := Tryz.underlying355
  a46 := Tryz.isAgg355
  z46 := Tryz.sizeOf355
  v46 := Tryz.zeroValue355
  t50 := Tryz.underlying343
  a50 := Tryz.isAgg343
  z50 := Tryz.sizeOf343
  v50 := Tryz.zeroValue343
  t53 := Tryz.underlying222
  a53 := Tryz.isAgg222
  z53 := Tryz.sizeOf222
  v53 := Tryz.zeroValue222
  t55 := Tryz.underlying85
  a55 := Tryz.isAgg85
  z55 := Tryz.sizeOf85
  v55 := Tryz.zeroValue85
  t66 := Tryz.underlying374
  a66 := Tryz.isAgg374
  z66 := Tryz.sizeOf374
  v66 := Tryz.zeroValue374
  t70 := Tryz.underlying377
  a70 := Tryz.isAgg377
  z70 := Tryz.sizeOf377
  v70 := Tryz.zeroValue377
  t76 := Tryz.underlying389
  a76 := Tryz.isAgg389
  z76 := Tryz.sizeOf389
  v76 := Tryz.zeroValue389
  t77 := Tryz.underlying390
  a77 := Tryz.isAgg390
  z77 := Tryz.sizeOf390
  v77 := Tryz.zeroValue390 }
end Go.Proofs
set_option linter.unusedVariables false
set_option linter.unusedSimpArgs false
namespace Go.Proofs
open Go.Shelf Go.RowKit Go.Lib
set_option maxHeartbeats 1000000 in
theorem Tryz.strings_Split_one (s : ByteArray) (c : UInt8) (w : World) (hs : s.size < 4294967281) :
    Calls Tryz.prog 74 #[.string s, .string ⟨#[c]⟩] w fun e w' => ∃ (l : List ByteArray) (t : TypeId), e = .returned (.slice (some ⟨w.heap.size, 0, none⟩) l.length l.length) ∧ w' = w.alloc (.cells (l.map Value.string).toArray t) ∧ l.map (·.data.toList) = AM.splitL c s.data.toList := by
  have mixed : Tryz.prog.follows .mixedOrders := by kernel_rfl
  have h1 : 1 ≤ (⟨#[c]⟩ : ByteArray).size := Nat.le_refl 1
  have hle := Lib.countB_le ⟨#[c]⟩ h1 s.size s (Nat.le_refl _)
  have hlen := Lib.splitB_all ⟨#[c]⟩ h1 0 _ s rfl
  have hcb : Lib.countB s ⟨#[c]⟩ = s.data.toList.count c := Lib.count_one c s.data.toList
  have hI : ∀ (x : ByteArray) (cs : Array Value), x.size ≤ s.size → Calls Tryz.prog 191 #[.string x, .string ⟨#[c]⟩] (w.alloc (.cells cs 9)) fun e w' => e = .returned (.int .i64 (Lib.indexB x ⟨#[c]⟩)) ∧ w' = w.alloc (.cells cs 9) :=
    fun x cs hx => (Tryz.strings_Index_one x c _).mono fun e w' ⟨he, hw⟩ => ⟨by rw [he, ← Lib.index_one]; try rfl, hw⟩
  have hC : Calls Tryz.prog 190 #[.string s, .string ⟨#[c]⟩] w fun e w' => e = .returned (.int .i64 (Lib.countB s ⟨#[c]⟩)) ∧ w' = w :=
    (Tryz.strings_Count_one s c w).mono fun e w' ⟨he, hw⟩ => ⟨by rw [he, hcb]; rfl, hw⟩
  have h := Any.strings_genSplit_core Tryz.lays221 (by kernel_rfl) s ⟨#[c]⟩ 0 (-1) (Lib.countB s ⟨#[c]⟩ + 1) w hs h1 (Nat.zero_le _) hI hC (by decide) (by decide) (by rw [if_pos (by decide)]; omega)
  rw [Nat.add_sub_cancel, hlen] at h
  have e2 : Lib.cellsOf (Lib.splitB ⟨#[c]⟩ 0 (Lib.countB s ⟨#[c]⟩) s) (Lib.countB s ⟨#[c]⟩ + 1) = ((Lib.splitB ⟨#[c]⟩ 0 (Lib.countB s ⟨#[c]⟩) s).map Value.string).toArray := by rw [← hlen]; exact Lib.cellsOf_full _
  rw [e2] at h
  have hd : (Lib.splitB ⟨#[c]⟩ 0 (Lib.countB s ⟨#[c]⟩) s).map (·.data.toList) = AM.splitL c s.data.toList := by
    rw [Lib.splitB_data, hcb]
    exact AM.splitK_one c _ _ rfl
  change Calls Tryz.prog 121 _ _ _ at h
  generalize Lib.splitB ⟨#[c]⟩ 0 (Lib.countB s ⟨#[c]⟩) s = l at h hd hlen
  rw [← hlen] at h
  clear e2 hI hC hle hlen hcb
  go_enter Tryz.func74, Tryz.ntmps74
  go_wp2_with (go_at_call 121; refine h.mono ?_; rintro e w' ⟨rfl, hw⟩; rw [hw])
  go_ret
  exact ⟨l, _, rfl, rfl, hd⟩
end Go.Proofs
set_option linter.unusedVariables false
set_option linter.unusedSimpArgs false
namespace Go.Proofs
open Go.Shelf Go.RowKit Go.Sort
set_option maxHeartbeats 1000000 in
theorem Tryz.isNaN_str (s : ByteArray) (w : World) : Calls Tryz.prog 252 #[.string s] w fun e w' => e = .returned (.bool false) ∧ w' = w := by
  have mixed : Tryz.prog.follows .mixedOrders := by kernel_rfl
  go_enter Tryz.func252, Tryz.ntmps252
  go_wp2
  go_ret
  exact ⟨rfl, rfl⟩
theorem Tryz.gtr_str (x y : ByteArray) (w : World) : (Go.binOp .gtr 9 (.string x) (.string y)).run Tryz.prog w = .ok (.bool (!(Op.bytesLess x.toList y.toList || x.toList == y.toList))) w := by simp [Go.binOp, Op.stringOp]
set_option maxHeartbeats 2000000 in
theorem Tryz.compare_str (x y : ByteArray) (w : World) : Calls Tryz.prog 186 #[.string x, .string y] w fun e w' => e = .returned (.int .i64 (if Op.bytesLess x.toList y.toList then -1 else if Op.bytesLess x.toList y.toList || x.toList == y.toList then 0 else 1)) ∧ w' = w := by
  have mixed : Tryz.prog.follows .mixedOrders := by kernel_rfl
  go_enter Tryz.func186, Tryz.ntmps186
  go_wp2_with (go_at_call 252; refine (Tryz.isNaN_str _ _).mono ?_; rintro e w' ⟨rfl, rfl⟩)
  all_goals try (
    rw [Tryz.gtr_str]
    simp only [Result.andThen]
    rw [Oper.upon_value]
    generalize hq : (Op.bytesLess x.toList y.toList || x.toList == y.toList) = q
    cases q
    all_goals (simp only [Bool.not_true, Bool.not_false]; go_wp2))
  all_goals (go_ret; refine ⟨?_, rfl⟩; simp_all)
set_option maxHeartbeats 4000000 in
theorem Tryz.or_ints (b : Nat) (p q : Int) (w : World) (h0 : w.cell? ⟨b, 0, none⟩ = some (.int .i64 p)) (h1 : w.cell? ⟨b, 1, none⟩ = some (.int .i64 q)) : Calls Tryz.prog 185 #[.slice (some ⟨b, 0, none⟩) 2 2] w fun e w' => e = .returned (.int .i64 (if p = 0 then q else p)) ∧ w' = w := by
  have mixed : Tryz.prog.follows .mixedOrders := by kernel_rfl
  go_enter Tryz.func185, Tryz.ntmps185
  go_wp2
  refine wp_loop_rounds 3 ?_
  rw [rounds_succ]
  by_cases hp : p = 0
  · subst hp
    go_wp2
    rw [rounds_succ]
    by_cases hq : q = 0
    · subst hq
      go_wp2
      rw [rounds_succ]
      go_wp2
      go_ret
      exact ⟨rfl, rfl⟩
    · go_wp2
      all_goals first | (go_ret; refine ⟨?_, rfl⟩; simp_all) | (exfalso; simp_all)
  · go_wp2
    all_goals first | (go_ret; refine ⟨?_, rfl⟩; simp_all) | (exfalso; simp_all)
set_option maxHeartbeats 8000000 in
set_option maxRecDepth 100000 in
theorem Tryz.cmpTag (x y : AM.TagD) (w : World) : Calls Tryz.prog 184 #[.agg (AM.encT x).toArray, .agg (AM.encT y).toArray] w fun e w' => e = .returned (.int .i64 (AM.cmpL x y)) ∧ ∃ q os, w' = grow (w.drewN q) os := by
  have mixed : Tryz.prog.follows .mixedOrders := by kernel_rfl
  obtain ⟨k1, v1⟩ := x
  obtain ⟨k2, v2⟩ := y
  show Calls Tryz.prog 184 #[.agg #[.string ⟨k1.toArray⟩, .string ⟨v1.toArray⟩], .agg #[.string ⟨k2.toArray⟩, .string ⟨v2.toArray⟩]] w _
  have hb : ∀ l : List UInt8, (⟨l.toArray⟩ : ByteArray).toList = l := fun l => by rw [AM.ba_toList]
  have c1 : ∀ W, Calls Tryz.prog 186 #[.string ⟨k1.toArray⟩, .string ⟨k2.toArray⟩] W fun e w' => e = .returned (.int .i64 (AM.cmpS k1 k2)) ∧ w' = W := fun W => by
    have h := Tryz.compare_str ⟨k1.toArray⟩ ⟨k2.toArray⟩ W
    simp only [hb] at h
    exact h
  have c2 : ∀ W, Calls Tryz.prog 186 #[.string ⟨v1.toArray⟩, .string ⟨v2.toArray⟩] W fun e w' => e = .returned (.int .i64 (AM.cmpS v1 v2)) ∧ w' = W := fun W => by
    have h := Tryz.compare_str ⟨v1.toArray⟩ ⟨v2.toArray⟩ W
    simp only [hb] at h
    exact h
  unfold AM.cmpL
  simp only
  clear hb
  generalize AM.cmpS k1 k2 = r1 at c1 ⊢
  generalize AM.cmpS v1 v2 = r2 at c2 ⊢
  generalize (⟨k1.toArray⟩ : ByteArray) = k1 at c1 ⊢
  generalize (⟨k2.toArray⟩ : ByteArray) = k2 at c1 ⊢
  generalize (⟨v1.toArray⟩ : ByteArray) = v1 at c2 ⊢
  generalize (⟨v2.toArray⟩ : ByteArray) = v2 at c2 ⊢
  have c3 : ∀ (W : World) (b : Nat), W.heap.size = b → Calls Tryz.prog 185 #[.slice (some ⟨b, 0, none⟩) 2 2] (W.alloc (.cells #[.int .i64 r1, .int .i64 r2] 3)).drew fun e w' => e = .returned (.int .i64 (if r1 = 0 then r2 else r1)) ∧ w' = (W.alloc (.cells #[.int .i64 r1, .int .i64 r2] 3)).drew := by
    rintro W b rfl
    have hh : (W.alloc (.cells #[.int .i64 r1, .int .i64 r2] 3)).drew.heap[W.heap.size]? = some (.cells #[.int .i64 r1, .int .i64 r2] 3 (0, 0)) := World.alloc_heap_new W _
    exact Tryz.or_ints _ r1 r2 _ (by rw [Lib.cell_of_heap hh]; rfl) (by rw [Lib.cell_of_heap hh]; rfl)
  generalize (if r1 = 0 then r2 else r1) = rr at c3 ⊢
  go_enter Tryz.func184, Tryz.ntmps184
  go_wp2
  go_region_held2 (fun W => W.cell? ⟨w.heap.size, 0, none⟩ = some (.string k1) ∧ W.cell? ⟨w.heap.size, 1, none⟩ = some (.string v1) ∧ W.cell? ⟨w.heap.size + 1, 0, none⟩ = some (.string k2) ∧ W.cell? ⟨w.heap.size + 1, 1, none⟩ = some (.string v2)) (go_keep) (first
    | (go_at_call_of 186 (Value.string k1); refine (c1 _).mono ?_; rintro e w' ⟨rfl, rfl⟩)
    | (go_at_call_of 186 (Value.string v1); refine (c2 _).mono ?_; rintro e w' ⟨rfl, rfl⟩)
    | (go_at_call 185; refine (c3 _ _ (by simp)).mono ?_; rintro e w' ⟨rfl, rfl⟩))
  go_wp2
  go_ret
  exact ⟨rfl, 1, _, by rw [alloc_eq_grow, alloc_eq_grow, alloc_eq_grow, grow_grow, grow_grow]; rfl⟩
set_option maxHeartbeats 4000000 in
set_option maxRecDepth 100000 in
theorem Tryz.sort_none (A : Option Addr) (w : World) : Calls Tryz.prog 183 #[.slice A 0 0, .func (.func 184) #[] #[]] w fun e w' => e = .returned (.tuple #[]) ∧ w.grownBy w' none := by
  have mixed : Tryz.prog.follows .mixedOrders := by kernel_rfl
  go_enter Tryz.func183, Tryz.ntmps183
  go_wp2
  refine wp_loop_rounds 1 ?_
  rw [rounds_succ]
  go_wp2
  refine wp_loop_rounds 1 ?_
  rw [rounds_succ]
  go_wp2
  go_end0
  all_goals try simp only []
  go_wp2
  try simp only [Exit.inBlock, Exit.then]
  refine bodyPost_ret (results_none rfl _ _ _) rfl ?_
  try simp only []
  go_at_K
  go_wp2
  go_end0
  exact ⟨rfl, ⟨rfl, rfl, rfl, Nat.le_refl _, fun _ _ _ => rfl⟩⟩
theorem sortTags_ok : AM.PrOK Tryz.prog (fun _ => True) 183 (.sort AM.TyTag 184 AM.sortTags) := by
  refine AM.sort_ok (AM.enters Tryz.func183 (by kernel_rfl) (by decide)) (fun q cap d w hH hq hd => ?_) Tryz.sort_none
  have eg : ∀ args w, (callFunc 184 args).run Tryz.prog w = .ok (.enter 184 args) w := enters_of Tryz.func184 (by kernel_rfl) rfl
  exact AnyQ.slices_SortFunc Tryz.laySort 2 Tryz.isAgg89 Tryz.sizeOf89 AM.encT (fun _ => rfl) (fun x v hv => by simp [AM.encT] at hv; rcases hv with rfl | rfl <;> rfl) AM.cmpL AM.swoT 184 #[] q 0 cap d w eg (fun _ _ _ _ x y => Tryz.cmpTag x y _) hH hq hd
end Go.Proofs
set_option linter.unusedVariables false
set_option linter.unusedSimpArgs false
namespace Go.AM
open Go.Proofs Go.RowKit
def longF : List AV → List AV → Option AV
  | [.int .i64 m, _, .int .i64 f, _, _], [.int .i64 e] => some (.bool (decide (IntKind.wrap .i64 (e - f) > m)))
  | _, _ => none
theorem RepL.uncons {w : World} {G : GS} {vs : List Value} {c : AV} {cs : List AV} (h : RepL w G vs (c :: cs)) : ∃ v us, vs = v :: us ∧ RepV w G v c ∧ RepL w G us cs := by
  cases vs with
  | nil => exact absurd h.1 (by simp)
  | cons v us => exact ⟨v, us, rfl, h.tail⟩
set_option maxHeartbeats 2000000 in
set_option maxRecDepth 100000 in
theorem long_calls (b : Nat) (mo fr e : Int) (w : World) (h0 : w.cell? ⟨b, 0, none⟩ = some (.int .i64 mo)) (h2 : w.cell? ⟨b, 2, none⟩ = some (.int .i64 fr)) :
    Calls Tryz.prog 82 #[.pointer (some ⟨b, 0, none⟩), .int .i64 e] w fun en w' => en = .returned (.bool (decide (IntKind.wrap .i64 (e - fr) > mo))) ∧ w.grownBy w' none := by
  have mixed : Tryz.prog.follows .mixedOrders = true := by kernel_rfl
  go_enter Tryz.func82, Tryz.ntmps82
  go_wp2
  go_region
  go_wp2
  go_ret
  refine ⟨?_, rfl, rfl, rfl, Nat.le_refl _, fun _ _ _ => rfl⟩
  show Ending.returned (.bool (decide (mo < wrap64 (e - fr)))) = _
  rw [show wrap64 (e - fr) = IntKind.wrap .i64 (e - fr) from by simp [wrap64, IntKind.wrap_i64]]
theorem long_ok : PrOK Tryz.prog (fun _ => True) 82 (.rd longF) := by
  intro w G b vs t cs ar us v _ hh hcs has hF
  have he : Enters Tryz.prog 82 := enters Tryz.func82 (by kernel_rfl) (by decide)
  unfold longF at hF
  split at hF
  · rename_i m x1 f x3 x4 e
    cases hF
    obtain ⟨v0, u0, e0, r0, hcs⟩ := hcs.uncons
    obtain ⟨v1, u1, e1, r1, hcs⟩ := hcs.uncons
    obtain ⟨v2, u2, e2, r2, hcs⟩ := hcs.uncons
    obtain ⟨y, rfl, ry⟩ := has.one
    obtain ⟨rfl, _⟩ := rep_int r0
    obtain ⟨rfl, _⟩ := rep_int r2
    obtain ⟨rfl, _⟩ := rep_int ry
    have c0 : w.cell? ⟨b, 0, none⟩ = some (.int .i64 m) := by rw [Lib.cell_of_heap hh, ← Array.getElem?_toList, e0]; rfl
    have c2 : w.cell? ⟨b, 2, none⟩ = some (.int .i64 f) := by rw [Lib.cell_of_heap hh, ← Array.getElem?_toList, e0, e1, e2]; rfl
    refine goes_of he ((long_calls b m f e w c0 c2).mono ?_)
    rintro en w' ⟨rfl, hg⟩
    exact ⟨_, rfl, hg, .bool _⟩
  · cases hF
end Go.AM
set_option linter.unusedVariables false
set_option linter.unusedSimpArgs false
namespace Go.Proofs
open Go.RowKit Go.AM
set_option maxHeartbeats 6400000 in
set_option maxRecDepth 100000 in
theorem Tryz.words_call (w : World) : Calls Tryz.prog 99 #[] w fun e w' => e = .returned (.map (some w.heap.size)) ∧ w' = w.alloc (.map wordsMap 4) := by
  have mixed : Tryz.prog.follows .mixedOrders := by kernel_rfl
  have h0 : (Instr.makeMap 185 none).run Tryz.prog w = .ok (.map (some w.heap.size)) (w.alloc (.map #[] 0)) := rfl
  have up := fun es c key v h => mapUpdate_int (P := Tryz.prog) (t := 185) (k := 3) (e := 9) Tryz.underlying185 Tryz.underlying3 w es c key v h
  have h1 := up #[] 0 1 (.string ⟨#[99]⟩) (by simp)
  have h2 := up #[⟨.int .i64 1, .string ⟨#[99]⟩, 0⟩] 1 2 (.string ⟨#[103]⟩) (by simp)
  have h3 := up #[⟨.int .i64 1, .string ⟨#[99]⟩, 0⟩, ⟨.int .i64 2, .string ⟨#[103]⟩, 1⟩] 2 3 (.string ⟨#[109, 115]⟩) (by simp)
  have h4 := up #[⟨.int .i64 1, .string ⟨#[99]⟩, 0⟩, ⟨.int .i64 2, .string ⟨#[103]⟩, 1⟩, ⟨.int .i64 3, .string ⟨#[109, 115]⟩, 2⟩] 3 4 (.string ⟨#[104]⟩) (by simp)
  clear up
  simp only [List.push_toArray, List.nil_append, List.cons_append] at h1 h2 h3 h4
  go_enter Tryz.func99, Tryz.ntmps99
  go_wp2
  go_ret
  exact ⟨rfl, rfl⟩
set_option maxHeartbeats 6400000 in
set_option maxRecDepth 100000 in
theorem Tryz.statsd_Word (k : Int) (w : World) : Calls Tryz.prog 56 #[.int .i64 k] w fun e w' => e = .returned (.tuple #[.string ⟨(wordL k).toArray⟩, .int .i64 (wordE k)]) ∧ Below w.heap.size w w' := by
  have mixed : Tryz.prog.follows .mixedOrders := by kernel_rfl
  have e1 : ∀ args w, (callFunc 99 args).run Tryz.prog w = .ok (.enter 99 args) w := enters_of Tryz.func99 (by kernel_rfl) rfl
  have hz : ∀ w', (zeroValue 9).run Tryz.prog w' = .ok (.string ⟨#[]⟩) w' := fun w' => by rfl
  obtain ⟨v, b, hv, hb, hvb, hl⟩ : ∃ (v : List UInt8) (b : Bool), v = wordL k ∧ b = decide (k = 1 ∨ k = 2 ∨ k = 3 ∨ k = 4) ∧ (b = false → v = []) ∧ (Instr.lookup 185 (.map (some w.heap.size)) (.int .i64 k) true).run Tryz.prog (w.alloc (.map wordsMap 4)) = .ok (.tuple #[.string ⟨v.toArray⟩, .bool b]) (w.alloc (.map wordsMap 4)) := by
    by_cases h1 : k = 1
    · subst h1; exact ⟨[99], true, rfl, rfl, (fun h => by cases h), lookup_int (P := Tryz.prog) (k := 3) (e := 9) Tryz.underlying185 Tryz.underlying3 w wordsMap 4 1 (i := 0) rfl rfl⟩
    by_cases h2 : k = 2
    · subst h2; exact ⟨[103], true, rfl, rfl, (fun h => by cases h), lookup_int (P := Tryz.prog) (k := 3) (e := 9) Tryz.underlying185 Tryz.underlying3 w wordsMap 4 2 (i := 1) rfl rfl⟩
    by_cases h3 : k = 3
    · subst h3; exact ⟨[109, 115], true, rfl, rfl, (fun h => by cases h), lookup_int (P := Tryz.prog) (k := 3) (e := 9) Tryz.underlying185 Tryz.underlying3 w wordsMap 4 3 (i := 2) rfl rfl⟩
    by_cases h4 : k = 4
    · subst h4; exact ⟨[104], true, rfl, rfl, (fun h => by cases h), lookup_int (P := Tryz.prog) (k := 3) (e := 9) Tryz.underlying185 Tryz.underlying3 w wordsMap 4 4 (i := 3) rfl rfl⟩
    refine ⟨[], false, ?_, ?_, (fun _ => rfl), lookup_int_no (P := Tryz.prog) (k := 3) (e := 9) Tryz.underlying185 Tryz.underlying3 w wordsMap 4 k ?_ hz⟩
    · unfold wordL; rw [if_neg h1, if_neg h2, if_neg h3, if_neg h4]
    · simp [h1, h2, h3, h4]
    · intro x hx
      simp only [wordsMap, List.mem_cons, List.mem_nil_iff, or_false] at hx
      rcases hx with rfl | rfl | rfl | rfl
      · exact ⟨1, rfl, Ne.symm h1⟩
      · exact ⟨2, rfl, Ne.symm h2⟩
      · exact ⟨3, rfl, Ne.symm h3⟩
      · exact ⟨4, rfl, Ne.symm h4⟩
  have hE : wordE k = if b then 0 else 16 := by subst hb; unfold wordE; simp
  rw [← hv, hE]
  clear hv hE hb hz
  cases b
  · obtain rfl := hvb rfl
    go_enter Tryz.func56, Tryz.ntmps56
    go_wp2_with (go_at_fn 99; refine (Tryz.words_call _).mono ?_; rintro e w' ⟨rfl, rfl⟩)
    all_goals go_ret2
    all_goals exact ⟨rfl, below_new _⟩
  · go_enter Tryz.func56, Tryz.ntmps56
    go_wp2_with (go_at_fn 99; refine (Tryz.words_call _).mono ?_; rintro e w' ⟨rfl, rfl⟩)
    all_goals go_ret2
    all_goals exact ⟨rfl, below_new _⟩
end Go.Proofs
set_option linter.unusedVariables false
set_option maxRecDepth 100000
namespace Go.AM
open Go.Proofs Go.RowKit
open Go.Proofs.YtjnmlfffiibeiabGreatDoor
def SI : World → Prop := LaidI Tryz.prog Rows.sessCoversRow.laid
def SW : World → Prop := WOf SI
theorem swErrS {w : World} (h : SW w) : ∃ ev, w.cell? ⟨6, 0, none⟩ = some ev ∧ (ev = .nilIface ∨ ∃ te pe, ev = .iface te pe) := by
  obtain ⟨w0, h1, h2, h3⟩ := h
  obtain ⟨ev, a, b⟩ := laid_iface h1 (by kernel_rfl) 5 rfl (g := 6) (by kernel_rfl) (by kernel_rfl) Tryz.underlying139
  exact ⟨ev, cell_on a h3, b⟩
theorem swErrR {w : World} (h : SW w) : ∃ ev, w.cell? ⟨7, 0, none⟩ = some ev ∧ (ev = .nilIface ∨ ∃ te pe, ev = .iface te pe) := by
  obtain ⟨w0, h1, h2, h3⟩ := h
  obtain ⟨ev, a, b⟩ := laid_iface h1 (by kernel_rfl) 4 rfl (g := 7) (by kernel_rfl) (by kernel_rfl) Tryz.underlying139
  exact ⟨ev, cell_on a h3, b⟩
theorem mixed : Tryz.prog.follows .mixedOrders = true := by kernel_rfl
abbrev V0 : SV := .int .i64
abbrev V1 : SV := .int .u8
abbrev V2 : SV := .agg [V0, V0]
abbrev V3 : SV := .sl Y3 .unk
abbrev V4 : SV := .sl Y4 .unk
abbrev V5 : SV := .agg [.str, V0, V3, V0, V4, V0]
abbrev V6 : SV := .int .u64
abbrev V7 : SV := .agg [.bool, V6, V0]
abbrev V8 : SV := .agg [V1, V1]
abbrev V9 : SV := .sl .str .unk
abbrev V10 : SV := .agg [.str, .str, .str, .str, .str, .str]
abbrev V11 : SV := .agg [.str, .str]
abbrev V12 : SV := .agg [.str, (.const (.fn 124 [(.ref 2 0)] [])), .str, (.const (.fn 125 [(.ref 2 0)] [])), .str, (.const (.fn 126 [(.ref 2 0)] []))]
abbrev V13 : SV := .sl .u8 .unk
abbrev V14 : SV := .sl Y7 .unk
abbrev V15 : SV := .agg [V1, V0, V1, V0, V1, V0]
abbrev V16 : SV := .sl Y9 .unk
abbrev V17 : SV := .agg [V0, V0, V0, V14, V0, V0]
def tab : Tree TI := .node 107 (.node 65 (.node 30 (.node 24 (.node 5 (.node 4 (.one 3 ⟨.int .i64, 1, 8, false, [(.int .i64 (0 : Int))], some Y0, false⟩) (.one 4 ⟨.bool, 1, 1, false, [(.bool false)], some .bool, false⟩)) (.node 9 (.one 5 ⟨.int .u8, 1, 1, false, [(.int .u8 (0 : Int))], some .u8, false⟩) (.node 22 (.one 9 ⟨.str, 1, 16, false, [(.str [])], some .str, false⟩) (.one 22 ⟨.slice 5, 1, 24, false, [.sl .u8 [] .full], some (.sl .u8), false⟩)))) (.node 26 (.node 25 (.one 24 ⟨.struct [(0, 3), (1, 3)], 2, 16, true, [(.int .i64 (0 : Int)), (.int .i64 (0 : Int))], some Y10, true⟩) (.one 25 ⟨.func, 1, 8, false, [.nilfn], none, false⟩)) (.node 27 (.one 26 ⟨.slice 32, 1, 24, false, [.sl Y9 [] .full], some Y12, false⟩) (.node 28 (.one 27 ⟨.int .i64, 1, 8, false, [(.int .i64 (0 : Int))], some Y0, false⟩) (.one 28 ⟨.other, 1, 0, false, [.any], none, false⟩))))) (.node 39 (.node 34 (.node 32 (.one 30 ⟨.slice 37, 1, 24, false, [.sl Y7 [] .full], some Y8, false⟩) (.one 32 ⟨.struct [(0, 3), (1, 3), (2, 3), (3, 30), (4, 27), (5, 3)], 6, 64, true, [(.int .i64 (0 : Int)), (.int .i64 (0 : Int)), (.int .i64 (0 : Int)), .sl Y7 [] .full, (.int .i64 (0 : Int)), (.int .i64 (0 : Int))], some Y9, false⟩)) (.node 35 (.one 34 ⟨.slice 87, 1, 24, false, [.sl Y3 [] .full], some Y5, false⟩) (.node 37 (.one 35 ⟨.slice 89, 1, 24, false, [.sl Y4 [] .full], some Y6, false⟩) (.one 37 ⟨.struct [(0, 9), (1, 3), (2, 34), (3, 3), (4, 35), (5, 3)], 6, 88, true, [(.str []), (.int .i64 (0 : Int)), .sl Y3 [] .full, (.int .i64 (0 : Int)), .sl Y4 [] .full, (.int .i64 (0 : Int))], some Y7, false⟩)))) (.node 47 (.node 40 (.one 39 ⟨.struct [(0, 27), (1, 3)], 2, 16, true, [(.int .i64 (0 : Int)), (.int .i64 (0 : Int))], some Y10, true⟩) (.node 46 (.one 40 ⟨.other, 1, 0, false, [.any], none, false⟩) (.one 46 ⟨.ptr, 1, 8, false, [.nilp], none, false⟩))) (.node 62 (.one 47 ⟨.other, 1, 0, false, [.any], none, false⟩) (.node 63 (.one 62 ⟨.func, 1, 8, false, [.nilfn], none, false⟩) (.one 63 ⟨.func, 1, 8, false, [.nilfn], none, false⟩)))))) (.node 87 (.node 73 (.node 69 (.node 66 (.one 65 ⟨.struct [(0, 62), (1, 63)], 2, 16, true, [.nilfn, .nilfn], none, false⟩) (.one 66 ⟨.other, 1, 0, false, [.any], none, false⟩)) (.node 70 (.one 69 ⟨.ptr, 1, 8, false, [.nilp], none, false⟩) (.node 71 (.one 70 ⟨.ptr, 1, 8, false, [.nilp], none, false⟩) (.one 71 ⟨.func, 1, 8, false, [.nilfn], none, false⟩)))) (.node 81 (.node 74 (.one 73 ⟨.struct [(0, 3), (1, 69), (2, 70), (3, 71), (4, 4), (5, 4)], 6, 40, true, [(.int .i64 (0 : Int)), .nilp, .nilp, .nilfn, (.bool false), (.bool false)], none, false⟩) (.node 76 (.one 74 ⟨.other, 1, 0, false, [.any], none, false⟩) (.one 76 ⟨.other, 1, 0, false, [.any], none, false⟩))) (.node 82 (.one 81 ⟨.func, 1, 8, false, [.nilfn], none, false⟩) (.node 85 (.one 82 ⟨.other, 1, 0, false, [.any], none, false⟩) (.one 85 ⟨.int .u64, 1, 8, false, [(.int .u64 (0 : Int))], some Y2, false⟩))))) (.node 95 (.node 90 (.node 89 (.one 87 ⟨.struct [(0, 4), (1, 85), (2, 3)], 3, 24, true, [(.bool false), (.int .u64 (0 : Int)), (.int .i64 (0 : Int))], some Y3, true⟩) (.one 89 ⟨.struct [(0, 9), (1, 9)], 2, 32, true, [(.str []), (.str [])], some Y4, true⟩)) (.node 91 (.one 90 ⟨.func, 1, 8, false, [.nilfn], none, false⟩) (.node 92 (.one 91 ⟨.slice 95, 1, 24, false, [.sl Y1 [] .full], some Y13, false⟩) (.one 92 ⟨.other, 1, 0, false, [.any], none, false⟩)))) (.node 100 (.node 98 (.one 95 ⟨.struct [(0, 3), (1, 3), (2, 9), (3, 4)], 4, 40, true, [(.int .i64 (0 : Int)), (.int .i64 (0 : Int)), (.str []), (.bool false)], some Y1, true⟩) (.node 99 (.one 98 ⟨.struct [(0, 3), (1, 3), (2, 3), (3, 22), (4, 4)], 5, 56, true, [(.int .i64 (0 : Int)), (.int .i64 (0 : Int)), (.int .i64 (0 : Int)), .sl .u8 [] .full, (.bool false)], some Y14, false⟩) (.one 99 ⟨.slice 103, 1, 24, false, [.sl Y11 [] .full], some Y15, false⟩))) (.node 103 (.one 100 ⟨.other, 1, 0, false, [.any], none, false⟩) (.node 104 (.one 103 ⟨.struct [(0, 3), (1, 3), (2, 22), (3, 39)], 5, 56, true, [(.int .i64 (0 : Int)), (.int .i64 (0 : Int)), .sl .u8 [] .full, (.int .i64 (0 : Int)), (.int .i64 (0 : Int))], some Y11, false⟩) (.one 104 ⟨.other, 1, 0, false, [.any], none, false⟩))))))) (.node 167 (.node 139 (.node 122 (.node 113 (.node 111 (.one 107 ⟨.struct [(0, 3), (1, 3), (2, 22), (3, 3), (4, 4)], 5, 56, true, [(.int .i64 (0 : Int)), (.int .i64 (0 : Int)), .sl .u8 [] .full, (.int .i64 (0 : Int)), (.bool false)], some Y16, false⟩) (.one 111 ⟨.other, 1, 0, false, [.any], none, false⟩)) (.node 117 (.one 113 ⟨.other, 1, 0, false, [.any], none, false⟩) (.node 120 (.one 117 ⟨.other, 1, 0, false, [.any], none, false⟩) (.one 120 ⟨.other, 1, 0, false, [.any], none, false⟩)))) (.node 126 (.node 123 (.one 122 ⟨.func, 1, 8, false, [.nilfn], none, false⟩) (.one 123 ⟨.other, 1, 0, false, [.any], none, false⟩)) (.node 128 (.one 126 ⟨.other, 1, 0, false, [.any], none, false⟩) (.node 131 (.one 128 ⟨.other, 1, 0, false, [.any], none, false⟩) (.one 131 ⟨.other, 1, 0, false, [.any], none, false⟩))))) (.node 151 (.node 146 (.node 140 (.one 139 ⟨.iface, 1, 16, false, [(.err false)], none, false⟩) (.one 140 ⟨.other, 1, 0, false, [.any], none, false⟩)) (.node 148 (.one 146 ⟨.ptr, 1, 8, false, [.nilp], none, false⟩) (.node 149 (.one 148 ⟨.struct [(0, 37), (6, 3), (7, 3)], 8, 104, true, [(.str []), (.int .i64 (0 : Int)), .sl Y3 [] .full, (.int .i64 (0 : Int)), .sl Y4 [] .full, (.int .i64 (0 : Int)), (.int .i64 (0 : Int)), (.int .i64 (0 : Int))], some Y17, false⟩) (.one 149 ⟨.slice 9, 1, 24, false, [.sl .str [] .full], some (.sl .str), false⟩)))) (.node 157 (.node 152 (.one 151 ⟨.func, 1, 8, false, [.nilfn], none, false⟩) (.node 154 (.one 152 ⟨.slice 151, 1, 24, false, [.nils], none, false⟩) (.one 154 ⟨.func, 1, 8, false, [.nilfn], none, false⟩))) (.node 159 (.one 157 ⟨.struct [(0, 3), (1, 9), (2, 4)], 3, 32, true, [(.int .i64 (0 : Int)), (.str []), (.bool false)], some Y18, true⟩) (.node 162 (.one 159 ⟨.ptr, 1, 8, false, [.nilp], none, false⟩) (.one 162 ⟨.func, 1, 8, false, [.nilfn], none, false⟩)))))) (.node 213 (.node 198 (.node 184 (.node 172 (.one 167 ⟨.func, 1, 8, false, [.nilfn], none, false⟩) (.one 172 ⟨.other, 1, 0, false, [.any], none, false⟩)) (.node 194 (.one 184 ⟨.other, 1, 0, false, [.any], none, false⟩) (.node 196 (.one 194 ⟨.other, 1, 0, false, [.any], none, false⟩) (.one 196 ⟨.other, 1, 0, false, [.any], none, false⟩)))) (.node 210 (.node 200 (.one 198 ⟨.arr 2 5, 2, 2, true, [(.int .u8 (0 : Int)), (.int .u8 (0 : Int))], some Y19, false⟩) (.node 203 (.one 200 ⟨.func, 1, 8, false, [.nilfn], none, false⟩) (.one 203 ⟨.arr 6 9, 6, 96, true, [(.str []), (.str []), (.str []), (.str []), (.str []), (.str [])], some Y20, false⟩))) (.node 211 (.one 210 ⟨.func, 1, 8, false, [.nilfn], none, false⟩) (.node 212 (.one 211 ⟨.struct [(0, 9), (1, 210)], 2, 24, true, [(.str []), .nilfn], none, false⟩) (.one 212 ⟨.arr 3 211, 6, 72, true, [(.str []), .nilfn, (.str []), .nilfn, (.str []), .nilfn], none, false⟩))))) (.node 219 (.node 215 (.node 214 (.one 213 ⟨.func, 1, 8, false, [.nilfn], none, false⟩) (.one 214 ⟨.func, 1, 8, false, [.nilfn], none, false⟩)) (.node 217 (.one 215 ⟨.other, 1, 0, false, [.any], none, false⟩) (.node 218 (.one 217 ⟨.func, 1, 8, false, [.nilfn], none, false⟩) (.one 218 ⟨.func, 1, 8, false, [.nilfn], none, false⟩)))) (.node 252 (.node 224 (.one 219 ⟨.other, 1, 0, false, [.any], none, false⟩) (.node 225 (.one 224 ⟨.struct [(0, 5), (1, 27)], 2, 16, true, [(.int .u8 (0 : Int)), (.int .i64 (0 : Int))], some Y21, true⟩) (.one 225 ⟨.arr 3 224, 6, 48, true, [(.int .u8 (0 : Int)), (.int .i64 (0 : Int)), (.int .u8 (0 : Int)), (.int .i64 (0 : Int)), (.int .u8 (0 : Int)), (.int .i64 (0 : Int))], some Y22, false⟩))) (.node 257 (.one 252 ⟨.other, 1, 0, false, [.any], none, false⟩) (.node 261 (.one 257 ⟨.func, 1, 8, false, [.nilfn], none, false⟩) (.one 261 ⟨.other, 1, 0, false, [.any], none, false⟩)))))))
theorem tab_ok : tab.all (tiOK Tryz.prog) = true := by kernel_rfl
abbrev FO (g : Nat) (ps : List SV) (rv : RV) (f : arrL ps (Option rv.den)) : Prop := FnOK Tryz.prog SW g ps rv (appL ps f)
theorem mx {X : Type} {fns : List (Nat × Func)} {C : List (Nat × (List AV → Option Entry))} {loops : List (Nat × Nat × List (LoopI X))} {rfs : List (Nat × Nat × Func × List Nat × Nat)}
    {conf : List (Nat × Nat × List (Nat × Nat))} {unroll : List (Nat × Nat × Nat)} {cuts : List (Nat × Nat × List (CutI X))} {rows : List (Nat × Ty)} {pr : List (Nat × Pr)} {bt : Option (Nat × Nat)} {keep : List Nat} (hf : AllT (fun p => Tryz.prog.funcs[p.1]? = some p.2 ∧ p.2.name ≠ "runtime.NumGoroutine") fns)
    (hC : AllT (fun p => OrcOK Tryz.prog SW p.1 p.2) C) (hc : AllT (fun p => okC (mkCx tab.get fns C loops rfs conf unroll cuts rows pr bt keep) p.1 p.2.ntmps (p.2.body.getD .skip)) fns) (hr : AllT (fun q => Tryz.prog.funcs[q.1]? = some q.2.2.1 ∧ lkp fns q.1 = some q.2.2.1) rfs)
    (hp : AllT (fun p => PrOK Tryz.prog SW p.1 p.2) pr := by exact trivial) : CxOK Tryz.prog SW (mkCx tab.get fns C loops rfs conf unroll cuts rows pr bt keep) := mkCx_ok mixed (tabOK tab_ok) hf hC hc hr hp
abbrev P172 : List SV := [.str, .str]
abbrev R172 : RV := .one V0
theorem ok172 (n : Nat) : FO 172 P172 R172 (O.index1 n) := index1_ok (enters Tryz.func172 (by kernel_rfl) (by decide)) Tryz.stringslite_Index_one n
noncomputable def o172 (n : Nat) := oc 172 P172 R172 (O.index1 n)
noncomputable def cx105 (X : Type) (n : Nat) : Cx X := mkCx tab.get [(105, Tryz.f105)] [o172 n] [] [] [] []
theorem cx105_ok (X : Type) (n : Nat) : CxOK Tryz.prog SW (cx105 X n) := mx (T1 (J Tryz.func105 (by decide))) (T1 (orcOf_ok (ok172 n))) (T1 (okc trivial trivial)) trivial
abbrev P105 : List SV := [.str, .str]
abbrev R105 : RV := .many [.str, .str, .bool]
theorem ok105 (n : Nat) : FO 105 P105 R105 (F.stringslite_Cut n) := fnOK_of WOf.st (cx105_ok _ n) (d := 8) fun _ => by kernel_rfl
noncomputable def o105 (n : Nat) := oc 105 P105 R105 (F.stringslite_Cut n)
noncomputable def cx60 (X : Type) (n : Nat) : Cx X := mkCx tab.get [(60, Tryz.f60)] [o105 n] [] [] [] []
theorem cx60_ok (X : Type) (n : Nat) : CxOK Tryz.prog SW (cx60 X n) := mx (T1 (J Tryz.func60 (by decide))) (T1 (orcOf_ok (ok105 n))) (T1 (okc trivial trivial)) trivial
abbrev P60 : List SV := [.str, .str]
abbrev R60 : RV := .many [.str, .str, .bool]
theorem ok60 (n : Nat) : FO 60 P60 R60 (F.strings_Cut n) := fnOK_of WOf.st (cx60_ok _ n) (d := 8) fun _ => by kernel_rfl
noncomputable def o60 (n : Nat) := oc 60 P60 R60 (F.strings_Cut n)
noncomputable def cx173 (X : Type) (n : Nat) : Cx X := mkCx tab.get [(173, Tryz.f173)] [] [] [] [] []
theorem cx173_ok (X : Type) (n : Nat) : CxOK Tryz.prog SW (cx173 X n) := mx (T1 (J Tryz.func173 (by decide))) trivial (T1 (okc trivial trivial)) trivial
abbrev P173 : List SV := [V0]
abbrev R173 : RV := .one .bool
theorem ok173 (n : Nat) : FO 173 P173 R173 (F.class_may n) := fnOK_of WOf.st (cx173_ok _ n) (d := 8) fun _ => by kernel_rfl
noncomputable def o173 (n : Nat) := oc 173 P173 R173 (F.class_may n)
noncomputable def cx248 (X : Type) (n : Nat) : Cx X := mkCx tab.get [(248, Tryz.f248)] [] [] [] [] []
theorem cx248_ok (X : Type) (n : Nat) : CxOK Tryz.prog SW (cx248 X n) := mx (T1 (J Tryz.func248 (by decide))) trivial (T1 (okc trivial trivial)) trivial
abbrev P248 : List SV := [V1, V1, V1]
abbrev R248 : RV := .one .bool
theorem ok248 (n : Nat) : FO 248 P248 R248 (F.class_between n) := fnOK_of WOf.st (cx248_ok _ n) (d := 8) fun _ => by kernel_rfl
noncomputable def o248 (n : Nat) := oc 248 P248 R248 (F.class_between n)
noncomputable def cx174 (X : Type) (n : Nat) : Cx X := mkCx tab.get [(174, Tryz.f174)] [o248 n] [] [] [] []
theorem cx174_ok (X : Type) (n : Nat) : CxOK Tryz.prog SW (cx174 X n) := mx (T1 (J Tryz.func174 (by decide))) (T1 (orcOf_ok (ok248 n))) (T1 (okc trivial trivial)) trivial
abbrev P174 : List SV := [V0, V1]
abbrev R174 : RV := .one .bool
theorem ok174 (n : Nat) : FO 174 P174 R174 (F.class_Is n) := fnOK_of WOf.st (cx174_ok _ n) (d := 8) fun _ => by kernel_rfl
noncomputable def o174 (n : Nat) := oc 174 P174 R174 (F.class_Is n)
def qh1 : Shape := ⟨[(0, V0), (1, .str), (11, V0), (12, V0)], [], [], [], [], 0, 0, 0⟩
def qe1_0 : Shape := ⟨[], [], [], [], [], 0, 0, 0⟩
def qe1_r : Shape := ⟨[(4, V0), (5, V0)], [], [], [], [], 0, 0, 0⟩
noncomputable def ql1 (X : Type) (n : Nat) : LoopI X := mkLi 8 0 0 0 qh1 [(0, qe1_0)] [qe1_r] n fun m ks => F.class_Bad.L4 n (fun _ => xe qe1_0 ks 0) (xr qe1_r ks) m
noncomputable def cx106 (X : Type) (n : Nat) : Cx X := mkCx tab.get [(106, Tryz.f106)] [o173 n, o174 n] [(106, 4, [ql1 X n])] [] [] []
theorem qo1 (X : Type) (n : Nat) : LO (cx106 X n) 106 Tryz.f106 0 (ql1 X n) := lok
theorem cx106_ok (X : Type) (n : Nat) : CxOK Tryz.prog SW (cx106 X n) := mx (T1 (J Tryz.func106 (by decide))) (J (orcOf_ok (ok173 n)) (T1 (orcOf_ok (ok174 n)))) (T1 (okc (T1 (T1 (qo1 X n))) trivial)) trivial
abbrev P106 : List SV := [V0, .str]
abbrev R106 : RV := .many [V0, V0]
theorem ok106 (n : Nat) : FO 106 P106 R106 (F.class_Bad n) := fnOK_of WOf.st (cx106_ok _ n) (d := 8) fun _ => by kernel_rfl
noncomputable def o106 (n : Nat) := oc 106 P106 R106 (F.class_Bad n)
noncomputable def cx61 (X : Type) (n : Nat) : Cx X := mkCx tab.get [(61, Tryz.f61)] [o106 n] [] [] [] []
theorem cx61_ok (X : Type) (n : Nat) : CxOK Tryz.prog SW (cx61 X n) := mx (T1 (J Tryz.func61 (by decide))) (T1 (orcOf_ok (ok106 n))) (T1 (okc trivial trivial)) trivial
abbrev P61 : List SV := [V0, .str, V0, V0]
abbrev R61 : RV := .one V2
theorem ok61 (n : Nat) : FO 61 P61 R61 (F.class_Text n) := fnOK_of WOf.st (cx61_ok _ n) (d := 8) fun _ => by kernel_rfl
noncomputable def o61 (n : Nat) := oc 61 P61 R61 (F.class_Text n)
noncomputable def cx62 (X : Type) (n : Nat) : Cx X := mkCx tab.get [(62, Tryz.f62)] [] [] [] [] []
theorem cx62_ok (X : Type) (n : Nat) : CxOK Tryz.prog SW (cx62 X n) := mx (T1 (J Tryz.func62 (by decide))) trivial (T1 (okc trivial trivial)) trivial
abbrev P62 : List SV := [V0, V0]
abbrev R62 : RV := .many [V5, V2]
theorem ok62 (n : Nat) : FO 62 P62 R62 (F.statsd_fault n) := fnOK_of WOf.st (cx62_ok _ n) (d := 8) fun _ => by kernel_rfl
noncomputable def o62 (n : Nat) := oc 62 P62 R62 (F.statsd_fault n)
abbrev P104 : List SV := [.str, .str]
abbrev R104 : RV := .one .str
theorem ok104 (n : Nat) : FO 104 P104 R104 (O.trimR n) := trimR_ok (enters Tryz.func104 (by kernel_rfl) (by decide)) Tryz.strings_TrimRight_one n
noncomputable def o104 (n : Nat) := oc 104 P104 R104 (O.trimR n)
noncomputable def cx112 (X : Type) (n : Nat) : Cx X := mkCx tab.get [(112, Tryz.f112)] [] [] [] [] []
theorem cx112_ok (X : Type) (n : Nat) : CxOK Tryz.prog SW (cx112 X n) := mx (T1 (J Tryz.func112 (by decide))) trivial (T1 (okc trivial trivial)) trivial
abbrev P112 : List SV := [.str, .str]
abbrev R112 : RV := .one .bool
theorem ok112 (n : Nat) : FO 112 P112 R112 (F.stringslite_HasPrefix n) := fnOK_of WOf.st (cx112_ok _ n) (d := 8) fun _ => by kernel_rfl
noncomputable def o112 (n : Nat) := oc 112 P112 R112 (F.stringslite_HasPrefix n)
noncomputable def cx65 (X : Type) (n : Nat) : Cx X := mkCx tab.get [(65, Tryz.f65)] [o112 n] [] [] [] []
theorem cx65_ok (X : Type) (n : Nat) : CxOK Tryz.prog SW (cx65 X n) := mx (T1 (J Tryz.func65 (by decide))) (T1 (orcOf_ok (ok112 n))) (T1 (okc trivial trivial)) trivial
abbrev P65 : List SV := [.str, .str]
abbrev R65 : RV := .one .bool
theorem ok65 (n : Nat) : FO 65 P65 R65 (F.strings_HasPrefix n) := fnOK_of WOf.st (cx65_ok _ n) (d := 8) fun _ => by kernel_rfl
noncomputable def o65 (n : Nat) := oc 65 P65 R65 (F.strings_HasPrefix n)
def qh2 : Shape := ⟨[(0, (.const (.ref 2 0))), (1, (.const (.ref 0 0))), (3, V0)], [[.str], [V0, V0], [V0]], [], [], [], 3, 0, 0⟩
def qe2_0 : Shape := ⟨[(0, (.const (.ref 2 0))), (3, V0)], [[.str], [V0, V0], [V0]], [], [], [], 3, 0, 0⟩
noncomputable def ql2 (X : Type) (n : Nat) : LoopI X := mkLi 7 3 0 0 qh2 [(0, qe2_0)] [] n fun m ks => F.dec_look.L2_dec_look_1 n (xe qe2_0 ks 0) m
noncomputable def cx107 (X : Type) (n : Nat) : Cx X := mkCx tab.get [(107, Tryz.f107), (175, Tryz.f175)] [o65 n] [(175, 2, [ql2 X n])] [] [] []
theorem qo2 (X : Type) (n : Nat) : LO (cx107 X n) 175 Tryz.f175 0 (ql2 X n) := lok
theorem cx107_ok (X : Type) (n : Nat) : CxOK Tryz.prog SW (cx107 X n) := mx (J (J Tryz.func107 (by decide)) (T1 (J Tryz.func175 (by decide)))) (T1 (orcOf_ok (ok65 n))) (J (okc trivial trivial) (T1 (okc (T1 (T1 (qo2 X n))) trivial))) trivial
abbrev P107 : List SV := [.str]
abbrev R107 : RV := .one V2
theorem ok107 (n : Nat) : FO 107 P107 R107 (F.dec_look n) := fnOK_of WOf.st (cx107_ok _ n) (d := 8) fun _ => by kernel_rfl
noncomputable def o107 (n : Nat) := oc 107 P107 R107 (F.dec_look n)
noncomputable def cx176 (X : Type) (n : Nat) : Cx X := mkCx tab.get [(176, Tryz.f176)] [o112 n] [] [] [] []
theorem cx176_ok (X : Type) (n : Nat) : CxOK Tryz.prog SW (cx176 X n) := mx (T1 (J Tryz.func176 (by decide))) (T1 (orcOf_ok (ok112 n))) (T1 (okc trivial trivial)) trivial
abbrev P176 : List SV := [.str, .str]
abbrev R176 : RV := .many [.str, .bool]
theorem ok176 (n : Nat) : FO 176 P176 R176 (F.stringslite_CutPrefix n) := fnOK_of WOf.st (cx176_ok _ n) (d := 8) fun _ => by kernel_rfl
noncomputable def o176 (n : Nat) := oc 176 P176 R176 (F.stringslite_CutPrefix n)
noncomputable def cx108 (X : Type) (n : Nat) : Cx X := mkCx tab.get [(108, Tryz.f108)] [o176 n] [] [] [] []
theorem cx108_ok (X : Type) (n : Nat) : CxOK Tryz.prog SW (cx108 X n) := mx (T1 (J Tryz.func108 (by decide))) (T1 (orcOf_ok (ok176 n))) (T1 (okc trivial trivial)) trivial
abbrev P108 : List SV := [.str, .str]
abbrev R108 : RV := .many [.str, .bool]
theorem ok108 (n : Nat) : FO 108 P108 R108 (F.strings_CutPrefix n) := fnOK_of WOf.st (cx108_ok _ n) (d := 8) fun _ => by kernel_rfl
noncomputable def o108 (n : Nat) := oc 108 P108 R108 (F.strings_CutPrefix n)
abbrev P109 : List SV := [.str, .str]
abbrev R109 : RV := .one .str
theorem ok109 (n : Nat) : FO 109 P109 R109 (O.trimL n) := trimL_ok (enters Tryz.func109 (by kernel_rfl) (by decide)) Tryz.strings_TrimLeft_one n
noncomputable def o109 (n : Nat) := oc 109 P109 R109 (O.trimL n)
abbrev P180 : List SV := [V6, V6]
abbrev R180 : RV := .many [V6, V6]
theorem ok180 (n : Nat) : FO 180 P180 R180 (O.mul64 n) := mul64_ok (enters Tryz.func180 (by kernel_rfl) (by decide)) Tryz.bits_Mul64 n
noncomputable def o180 (n : Nat) := oc 180 P180 R180 (O.mul64 n)
abbrev P181 : List SV := [V6, V6, V6]
abbrev R181 : RV := .many [V6, V6]
theorem ok181 (n : Nat) : FO 181 P181 R181 (O.add64 n) := add64_ok (fun x y c hx hy hc w => by rw [run_callFunc_extern Tryz.func181 (by kernel_rfl) (by kernel_rfl) (by kernel_rfl) (e := Go.add64Entry) (by kernel_rfl), Go.run_add64 x y c (by omega) (by omega) (by omega) (by omega)]; simp only [Result.andThen]; congr 5 <;> omega) n
noncomputable def o181 (n : Nat) := oc 181 P181 R181 (O.add64 n)
noncomputable def cx110 (X : Type) (n : Nat) : Cx X := mkCx tab.get [(110, Tryz.f110)] [o180 n, o181 n] [] [] [] []
theorem cx110_ok (X : Type) (n : Nat) : CxOK Tryz.prog SW (cx110 X n) := mx (T1 (J Tryz.func110 (by decide))) (J (orcOf_ok (ok180 n)) (T1 (orcOf_ok (ok181 n)))) (T1 (okc trivial trivial)) trivial
abbrev P110 : List SV := [V6, V6]
abbrev R110 : RV := .many [V6, .bool]
theorem ok110 (n : Nat) : FO 110 P110 R110 (F.dec_times n) := fnOK_of WOf.st (cx110_ok _ n) (d := 8) fun _ => by kernel_rfl
noncomputable def o110 (n : Nat) := oc 110 P110 R110 (F.dec_times n)
def qh3 : Shape := ⟨[(1, (.const (.ref 0 0))), (2, (.const (.ref 1 0)))], [[.bool, V6, V0], [.bool, V6, V0]], [], [], [], 2, 0, 0⟩
def qe3_0 : Shape := ⟨[(1, (.const (.ref 0 0))), (2, (.const (.ref 1 0)))], [[.bool, V6, V0], [.bool, V6, V0]], [], [], [], 2, 0, 0⟩
noncomputable def ql3 (X : Type) (n : Nat) : LoopI X := mkLi 8 0 0 0 qh3 [(0, qe3_0)] [] n fun m ks => F.dec_Normal.L3 n (xe qe3_0 ks 0) m
def qh4 : Shape := ⟨[(1, (.const (.ref 0 0))), (2, (.const (.ref 1 0)))], [[.bool, V6, V0], [.bool, V6, V0]], [], [], [], 2, 0, 0⟩
def qe4_2 : Shape := ⟨[(1, (.const (.ref 0 0))), (2, (.const (.ref 1 0)))], [[.bool, V6, V0], [.bool, V6, V0]], [], [], [], 2, 0, 0⟩
def qe4_r : Shape := ⟨[(2, (.const (.ref 1 0))), (3, V0)], [[.bool, V6, V0], [.bool, V6, V0]], [], [], [], 2, 0, 0⟩
noncomputable def ql4 (X : Type) (n : Nat) : LoopI X := mkLi 8 0 0 0 qh4 [(2, qe4_2)] [qe4_r] n fun m ks => F.dec_Normal.L5 n (xe qe4_2 ks 2) (xr qe4_r ks) m
noncomputable def cx111 (X : Type) (n : Nat) : Cx X := mkCx tab.get [(111, Tryz.f111)] [o110 n] [(111, 3, [ql3 X n]), (111, 5, [ql4 X n])] [] [] []
theorem qo3 (X : Type) (n : Nat) : LO (cx111 X n) 111 Tryz.f111 0 (ql3 X n) := lok
theorem qo4 (X : Type) (n : Nat) : LO (cx111 X n) 111 Tryz.f111 1 (ql4 X n) := lok
theorem cx111_ok (X : Type) (n : Nat) : CxOK Tryz.prog SW (cx111 X n) := mx (T1 (J Tryz.func111 (by decide))) (T1 (orcOf_ok (ok110 n))) (T1 (okc (J (T1 (qo3 X n)) (T1 (T1 (qo4 X n)))) trivial)) trivial
abbrev P111 : List SV := [V7]
abbrev R111 : RV := .many [V7, V0]
theorem ok111 (n : Nat) : FO 111 P111 R111 (F.dec_Normal n) := fnOK_of WOf.st (cx111_ok _ n) (d := 8) fun _ => by kernel_rfl
noncomputable def o111 (n : Nat) := oc 111 P111 R111 (F.dec_Normal n)
def qh5 : Shape := ⟨[(2, (.const (.ref 0 0))), (3, (.const (.ref 1 0))), (10, .str), (11, (.const (.ref 3 0))), (66, V0), (67, V0)], [[.bool, V6, V0], [V0, V0], [V0, V0], [.bool, V6, V0]], [], [], [], 4, 0, 0⟩
def qe5_0 : Shape := ⟨[(2, (.const (.ref 0 0))), (3, (.const (.ref 1 0))), (11, (.const (.ref 3 0)))], [[.bool, V6, V0], [V0, V0], [V0, V0], [.bool, V6, V0]], [], [], [], 4, 0, 0⟩
noncomputable def ql5 (X : Type) (n : Nat) : LoopI X := mkLi 8 0 0 0 qh5 [(0, qe5_0)] [] n fun m ks => F.dec_Parse.L14 n (xe qe5_0 ks 0) m
noncomputable def cx63 (X : Type) (n : Nat) : Cx X := mkCx tab.get [(63, Tryz.f63)] [o60 n, o104 n, o107 n, o108 n, o109 n, o110 n, o111 n] [(63, 14, [ql5 X n])] [] [(63, 3, [(1, 2)])] []
theorem qo5 (X : Type) (n : Nat) : LO (cx63 X n) 63 Tryz.f63 0 (ql5 X n) := lok
theorem cx63_ok (X : Type) (n : Nat) : CxOK Tryz.prog SW (cx63 X n) := mx (T1 (J Tryz.func63 (by decide))) (J (orcOf_ok (ok60 n)) (J (orcOf_ok (ok104 n)) (J (orcOf_ok (ok107 n)) (J (orcOf_ok (ok108 n)) (J (orcOf_ok (ok109 n)) (J (orcOf_ok (ok110 n)) (T1 (orcOf_ok (ok111 n))))))))) (T1 (okc (T1 (T1 (qo5 X n))) trivial)) trivial
abbrev P63 : List SV := [.str]
abbrev R63 : RV := .many [V7, V2]
theorem ok63 (n : Nat) : FO 63 P63 R63 (F.dec_Parse n) := fnOK_of WOf.st (cx63_ok _ n) (d := 8) fun _ => by kernel_rfl
noncomputable def o63 (n : Nat) := oc 63 P63 R63 (F.dec_Parse n)
abbrev P56 : List SV := [V0]
abbrev R56 : RV := .many [.str, V0]
theorem ok56 (n : Nat) : FO 56 P56 R56 (O.word n) := word_ok (enters Tryz.func56 (by kernel_rfl) (by decide)) Tryz.statsd_Word n
noncomputable def o56 (n : Nat) := oc 56 P56 R56 (O.word n)
def qh6 : Shape := ⟨[(0, .str), (4, V0)], [], [], [], [], 0, 0, 0⟩
def qe6_0 : Shape := ⟨[], [], [], [], [], 0, 0, 0⟩
def qe6_r : Shape := ⟨[(2, V0), (3, V0)], [], [], [], [], 0, 0, 0⟩
noncomputable def ql6 (X : Type) (n : Nat) : LoopI X := mkLi 8 0 0 0 qh6 [(0, qe6_0)] [qe6_r] n fun m ks => F.statsd_Kind.L2 n (fun _ => xe qe6_0 ks 0) (xr qe6_r ks) m
noncomputable def cx64 (X : Type) (n : Nat) : Cx X := mkCx tab.get [(64, Tryz.f64)] [o56 n] [(64, 2, [ql6 X n])] [] [] []
theorem qo6 (X : Type) (n : Nat) : LO (cx64 X n) 64 Tryz.f64 0 (ql6 X n) := lok
theorem cx64_ok (X : Type) (n : Nat) : CxOK Tryz.prog SW (cx64 X n) := mx (T1 (J Tryz.func64 (by decide))) (T1 (orcOf_ok (ok56 n))) (T1 (okc (T1 (T1 (qo6 X n))) trivial)) trivial
abbrev P64 : List SV := [.str]
abbrev R64 : RV := .many [V0, V0]
theorem ok64 (n : Nat) : FO 64 P64 R64 (F.statsd_Kind n) := fnOK_of WOf.st (cx64_ok _ n) (d := 8) fun _ => by kernel_rfl
noncomputable def o64 (n : Nat) := oc 64 P64 R64 (F.statsd_Kind n)
noncomputable def cx113 (X : Type) (n : Nat) : Cx X := mkCx tab.get [(113, Tryz.f113)] [] [] [] [] []
theorem cx113_ok (X : Type) (n : Nat) : CxOK Tryz.prog SW (cx113 X n) := mx (T1 (J Tryz.func113 (by decide))) trivial (T1 (okc trivial trivial)) trivial
abbrev P113 : List SV := [V0, V0]
abbrev R113 : RV := .many [V0, V2]
theorem ok113 (n : Nat) : FO 113 P113 R113 (F.num_fault n) := fnOK_of WOf.st (cx113_ok _ n) (d := 8) fun _ => by kernel_rfl
noncomputable def o113 (n : Nat) := oc 113 P113 R113 (F.num_fault n)
def qh7 : Shape := ⟨[(0, .str), (3, (.const (.ref 0 0))), (4, (.const (.ref 1 0))), (16, V8), (17, V0)], [[V0, V0], [V0, V0]], [], [], [], 2, 0, 0⟩
def qe7_0 : Shape := ⟨[(0, .str), (3, (.const (.ref 0 0))), (4, (.const (.ref 1 0)))], [[V0, V0], [V0, V0]], [], [], [], 2, 0, 0⟩
noncomputable def ql7 (X : Type) (n : Nat) : LoopI X := mkLi 8 0 0 0 qh7 [(0, qe7_0)] [] n fun m ks => F.num_Rate.L5 n (xe qe7_0 ks 0) m
def qh8 : Shape := ⟨[(3, (.const (.ref 0 0))), (7, .str), (9, (.const (.ref 3 0))), (10, (.const (.fn 114 [] [(.ref 3 0)]))), (81, V0)], [[V0, V0], [V0, V0], [V0, V0], [V0]], [], [], [], 4, 0, 0⟩
def qe8_3 : Shape := ⟨[(3, (.const (.ref 0 0))), (9, (.const (.ref 3 0)))], [[V0, V0], [V0, V0], [V0, V0], [V0]], [], [], [], 4, 0, 0⟩
noncomputable def ql8 (X : Type) (n : Nat) : LoopI X := mkLi 8 0 0 0 qh8 [(3, qe8_3)] [] n fun m ks => F.num_Rate.L23 n (xe qe8_3 ks 3) m
noncomputable def cx66 (X : Type) (n : Nat) : Cx X := mkCx tab.get [(66, Tryz.f66), (114, Tryz.f114)] [o61 n, o113 n] [(66, 5, [ql7 X n]), (66, 23, [ql8 X n])] [] [] []
theorem qo7 (X : Type) (n : Nat) : LO (cx66 X n) 66 Tryz.f66 0 (ql7 X n) := lok
theorem qo8 (X : Type) (n : Nat) : LO (cx66 X n) 66 Tryz.f66 1 (ql8 X n) := lok
theorem cx66_ok (X : Type) (n : Nat) : CxOK Tryz.prog SW (cx66 X n) := mx (J (J Tryz.func66 (by decide)) (T1 (J Tryz.func114 (by decide)))) (J (orcOf_ok (ok61 n)) (T1 (orcOf_ok (ok113 n)))) (J (okc (J (T1 (qo7 X n)) (T1 (T1 (qo8 X n)))) trivial) (T1 (okc trivial trivial))) trivial
abbrev P66 : List SV := [.str]
abbrev R66 : RV := .many [V0, V2]
theorem ok66 (n : Nat) : FO 66 P66 R66 (F.num_Rate n) := fnOK_of WOf.st (cx66_ok _ n) (d := 8) fun _ => by kernel_rfl
noncomputable def o66 (n : Nat) := oc 66 P66 R66 (F.num_Rate n)
def qh9 : Shape := ⟨[(2, (.const (.ref 1 0))), (3, (.const (.ref 2 0))), (4, (.const (.ref 3 0))), (6, (.const (.ref 4 0))), (9, .bool), (19, V0), (141, .bool)], [[.str], [.str, V0, (.sl Y3 (.own 0)), V0, (.sl Y4 (.own 1)), V0], [V0, V0], [V0], [.str, V0, (.sl Y3 (.own 2)), V0, (.sl Y4 (.own 3)), V0]], [true, true, true, true], [], [], 5, 0, 0⟩
def qe9_r : Shape := ⟨[(2, (.const (.ref 1 0))), (3, (.const (.ref 2 0)))], [[.str], [.str, V0, V3, V0, V4, V0], [V0, V0]], [], [], [], 3, 0, 0⟩
def qe9_n : Shape := ⟨[(2, (.const (.ref 1 0))), (3, (.const (.ref 2 0))), (4, (.const (.ref 3 0))), (6, (.const (.ref 4 0))), (9, .bool)], [[.str], [.str, V0, (.sl Y3 (.own 0)), V0, (.sl Y4 (.own 1)), V0], [V0, V0], [V0], [.str, V0, (.sl Y3 (.own 2)), V0, (.sl Y4 (.own 3)), V0]], [true, true, true, true], [], [], 5, 0, 0⟩
noncomputable def ql9 (X : Type) (n : Nat) : CutI X := mkCi 8 0 0 0 qh9 [qe9_n] [] [qe9_r] fun ks => F.statsd_Parse.C30 n (xr qe9_r ks) (xn qe9_n ks)
def qh10 : Shape := ⟨[(2, (.const (.ref 1 0))), (3, (.const (.ref 2 0))), (4, (.const (.ref 3 0))), (6, (.const (.ref 4 0))), (9, .bool)], [[.str], [.str, V0, (.sl Y3 (.own 0)), V0, (.sl Y4 (.own 1)), V0], [V0, V0], [V0], [.str, V0, (.sl Y3 (.own 2)), V0, (.sl Y4 (.own 3)), V0]], [true, true, true, true], [], [], 5, 0, 0⟩
def qe10_r : Shape := ⟨[(2, (.const (.ref 1 0))), (3, (.const (.ref 2 0)))], [[.str], [.str, V0, V3, V0, V4, V0], [V0, V0]], [], [], [], 3, 0, 0⟩
noncomputable def ql10 (X : Type) (n : Nat) : CutI X := mkCi 8 0 0 0 qh10 [] [] [qe10_r] fun ks => F.statsd_Parse.C31 n (xr qe10_r ks)
def qh11 : Shape := ⟨[(2, (.const (.ref 1 0))), (3, (.const (.ref 2 0))), (4, (.const (.ref 3 0))), (6, (.const (.ref 4 0))), (9, .bool), (13, (.const (.ref 6 0))), (16, V0), (18, .str), (19, V0)], [[.str], [.str, V0, (.sl Y3 (.own 0)), V0, (.sl Y4 (.own 1)), V0], [V0, V0], [V0], [.str, V0, (.sl Y3 (.own 2)), V0, (.sl Y4 (.own 3)), V0], [.bool, V6, V0], [V0, V0]], [true, true, true, true], [], [], 7, 0, 0⟩
def qe11_r : Shape := ⟨[(2, (.const (.ref 1 0))), (3, (.const (.ref 2 0)))], [[.str], [.str, V0, V3, V0, V4, V0], [V0, V0]], [], [], [], 3, 0, 0⟩
noncomputable def ql11 (X : Type) (n : Nat) : CutI X := mkCi 8 0 0 0 qh11 [] [] [qe11_r] fun ks => F.statsd_Parse.C28 n (xr qe11_r ks)
def qh12 : Shape := ⟨[(1, (.const (.ref 0 0))), (2, (.const (.ref 1 0))), (3, (.const (.ref 2 0))), (4, (.const (.ref 3 0))), (5, (.const (.fn 59 [] [(.ref 3 0), (.ref 0 0)]))), (6, (.const (.ref 4 0))), (7, .str), (9, .bool), (12, (.const (.ref 5 0))), (13, (.const (.ref 6 0))), (16, V0)], [[.str], [.str, V0, (.sl Y3 (.own 0)), V0, (.sl Y4 (.own 1)), V0], [V0, V0], [V0], [.str, V0, (.sl Y3 (.own 2)), V0, (.sl Y4 (.own 3)), V0], [.bool, V6, V0], [V0, V0]], [true, true, true, true], [], [], 7, 0, 0⟩
def qe12_r : Shape := ⟨[(2, (.const (.ref 1 0))), (3, (.const (.ref 2 0)))], [[.str], [.str, V0, V3, V0, V4, V0], [V0, V0]], [], [], [], 3, 0, 0⟩
noncomputable def ql12 (X : Type) (n : Nat) : CutI X := mkCi 8 0 0 0 qh12 [] [] [qe12_r] fun ks => F.statsd_Parse.C21 n (xr qe12_r ks)
def qh13 : Shape := ⟨[(1, (.const (.ref 0 0))), (2, (.const (.ref 1 0))), (3, (.const (.ref 2 0))), (4, (.const (.ref 3 0))), (5, (.const (.fn 59 [] [(.ref 3 0), (.ref 0 0)]))), (6, (.const (.ref 4 0))), (7, .str), (9, .bool), (10, .str), (11, V0), (12, (.const (.ref 5 0))), (13, (.const (.ref 6 0))), (14, .str), (15, V0)], [[.str], [.str, V0, (.sl Y3 (.own 0)), V0, (.sl Y4 (.own 1)), V0], [V0, V0], [V0], [.str, V0, (.sl Y3 (.own 2)), V0, (.sl Y4 (.own 3)), V0], [.bool, V6, V0], [V0, V0]], [true, true, true, true], [], [], 7, 0, 0⟩
def qe13_r : Shape := ⟨[(2, (.const (.ref 1 0))), (3, (.const (.ref 2 0)))], [[.str], [.str, V0, V3, V0, V4, V0], [V0, V0]], [], [], [], 3, 0, 0⟩
noncomputable def ql13 (X : Type) (n : Nat) : CutI X := mkCi 8 0 0 0 qh13 [] [] [qe13_r] fun ks => F.statsd_Parse.C16 n (xr qe13_r ks)
def qh14 : Shape := ⟨[(1, (.const (.ref 0 0))), (2, (.const (.ref 1 0))), (3, (.const (.ref 2 0))), (4, (.const (.ref 3 0))), (5, (.const (.fn 59 [] [(.ref 3 0), (.ref 0 0)]))), (6, (.const (.ref 4 0))), (7, .str), (9, .bool), (10, .str), (11, V0)], [[.str], [.str, V0, (.sl Y3 (.own 0)), V0, (.sl Y4 (.own 1)), V0], [V0, V0], [V0], [.str, V0, (.sl Y3 (.own 2)), V0, (.sl Y4 (.own 3)), V0]], [true, true, true, true], [], [], 5, 0, 0⟩
def qe14_r : Shape := ⟨[(2, (.const (.ref 1 0))), (3, (.const (.ref 2 0)))], [[.str], [.str, V0, V3, V0, V4, V0], [V0, V0]], [], [], [], 3, 0, 0⟩
noncomputable def ql14 (X : Type) (n : Nat) : CutI X := mkCi 8 0 0 0 qh14 [] [] [qe14_r] fun ks => F.statsd_Parse.C10 n (xr qe14_r ks)
def qh15 : Shape := ⟨[(1, (.const (.ref 0 0))), (2, (.const (.ref 1 0))), (3, (.const (.ref 2 0))), (4, (.const (.ref 3 0))), (5, (.const (.fn 59 [] [(.ref 3 0), (.ref 0 0)]))), (6, (.const (.ref 4 0))), (7, .str), (9, .bool)], [[.str], [.str, V0, (.sl Y3 (.own 0)), V0, (.sl Y4 (.own 1)), V0], [V0, V0], [V0], [.str, V0, (.sl Y3 (.own 2)), V0, (.sl Y4 (.own 3)), V0]], [true, true, true, true], [], [], 5, 0, 0⟩
def qe15_r : Shape := ⟨[(2, (.const (.ref 1 0))), (3, (.const (.ref 2 0)))], [[.str], [.str, V0, V3, V0, V4, V0], [V0, V0]], [], [], [], 3, 0, 0⟩
noncomputable def ql15 (X : Type) (n : Nat) : CutI X := mkCi 8 0 0 0 qh15 [] [] [qe15_r] fun ks => F.statsd_Parse.C5 n (xr qe15_r ks)
noncomputable def cx38 (X : Type) (n : Nat) : Cx X := mkCx tab.get [(38, Tryz.f38), (59, Tryz.f59)] [o60 n, o61 n, o62 n, o63 n, o64 n, o65 n, o66 n] [] [] [(38, 21, [(2, 5), (2, 7)])] [] [(38, 5, [ql15 X n]), (38, 10, [ql14 X n]), (38, 16, [ql13 X n]), (38, 21, [ql12 X n]), (38, 28, [ql11 X n]), (38, 30, [ql9 X n]), (38, 31, [ql10 X n])]
theorem qo9 (X : Type) (n : Nat) : CO (cx38 X n) 38 Tryz.f38 37 (ql9 X n) := fun _ _ => by kernel_rfl
theorem qo10 (X : Type) (n : Nat) : CO (cx38 X n) 38 Tryz.f38 36 (ql10 X n) := fun _ _ => by kernel_rfl
theorem qo11 (X : Type) (n : Nat) : CO (cx38 X n) 38 Tryz.f38 34 (ql11 X n) := fun _ _ => by kernel_rfl
theorem qo12 (X : Type) (n : Nat) : CO (cx38 X n) 38 Tryz.f38 21 (ql12 X n) := fun _ _ => by kernel_rfl
theorem qo13 (X : Type) (n : Nat) : CO (cx38 X n) 38 Tryz.f38 19 (ql13 X n) := fun _ _ => by kernel_rfl
theorem qo14 (X : Type) (n : Nat) : CO (cx38 X n) 38 Tryz.f38 11 (ql14 X n) := fun _ _ => by kernel_rfl
theorem qo15 (X : Type) (n : Nat) : CO (cx38 X n) 38 Tryz.f38 4 (ql15 X n) := fun _ _ => by kernel_rfl
theorem cx38_ok (X : Type) (n : Nat) : CxOK Tryz.prog SW (cx38 X n) := mx (J (J Tryz.func38 (by decide)) (T1 (J Tryz.func59 (by decide)))) (J (orcOf_ok (ok60 n)) (J (orcOf_ok (ok61 n)) (J (orcOf_ok (ok62 n)) (J (orcOf_ok (ok63 n)) (J (orcOf_ok (ok64 n)) (J (orcOf_ok (ok65 n)) (T1 (orcOf_ok (ok66 n))))))))) (J (okk (J trivial (J trivial (J trivial (J trivial (J (T1 (qo15 X n)) (J trivial (J trivial (J trivial (J trivial (J trivial (J trivial (J (T1 (qo14 X n)) (J trivial (J trivial (J trivial (J trivial (J trivial (J trivial (J trivial (J (T1 (qo13 X n)) (J trivial (J (T1 (qo12 X n)) (J trivial (J trivial (J trivial (J trivial (J trivial (J trivial (J trivial (J trivial (J trivial (J trivial (J trivial (J trivial (J (T1 (qo11 X n)) (J trivial (J (T1 (qo10 X n)) (J (T1 (qo9 X n)) (J trivial (J trivial (J trivial (J trivial (T1 trivial))))))))))))))))))))))))))))))))))))))))))) trivial trivial) (T1 (okc trivial trivial))) trivial
abbrev P38 : List SV := [.str]
abbrev R38 : RV := .many [V5, V2]
theorem ok38 (n : Nat) : FO 38 P38 R38 (F.statsd_Parse n) := fnOK_of WOf.st (cx38_ok _ n) (d := 8) fun _ => by kernel_rfl
noncomputable def o38 (n : Nat) := oc 38 P38 R38 (F.statsd_Parse n)
abbrev P74 : List SV := [.str, .str]
abbrev R74 : RV := .one V9
theorem ok74 (n : Nat) : FO 74 P74 R74 (O.split1 n) := split1_ok (enters Tryz.func74 (by kernel_rfl) (by decide)) Tryz.strings_Split_one n
noncomputable def o74 (n : Nat) := oc 74 P74 R74 (O.split1 n)
noncomputable def cx187 (X : Type) (n : Nat) : Cx X := mkCx tab.get [(187, Tryz.f187)] [] [] [] [] []
theorem cx187_ok (X : Type) (n : Nat) : CxOK Tryz.prog SW (cx187 X n) := mx (T1 (J Tryz.func187 (by decide))) trivial (T1 (okc trivial trivial)) trivial
abbrev P187 : List SV := [V4]
abbrev R187 : RV := .one V4
theorem ok187 (n : Nat) : FO 187 P187 R187 (F.slices_Clip_api_Tag_api_Tag n) := fnOK_of WOf.st (cx187_ok _ n) (d := 8) fun _ => by kernel_rfl
noncomputable def o187 (n : Nat) := oc 187 P187 R187 (F.slices_Clip_api_Tag_api_Tag n)
def qh16 : Shape := ⟨[(3, (.ms 2 Y4)), (4, V0), (11, (.ms 2 Y4)), (12, V0), (13, V0)], [[(.row Y4)], [(.row Y4)], [(.row Y4)]], [], [], [], 3, 0, 0⟩
def qe16_0 : Shape := ⟨[(3, (.ms 2 Y4)), (4, V0)], [[(.row Y4)], [(.row Y4)], [(.row Y4)]], [], [], [], 3, 0, 0⟩
noncomputable def ql16 (X : Type) (n : Nat) : LoopI X := mkLi 8 0 0 0 qh16 [(0, qe16_0)] [] n fun m ks => F.tag_Normal.L5 n (xe qe16_0 ks 0) m
noncomputable def cx116 (X : Type) (n : Nat) : Cx X := mkCx tab.get [(116, Tryz.f116), (182, Tryz.f182)] [o187 n] [(116, 5, [ql16 X n])] [] [] [] [] [(35, Y4)] [(183, .sort Y4 184 sortTags)] none [182]
theorem qo16 (X : Type) (n : Nat) : LO (cx116 X n) 116 Tryz.f116 0 (ql16 X n) := lok
theorem cx116_ok (X : Type) (n : Nat) : CxOK Tryz.prog SW (cx116 X n) := mx (J (J Tryz.func116 (by decide)) (T1 (J Tryz.func182 (by decide)))) (T1 (orcOf_ok (ok187 n))) (J (okc (T1 (T1 (qo16 X n))) trivial) (T1 (okc trivial trivial))) trivial (T1 (sortTags_ok.mono (fun _ _ => trivial)))
abbrev P116 : List SV := [V4]
abbrev R116 : RV := .one V4
theorem ok116 (n : Nat) : FO 116 P116 R116 (F.tag_Normal n) := fnOK_of WOf.st (cx116_ok _ n) (d := 8) fun _ => by kernel_rfl
noncomputable def o116 (n : Nat) := oc 116 P116 R116 (F.tag_Normal n)
noncomputable def cx118 (X : Type) (n : Nat) : Cx X := mkCx tab.get [(118, Tryz.f118)] [] [] [] [] []
theorem cx118_ok (X : Type) (n : Nat) : CxOK Tryz.prog SW (cx118 X n) := mx (T1 (J Tryz.func118 (by decide))) trivial (T1 (okc trivial trivial)) trivial
abbrev P118 : List SV := []
abbrev R118 : RV := .one V10
theorem ok118 (n : Nat) : FO 118 P118 R118 (F.dog_words n) := fnOK_of WOf.st (cx118_ok _ n) (d := 8) fun _ => by kernel_rfl
noncomputable def o118 (n : Nat) := oc 118 P118 R118 (F.dog_words n)
def qh17 : Shape := ⟨[(0, .str), (6, V10), (7, V0)], [], [], [], [], 0, 0, 0⟩
def qe17_0 : Shape := ⟨[], [], [], [], [], 0, 0, 0⟩
def qe17_r : Shape := ⟨[(2, V0), (3, V0)], [], [], [], [], 0, 0, 0⟩
noncomputable def ql17 (X : Type) (n : Nat) : LoopI X := mkLi 8 0 0 0 qh17 [(0, qe17_0)] [qe17_r] n fun m ks => F.dog_Kind.L2 n (fun _ => xe qe17_0 ks 0) (xr qe17_r ks) m
noncomputable def cx123 (X : Type) (n : Nat) : Cx X := mkCx tab.get [(123, Tryz.f123)] [o118 n] [(123, 2, [ql17 X n])] [] [] []
theorem qo17 (X : Type) (n : Nat) : LO (cx123 X n) 123 Tryz.f123 0 (ql17 X n) := lok
theorem cx123_ok (X : Type) (n : Nat) : CxOK Tryz.prog SW (cx123 X n) := mx (T1 (J Tryz.func123 (by decide))) (T1 (orcOf_ok (ok118 n))) (T1 (okc (T1 (T1 (qo17 X n))) trivial)) trivial
abbrev P123 : List SV := [.str]
abbrev R123 : RV := .many [V0, V0]
theorem ok123 (n : Nat) : FO 123 P123 R123 (F.dog_Kind n) := fnOK_of WOf.st (cx123_ok _ n) (d := 8) fun _ => by kernel_rfl
noncomputable def o123 (n : Nat) := oc 123 P123 R123 (F.dog_Kind n)
abbrev P255 : List SV := [.str]
abbrev R255 : RV := .many [V0, .err]
theorem ok255 (n : Nat) : FO 255 P255 R255 (O.atoi n) := atoi_ok (enters Tryz.func255 (by kernel_rfl) (by decide)) (fun s hs v hv w hw => (Tryz.strconv_Atoi_ok s (by omega) v hv w).mono fun e w' ⟨a, b⟩ => ⟨a, by rcases b with rfl | ⟨t, rfl⟩; exact Below.refl _ _; exact below_bytes⟩)
  (fun s hs n1 n2 w hw => by obtain ⟨ev, hv, hev⟩ := swErrS hw; exact (Any.strconv_Atoi_syntax Tryz.laysC172 s (by omega) (by cases hq : Lib.atoiAll s.data.toList with | ok v => exact absurd hq (n1 v) | range => exact absurd hq n2 | _ => rfl) ev w hv hev).mono fun e w' ⟨N, a, _, _, b⟩ => ⟨⟨_, _, a⟩, b⟩)
  (fun s hs hq w hw => by obtain ⟨ev, hv, hev⟩ := swErrR hw; exact (Any.strconv_Atoi_range Tryz.laysC172 s (by omega) hq ev w hv hev).mono fun e w' ⟨N, a, _, _, b⟩ => ⟨⟨_, _, a⟩, b⟩) n
noncomputable def o255 (n : Nat) := oc 255 P255 R255 (O.atoi n)
noncomputable def cx193 (X : Type) (n : Nat) : Cx X := mkCx tab.get [(193, Tryz.f193)] [o61 n, o113 n, o255 n] [] [] [] []
theorem cx193_ok (X : Type) (n : Nat) : CxOK Tryz.prog SW (cx193 X n) := mx (T1 (J Tryz.func193 (by decide))) (J (orcOf_ok (ok61 n)) (J (orcOf_ok (ok113 n)) (T1 (orcOf_ok (ok255 n))))) (T1 (okc trivial trivial)) trivial
abbrev P193 : List SV := [.str, V0, V0]
abbrev R193 : RV := .many [V0, V2]
theorem ok193 (n : Nat) : FO 193 P193 R193 (F.num_Parse n) := fnOK_of WOf.st (cx193_ok _ n) (d := 8) fun _ => by kernel_rfl
noncomputable def o193 (n : Nat) := oc 193 P193 R193 (F.num_Parse n)
noncomputable def cx128 (X : Type) (n : Nat) : Cx X := mkCx tab.get [(128, Tryz.f128)] [o193 n] [] [] [] []
theorem cx128_ok (X : Type) (n : Nat) : CxOK Tryz.prog SW (cx128 X n) := mx (T1 (J Tryz.func128 (by decide))) (T1 (orcOf_ok (ok193 n))) (T1 (okc trivial trivial)) trivial
abbrev P128 : List SV := [.str]
abbrev R128 : RV := .many [V0, V2]
theorem ok128 (n : Nat) : FO 128 P128 R128 (F.num_Time n) := fnOK_of WOf.st (cx128_ok _ n) (d := 8) fun _ => by kernel_rfl
noncomputable def o128 (n : Nat) := oc 128 P128 R128 (F.num_Time n)
noncomputable def cx119 (X : Type) (n : Nat) : Cx X := mkCx tab.get [(119, Tryz.f119)] [o61 n] [] [] [] []
theorem cx119_ok (X : Type) (n : Nat) : CxOK Tryz.prog SW (cx119 X n) := mx (T1 (J Tryz.func119 (by decide))) (T1 (orcOf_ok (ok61 n))) (T1 (okc trivial trivial)) trivial
abbrev P119 : List SV := [V11]
abbrev R119 : RV := .one V0
theorem ok119 (n : Nat) : FO 119 P119 R119 (F.tag_Check n) := fnOK_of WOf.st (cx119_ok _ n) (d := 8) fun _ => by kernel_rfl
noncomputable def o119 (n : Nat) := oc 119 P119 R119 (F.tag_Check n)
def qh18 : Shape := ⟨[(3, (.const (.ref 0 0))), (4, (.sl Y4 (.own 0))), (5, V0), (13, V9), (14, V0), (15, V0)], [[V0, V0]], [true], [], [], 1, 0, 0⟩
def qe18_0 : Shape := ⟨[(3, (.const (.ref 0 0))), (4, (.sl Y4 (.own 0)))], [[V0, V0]], [true], [], [], 1, 0, 0⟩
def qe18_r : Shape := ⟨[(2, (.sl Y4 (.own 0))), (3, (.const (.ref 0 0)))], [[V0, V0]], [true], [], [], 1, 0, 0⟩
noncomputable def ql18 (X : Type) (n : Nat) : LoopI X := mkLi 8 0 0 0 qh18 [(0, qe18_0)] [qe18_r] n fun m ks => F.tag_Parse.L4 n (xe qe18_0 ks 0) (xr qe18_r ks) m
noncomputable def cx192 (X : Type) (n : Nat) : Cx X := mkCx tab.get [(192, Tryz.f192)] [o60 n, o74 n, o119 n] [(192, 4, [ql18 X n])] [] [] []
theorem qo18 (X : Type) (n : Nat) : LO (cx192 X n) 192 Tryz.f192 0 (ql18 X n) := lok
theorem cx192_ok (X : Type) (n : Nat) : CxOK Tryz.prog SW (cx192 X n) := mx (T1 (J Tryz.func192 (by decide))) (J (orcOf_ok (ok60 n)) (J (orcOf_ok (ok74 n)) (T1 (orcOf_ok (ok119 n))))) (T1 (okc (T1 (T1 (qo18 X n))) trivial)) trivial
abbrev P192 : List SV := [.str]
abbrev R192 : RV := .many [V4, V2]
theorem ok192 (n : Nat) : FO 192 P192 R192 (F.tag_Parse n) := fnOK_of WOf.st (cx192_ok _ n) (d := 8) fun _ => by kernel_rfl
noncomputable def o192 (n : Nat) := oc 192 P192 R192 (F.tag_Parse n)
def qh19 : Shape := ⟨[(0, (.const (.ref 2 0))), (4, (.const (.ref 4 0))), (8, V0), (42, V9), (43, V0), (44, V0)], [[.str, V0, (.sl Y3 (.own 0)), V0, (.sl Y4 (.own 1)), V0], [V0, V0], [.str, V0, (.sl Y3 (.own 2)), V0, V4, V0, V0, V0], [V0, V0], [V0, V0]], [true, true, true], [], [], 5, 3, 0⟩
def qe19_1 : Shape := ⟨[(4, (.const (.ref 4 0)))], [[.str, V0, (.sl Y3 (.own 0)), V0, (.sl Y4 (.own 1)), V0], [V0, V0], [.str, V0, (.sl Y3 (.own 2)), V0, V4, V0, V0, V0], [V0, V0], [V0, V0]], [true, true, true], [], [], 5, 3, 0⟩
def qe19_r : Shape := ⟨[(4, (.const (.ref 4 0)))], [[.str, V0, (.sl Y3 (.own 0)), V0, (.sl Y4 (.own 1)), V0], [V0, V0], [.str, V0, (.sl Y3 (.own 2)), V0, V4, V0, V0, V0], [V0, V0], [V0, V0]], [true, true, true], [], [], 5, 3, 0⟩
noncomputable def ql19 (X : Type) (n : Nat) : LoopI X := mkLi 7 4 3 0 qh19 [(1, qe19_1)] [qe19_r] n fun m ks => F.dog_Parse.L9_dog_reader_first n (xe qe19_1 ks 1) (xr qe19_r ks) m
def qh20 : Shape := ⟨[(0, (.const (.ref 2 0))), (1, .str), (4, (.const (.ref 4 0))), (19, V12), (20, V0)], [[.str, V0, (.sl Y3 (.own 0)), V0, (.sl Y4 (.own 1)), V0], [V0, V0], [.str, V0, (.sl Y3 (.own 2)), V0, V4, V0, V0, V0], [V0, V0], [V0, V0]], [true, true, true], [], [], 5, 3, 0⟩
def qe20_0 : Shape := ⟨[(0, (.const (.ref 2 0))), (4, (.const (.ref 4 0)))], [[.str, V0, (.sl Y3 (.own 0)), V0, (.sl Y4 (.own 1)), V0], [V0, V0], [.str, V0, (.sl Y3 (.own 2)), V0, V4, V0, V0, V0], [V0, V0], [V0, V0]], [true, true, true], [], [], 5, 3, 0⟩
def qe20_r : Shape := ⟨[(4, (.const (.ref 4 0)))], [[.str, V0, (.sl Y3 (.own 0)), V0, (.sl Y4 (.own 1)), V0], [V0, V0], [.str, V0, (.sl Y3 (.own 2)), V0, V4, V0, V0, V0], [V0, V0], [V0, V0]], [true, true, true], [], [], 5, 3, 0⟩
noncomputable def ql20 (X : Type) (n : Nat) : LoopI X := mkLi 7 4 3 0 qh20 [(0, qe20_0)] [qe20_r] n fun m ks => F.dog_Parse.L2_dog_reader_more n (xe qe20_0 ks 0) (xr qe20_r ks) m
def qh21 : Shape := ⟨[(0, .str), (2, (.const (.ref 0 0))), (3, (.const (.ref 1 0))), (4, (.const (.ref 2 0))), (5, V9), (6, (.const (.imms 2 [(.fn 75 [(.ref 2 0)] []), (.fn 76 [(.ref 2 0)] [])]))), (7, (.const (.ref 3 0))), (26, V9), (27, V0), (28, V0)], [[.str, V0, (.sl Y3 (.own 0)), V0, (.sl Y4 (.own 1)), V0], [V0, V0], [.str, V0, (.sl Y3 (.own 2)), V0, V4, V0, V0, V0], [V0, V0]], [true, true, true], [], [], 4, 0, 0⟩
def qe21_0 : Shape := ⟨[(0, .str), (2, (.const (.ref 0 0))), (3, (.const (.ref 1 0))), (4, (.const (.ref 2 0))), (5, V9), (6, (.const (.imms 2 [(.fn 75 [(.ref 2 0)] []), (.fn 76 [(.ref 2 0)] [])]))), (7, (.const (.ref 3 0)))], [[.str, V0, (.sl Y3 (.own 0)), V0, (.sl Y4 (.own 1)), V0], [V0, V0], [.str, V0, (.sl Y3 (.own 2)), V0, V4, V0, V0, V0], [V0, V0]], [true, true, true], [], [], 4, 0, 0⟩
noncomputable def ql21 (X : Type) (n : Nat) : LoopI X := mkLi 8 0 0 0 qh21 [(0, qe21_0)] [] n fun m ks => F.dog_Parse.L8 n (xe qe21_0 ks 0) m
noncomputable def cx40 (X : Type) (n : Nat) : Cx X := mkCx tab.get [(40, Tryz.f40), (75, Tryz.f75), (76, Tryz.f76), (77, Tryz.f77), (122, Tryz.f122), (124, Tryz.f124), (125, Tryz.f125), (126, Tryz.f126)] [o60 n, o61 n, o63 n, o66 n, o74 n, o108 n, o116 n, o123 n, o128 n, o192 n] [(40, 8, [ql21 X n]), (75, 9, [ql19 X n]), (77, 2, [ql20 X n])] [] [(40, 20, [(1, 2)]), (40, 21, [(4, 5)])] []
theorem qo19 (X : Type) (n : Nat) : LO (cx40 X n) 75 Tryz.f75 0 (ql19 X n) := lok
theorem qo20 (X : Type) (n : Nat) : LO (cx40 X n) 77 Tryz.f77 0 (ql20 X n) := lok
theorem qo21 (X : Type) (n : Nat) : LO (cx40 X n) 40 Tryz.f40 0 (ql21 X n) := lok
theorem cx40_ok (X : Type) (n : Nat) : CxOK Tryz.prog SW (cx40 X n) := mx (J (J Tryz.func40 (by decide)) (J (J Tryz.func75 (by decide)) (J (J Tryz.func76 (by decide)) (J (J Tryz.func77 (by decide)) (J (J Tryz.func122 (by decide)) (J (J Tryz.func124 (by decide)) (J (J Tryz.func125 (by decide)) (T1 (J Tryz.func126 (by decide)))))))))) (J (orcOf_ok (ok60 n)) (J (orcOf_ok (ok61 n)) (J (orcOf_ok (ok63 n)) (J (orcOf_ok (ok66 n)) (J (orcOf_ok (ok74 n)) (J (orcOf_ok (ok108 n)) (J (orcOf_ok (ok116 n)) (J (orcOf_ok (ok123 n)) (J (orcOf_ok (ok128 n)) (T1 (orcOf_ok (ok192 n)))))))))))) (J (okc (T1 (T1 (qo21 X n))) trivial) (J (okc (T1 (T1 (qo19 X n))) trivial) (J (okc trivial trivial) (J (okc (T1 (T1 (qo20 X n))) trivial) (J (okc trivial trivial) (J (okc trivial trivial) (J (okc trivial trivial) (T1 (okc trivial trivial))))))))) trivial
abbrev P40 : List SV := [.str]
abbrev R40 : RV := .many [V5, V2]
theorem ok40 (n : Nat) : FO 40 P40 R40 (F.dog_Parse n) := fnOK_of WOf.st (cx40_ok _ n) (d := 8) fun _ => by kernel_rfl
noncomputable def o40 (n : Nat) := oc 40 P40 R40 (F.dog_Parse n)
def qh22 : Shape := ⟨[(0, (.const (.yield 0))), (1, (.const (.ref 4 0))), (3, V0), (4, V0), (5, .bool)], [[.str, V0, (.sl Y3 (.own 0)), V0, (.sl Y4 (.own 1)), V0], [V0, V0], [.str, V0, (.sl Y3 (.own 2)), V0, (.sl Y4 (.own 3)), V0], [V0, V0], [.str]], [true, true, true, true], [.ready], [(0, 42, 4, [(4, (.const (.ref 2 0))), (5, (.const (.ref 3 0)))])], 5, 0, 1⟩
def qe22_0 : Shape := ⟨[], [[.str, V0, (.sl Y3 (.own 0)), V0, (.sl Y4 (.own 1)), V0], [V0, V0], [.str, V0, (.sl Y3 (.own 2)), V0, (.sl Y4 (.own 3)), V0], [V0, V0], [.str]], [true, true, true, true], [.ready], [], 5, 0, 1⟩
def qe22_r : Shape := ⟨[], [[.str, V0, (.sl Y3 (.own 0)), V0, (.sl Y4 (.own 1)), V0], [V0, V0], [.str, V0, (.sl Y3 (.own 2)), V0, (.sl Y4 (.own 3)), V0], [V0, V0], [.str]], [true, true, true, true], [.done (.ex 0)], [], 5, 0, 1⟩
noncomputable def ql22 (X : Type) (n : Nat) : LoopI X := mkLi 7 5 0 1 qh22 [(0, qe22_0)] [qe22_r] n fun m ks => F.graphite_Parse.L2_graphite_cut_1 n (xe qe22_0 ks 0) (xr qe22_r ks) m
noncomputable def cx42 (X : Type) (n : Nat) : Cx X := mkCx tab.get [(42, Tryz.f42), (78, Tryz.f78), (79, Tryz.f79), (127, Tryz.f127)] [o60 n, o61 n, o63 n, o128 n] [(127, 2, [ql22 X n])] [(42, 4, Tryz.f42, [4, 5], 0)] [(42, 13, [(1, 2)]), (42, 14, [(1, 2)])] []
theorem qo22 (X : Type) (n : Nat) : LO (cx42 X n) 127 Tryz.f127 0 (ql22 X n) := lok
theorem cx42_ok (X : Type) (n : Nat) : CxOK Tryz.prog SW (cx42 X n) := mx (J (J Tryz.func42 (by decide)) (J (J Tryz.func78 (by decide)) (J (J Tryz.func79 (by decide)) (T1 (J Tryz.func127 (by decide)))))) (J (orcOf_ok (ok60 n)) (J (orcOf_ok (ok61 n)) (J (orcOf_ok (ok63 n)) (T1 (orcOf_ok (ok128 n)))))) (J (okc trivial (T1 (rfo (cx := cx42 X n) (g := 42) (i := 4) (lv := [4, 5]) (show _ = some (Tryz.f42.ntmps, _, rfNo Tryz.f42 0) by kernel_rfl)))) (J (okc trivial trivial) (J (okc trivial trivial) (T1 (okc (T1 (T1 (qo22 X n))) trivial))))) (T1 (J Tryz.func42 rfl))
abbrev P42 : List SV := [.str]
abbrev R42 : RV := .many [V5, V2]
theorem ok42 (n : Nat) : FO 42 P42 R42 (F.graphite_Parse n) := fnOK_of WOf.st (cx42_ok _ n) (d := 8) fun _ => by kernel_rfl
noncomputable def o42 (n : Nat) := oc 42 P42 R42 (F.graphite_Parse n)
noncomputable def cx11 (X : Type) (n : Nat) : Cx X := mkCx tab.get [(11, Tryz.f11), (23, Tryz.f23)] [o38 n, o40 n, o42 n] [] [] [] []
theorem cx11_ok (X : Type) (n : Nat) : CxOK Tryz.prog SW (cx11 X n) := mx (J (J Tryz.func11 (by decide)) (T1 (J Tryz.func23 (by decide)))) (J (orcOf_ok (ok38 n)) (J (orcOf_ok (ok40 n)) (T1 (orcOf_ok (ok42 n))))) (J (okc trivial trivial) (T1 (okc trivial trivial))) trivial
abbrev P11 : List SV := [.str, V0]
abbrev R11 : RV := .many [V5, V2]
theorem ok11 (n : Nat) : FO 11 P11 R11 (F.text_Parse n) := fnOK_of WOf.st (cx11_ok _ n) (d := 8) fun _ => by kernel_rfl
noncomputable def o11 (n : Nat) := oc 11 P11 R11 (F.text_Parse n)
abbrev P48 : List SV := [V13]
abbrev R48 : RV := .many [V14, V2]
theorem ok48 (n : Nat) : FO 48 P48 R48 (F.frame_Decode n) := fun x y hy => by cases hy
noncomputable def o48 (n : Nat) := oc 48 P48 R48 (F.frame_Decode n)
noncomputable def cx86 (X : Type) (n : Nat) : Cx X := mkCx tab.get [(86, Tryz.f86)] [] [] [] [] []
theorem cx86_ok (X : Type) (n : Nat) : CxOK Tryz.prog SW (cx86 X n) := mx (T1 (J Tryz.func86 (by decide))) trivial (T1 (okc trivial trivial)) trivial
abbrev P86 : List SV := [V13]
abbrev R86 : RV := .one V13
theorem ok86 (n : Nat) : FO 86 P86 R86 (F.bytes_Clone n) := fnOK_of WOf.st (cx86_ok _ n) (d := 8) fun _ => by kernel_rfl
noncomputable def o86 (n : Nat) := oc 86 P86 R86 (F.bytes_Clone n)
def qh23 : Shape := ⟨[(0, V13), (4, (.const (.ref 0 0))), (13, V15), (14, V0)], [[V0, V0]], [], [], [], 1, 0, 0⟩
def qe23_0 : Shape := ⟨[(0, V13), (4, (.const (.ref 0 0)))], [[V0, V0]], [], [], [], 1, 0, 0⟩
def qe23_r : Shape := ⟨[(2, V0), (3, V0), (4, (.const (.ref 0 0)))], [[V0, V0]], [], [], [], 1, 0, 0⟩
noncomputable def ql23 (X : Type) (n : Nat) : LoopI X := mkLi 8 0 0 0 qh23 [(0, qe23_0)] [qe23_r] n fun m ks => F.frame_head.L2 n (xe qe23_0 ks 0) (xr qe23_r ks) m
def qh24 : Shape := ⟨[(0, V13), (4, (.const (.ref 0 0))), (7, V0), (8, V0)], [[V0, V0]], [], [], [], 1, 0, 0⟩
def qe24_3 : Shape := ⟨[(4, (.const (.ref 0 0)))], [[V0, V0]], [], [], [], 1, 0, 0⟩
def qe24_r : Shape := ⟨[(2, V0), (3, V0), (4, (.const (.ref 0 0)))], [[V0, V0]], [], [], [], 1, 0, 0⟩
noncomputable def ql24 (X : Type) (n : Nat) : LoopI X := mkLi 8 0 0 0 qh24 [(3, qe24_3)] [qe24_r] n fun m ks => F.frame_head.L10 n (xe qe24_3 ks 3) (xr qe24_r ks) m
noncomputable def cx89 (X : Type) (n : Nat) : Cx X := mkCx tab.get [(89, Tryz.f89)] [] [(89, 2, [ql23 X n]), (89, 10, [ql24 X n])] [] [] []
theorem qo23 (X : Type) (n : Nat) : LO (cx89 X n) 89 Tryz.f89 0 (ql23 X n) := lok
theorem qo24 (X : Type) (n : Nat) : LO (cx89 X n) 89 Tryz.f89 1 (ql24 X n) := lok
theorem cx89_ok (X : Type) (n : Nat) : CxOK Tryz.prog SW (cx89 X n) := mx (T1 (J Tryz.func89 (by decide))) trivial (T1 (okc (J (T1 (qo23 X n)) (T1 (T1 (qo24 X n)))) trivial)) trivial
abbrev P89 : List SV := [V13]
abbrev R89 : RV := .many [V0, V0, V2]
theorem ok89 (n : Nat) : FO 89 P89 R89 (F.frame_head n) := fnOK_of WOf.st (cx89_ok _ n) (d := 8) fun _ => by kernel_rfl
noncomputable def o89 (n : Nat) := oc 89 P89 R89 (F.frame_head n)
noncomputable def cx87 (X : Type) (n : Nat) : Cx X := mkCx tab.get [(87, Tryz.f87)] [o89 n] [] [] [] []
theorem cx87_ok (X : Type) (n : Nat) : CxOK Tryz.prog SW (cx87 X n) := mx (T1 (J Tryz.func87 (by decide))) (T1 (orcOf_ok (ok89 n))) (T1 (okc trivial trivial)) trivial
abbrev P87 : List SV := [V13]
abbrev R87 : RV := .many [V0, V2]
theorem ok87 (n : Nat) : FO 87 P87 R87 (F.frame_Head n) := fnOK_of WOf.st (cx87_ok _ n) (d := 8) fun _ => by kernel_rfl
noncomputable def o87 (n : Nat) := oc 87 P87 R87 (F.frame_Head n)
abbrev P194 : List SV := [V13, V13]
abbrev R194 : RV := .one V0
theorem ok194 (n : Nat) : FO 194 P194 R194 (O.bindex n) := bindex_ok (enters Tryz.func194 (by kernel_rfl) (by decide)) Tryz.bytes_Index_one n
noncomputable def o194 (n : Nat) := oc 194 P194 R194 (O.bindex n)
noncomputable def cx130 (X : Type) (n : Nat) : Cx X := mkCx tab.get [(130, Tryz.f130)] [o194 n] [] [] [] []
theorem cx130_ok (X : Type) (n : Nat) : CxOK Tryz.prog SW (cx130 X n) := mx (T1 (J Tryz.func130 (by decide))) (T1 (orcOf_ok (ok194 n))) (T1 (okc trivial trivial)) trivial
abbrev P130 : List SV := [V13, V13]
abbrev R130 : RV := .many [V13, V13, .bool]
theorem ok130 (n : Nat) : FO 130 P130 R130 (F.bytes_Cut n) := fnOK_of WOf.st (cx130_ok _ n) (d := 8) fun _ => by kernel_rfl
noncomputable def o130 (n : Nat) := oc 130 P130 R130 (F.bytes_Cut n)
def qh25 : Shape := ⟨[(0, (.const (.yield 1))), (1, (.const (.ref 7 0)))], [[V0, (.const (.ref 1 0)), (.const .nilp), (.const (.fn 25 [(.ref 0 0)] [])), .bool, .bool], [V0, V0, V0, (.sl .u8 (.own 0)), .bool], [(.sl Y9 (.own 1))], [(.const (.ref 0 0))], [V13], [(.const (.ref 1 0))], [(.sl Y1 (.own 2))], [V13]], [true, true, true], [.ready, .ready], [(1, 44, 6, [(2, (.const (.ref 5 0))), (7, (.const (.ref 6 0)))]), (0, 19, 7, [(6, (.const (.ref 2 0)))])], 8, 0, 2⟩
def qe25_0 : Shape := ⟨[], [[V0, (.const (.ref 1 0)), (.const .nilp), (.const (.fn 25 [(.ref 0 0)] [])), .bool, .bool], [V0, V0, V0, (.sl .u8 (.own 0)), .bool], [(.sl Y9 (.own 1))], [(.const (.ref 0 0))], [V13], [(.const (.ref 1 0))], [(.sl Y1 (.own 2))], [V13]], [true, true, true], [.ready, .ready], [], 8, 0, 2⟩
noncomputable def ql25 (X : Type) (n : Nat) : LoopI X := mkLi 4 8 0 2 qh25 [(0, qe25_0)] [] n fun m ks => F.sess_Whole.L0_line_pieces_1 n (xe qe25_0 ks 0) m
def qh26 : Shape := ⟨[(0, (.const (.yield 0))), (1, (.const (.ref 3 0))), (17, (.sl Y1 (.own 0))), (18, V0), (19, V0)], [[V0, (.const (.ref 1 0)), (.const .nilp), (.const (.fn 25 [(.ref 0 0)] [])), .bool, .bool], [V0, V0, V0, (.sl .u8 (.own 1)), .bool], [(.sl Y9 (.own 2))], [(.const (.ref 0 0))], [V13], [(.const (.ref 1 0))], [(.sl Y1 (.own 3))], [V13]], [true, true, true, false], [.ready, .busy], [(0, 19, 7, [(6, (.const (.ref 2 0)))])], 8, 0, 2⟩
def qe26_0 : Shape := ⟨[], [[V0, (.const (.ref 1 0)), (.const .nilp), (.const (.fn 25 [(.ref 0 0)] [])), .bool, .bool], [V0, V0, V0, (.sl .u8 (.own 0)), .bool], [(.sl Y9 (.own 1))], [(.const (.ref 0 0))], [V13], [(.const (.ref 1 0))], [(.sl Y1 (.own 2))], [V13]], [true, true, false], [.ready, .busy], [], 8, 0, 2⟩
noncomputable def ql26 (X : Type) (n : Nat) : LoopI X := mkLi 6 5 0 1 qh26 [(0, qe26_0)] [] n fun m ks => F.sess_Whole.L2_sess_Sess_text_1 n (xe qe26_0 ks 0) m
def qh27 : Shape := ⟨[(9, V0), (10, (.sl Y9 (.own 0))), (11, (.sl Y9 (.own 1)))], [], [true, true], [.busy, .busy], [], 0, 0, 2⟩
def qe27_r : Shape := ⟨[(6, (.sl Y9 (.own 0))), (7, V0)], [], [true], [.busy, .busy], [], 0, 0, 2⟩
noncomputable def ql27 (X : Type) (n : Nat) : CutI X := mkCi 8 0 0 0 qh27 [] [] [qe27_r] fun ks => F.sess_Whole.C8 n (xr qe27_r ks)
def qh28 : Shape := ⟨[(8, (.const (.ref 0 0))), (9, V0), (10, (.sl Y9 (.own 0)))], [[V0, (.const (.ref 1 0)), (.const .nilp), (.const (.fn 25 [(.ref 0 0)] [])), .bool, .bool], [V0, V0, V0, (.sl .u8 (.own 1)), .bool]], [true, true], [.busy, .busy], [], 2, 0, 2⟩
def qe28_r : Shape := ⟨[(6, (.sl Y9 (.own 0))), (7, V0)], [], [true], [.busy, .busy], [], 0, 0, 2⟩
def qe28_rx1 : Shape := ⟨[(6, (.sl Y9 (.own 0))), (7, V0)], [], [true], [.busy, .busy], [], 0, 0, 2⟩
noncomputable def ql28 (X : Type) (n : Nat) : CutI X := mkCi 8 0 0 0 qh28 [] [] [qe28_r, qe28_rx1] fun ks => F.sess_Whole.C5 n (xr qe28_r ks) (xr qe28_rx1 ks)
def qh29 : Shape := ⟨[(0, (.const (.yield 1))), (1, (.const (.ref 7 0))), (2, (.const (.ref 6 0)))], [[V0, (.const .nilp), (.const (.ref 1 0)), (.const (.fn 27 [(.ref 0 0)] [])), .bool, .bool], [V0, V0, (.sl .u8 (.own 0)), V0, .bool], [(.sl Y9 (.own 1))], [(.const (.ref 0 0))], [V13], [(.sl Y11 (.own 2))], [(.const (.ref 1 0))], [V13]], [true, true, true], [.ready, .ready], [(1, 47, 6, [(7, (.const (.ref 5 0)))]), (0, 19, 7, [(6, (.const (.ref 2 0)))])], 8, 0, 2⟩
def qe29_0 : Shape := ⟨[], [[V0, (.const .nilp), (.const (.ref 1 0)), (.const (.fn 27 [(.ref 0 0)] [])), .bool, .bool], [V0, V0, (.sl .u8 (.own 0)), V0, .bool], [(.sl Y9 (.own 1))], [(.const (.ref 0 0))], [V13], [(.sl Y11 (.own 2))], [(.const (.ref 1 0))], [V13]], [true, true, true], [.ready, .ready], [], 8, 0, 2⟩
def qe29_r : Shape := ⟨[], [[V0, (.const .nilp), (.const (.ref 1 0)), (.const (.fn 27 [(.ref 0 0)] [])), .bool, .bool], [V0, V0, (.sl .u8 (.own 0)), V0, .bool], [(.sl Y9 (.own 1))], [(.const (.ref 0 0))], [V13], [(.sl Y11 (.own 2))], [(.const (.ref 1 0))], [(.sl .u8 (.own 3))]], [true, true, true, true], [.ready, .ready], [], 8, 0, 2⟩
noncomputable def ql29 (X : Type) (n : Nat) : LoopI X := mkLi 4 8 0 2 qh29 [(0, qe29_0)] [qe29_r] n fun m ks => F.sess_Whole.L0_chunk_Framer_frames_1 n (xe qe29_0 ks 0) (xr qe29_r ks) m
def qh30 : Shape := ⟨[(0, (.const (.yield 0))), (1, (.const (.ref 3 0))), (20, (.sl Y11 (.own 0))), (21, V0), (22, V0)], [[V0, (.const .nilp), (.const (.ref 1 0)), (.const (.fn 27 [(.ref 0 0)] [])), .bool, .bool], [V0, V0, (.sl .u8 (.own 1)), V0, .bool], [(.sl Y9 (.own 2))], [(.const (.ref 0 0))], [V13], [(.sl Y11 (.own 3))], [(.const (.ref 1 0))], [V13]], [true, true, true, false], [.ready, .busy], [(0, 19, 7, [(6, (.const (.ref 2 0)))])], 8, 0, 2⟩
def qe30_0 : Shape := ⟨[], [[V0, (.const .nilp), (.const (.ref 1 0)), (.const (.fn 27 [(.ref 0 0)] [])), .bool, .bool], [V0, V0, (.sl .u8 (.own 0)), V0, .bool], [(.sl Y9 (.own 1))], [(.const (.ref 0 0))], [V13], [(.sl Y11 (.own 2))], [(.const (.ref 1 0))], [V13]], [true, true, false], [.ready, .busy], [], 8, 0, 2⟩
def qe30_r : Shape := ⟨[], [[V0, (.const .nilp), (.const (.ref 1 0)), (.const (.fn 27 [(.ref 0 0)] [])), .bool, .bool], [V0, V0, (.sl .u8 (.own 0)), V0, .bool], [(.sl Y9 (.own 1))], [(.const (.ref 0 0))], [V13], [(.sl Y11 (.own 2))], [(.const (.ref 1 0))], [V13]], [true, true, false], [.ready, .busy], [], 8, 0, 2⟩
noncomputable def ql30 (X : Type) (n : Nat) : LoopI X := mkLi 6 5 0 1 qh30 [(0, qe30_0)] [qe30_r] n fun m ks => F.sess_Whole.L2_sess_Sess_binary_1 n (xe qe30_0 ks 0) (xr qe30_r ks) m
def qh31 : Shape := ⟨[(8, (.const (.ref 0 0))), (9, V0), (10, (.sl Y9 (.own 0)))], [[V0, (.const .nilp), (.const (.ref 1 0)), (.const (.fn 27 [(.ref 0 0)] [])), .bool, .bool], [V0, V0, (.sl .u8 (.own 1)), V0, .bool]], [true, true], [.busy, .busy], [], 2, 0, 2⟩
def qe31_r : Shape := ⟨[(6, (.sl Y9 (.own 0))), (7, V0)], [], [true], [.busy, .busy], [], 0, 0, 2⟩
def qe31_rx1 : Shape := ⟨[(6, (.sl Y9 (.own 0))), (7, V0)], [], [true], [.busy, .busy], [], 0, 0, 2⟩
noncomputable def ql31 (X : Type) (n : Nat) : CutI X := mkCi 8 0 0 0 qh31 [] [] [qe31_r, qe31_rx1] fun ks => F.sess_Whole.C5_1 n (xr qe31_r ks) (xr qe31_rx1 ks)
noncomputable def cx9 (X : Type) (n : Nat) : Cx X := mkCx tab.get [(9, Tryz.f9), (14, Tryz.f14), (19, Tryz.f19), (21, Tryz.f21), (25, Tryz.f25), (26, Tryz.f26), (27, Tryz.f27), (28, Tryz.f28), (30, Tryz.f30), (33, Tryz.f33), (43, Tryz.f43), (44, Tryz.f44), (45, Tryz.f45), (46, Tryz.f46), (47, Tryz.f47), (51, Tryz.f51), (52, Tryz.f52), (80, Tryz.f80), (81, Tryz.f81), (83, Tryz.f83), (84, Tryz.f84), (85, Tryz.f85), (94, Tryz.f94), (129, Tryz.f129), (131, Tryz.f131), (132, Tryz.f132), (133, Tryz.f133), (195, Tryz.f195)] [o11 n, o48 n, o86 n, o87 n, o130 n] [(43, 2, [ql26 X n]), (46, 2, [ql30 X n]), (129, 0, [ql25 X n]), (131, 0, [ql29 X n])] [(19, 7, Tryz.f19, [6], 0), (44, 6, Tryz.f44, [2, 7], 0), (47, 6, Tryz.f47, [7], 0)] [(43, 0, [(5, 5)]), (44, 14, [(0, 11), (11, 11)]), (45, 4, [(1, 10), (5, 10), (1, 11), (5, 11), (10, 11)]), (45, 6, [(3, 8), (5, 8)]), (46, 0, [(5, 5)]), (46, 9, [(3, 8), (5, 8)]), (52, 7, [(9, 9)]), (83, 1, [(3, 9), (7, 9)]), (94, 1, [(3, 19), (7, 19), (13, 19), (17, 19)])] [] [(9, 5, [ql28 X n, ql31 X n]), (9, 8, [ql27 X n])] [] [(82, .rd longF)] none []
theorem qo27 (X : Type) (n : Nat) : CO (cx9 X n) 9 Tryz.f9 9 (ql27 X n) := fun _ _ => by kernel_rfl
theorem qo28 (X : Type) (n : Nat) : CO (cx9 X n) 9 Tryz.f9 5 (ql28 X n) := fun _ _ => by kernel_rfl
theorem qo31 (X : Type) (n : Nat) : CO (cx9 X n) 9 Tryz.f9 5 (ql31 X n) := fun _ _ => by kernel_rfl
theorem qo25 (X : Type) (n : Nat) : LO (cx9 X n) 129 Tryz.f129 0 (ql25 X n) := lok
theorem qo26 (X : Type) (n : Nat) : LO (cx9 X n) 43 Tryz.f43 0 (ql26 X n) := lok
theorem qo29 (X : Type) (n : Nat) : LO (cx9 X n) 131 Tryz.f131 0 (ql29 X n) := lok
theorem qo30 (X : Type) (n : Nat) : LO (cx9 X n) 46 Tryz.f46 0 (ql30 X n) := lok
theorem cx9_ok (X : Type) (n : Nat) : CxOK Tryz.prog SW (cx9 X n) := mx (J (J Tryz.func9 (by decide)) (J (J Tryz.func14 (by decide)) (J (J Tryz.func19 (by decide)) (J (J Tryz.func21 (by decide)) (J (J Tryz.func25 (by decide)) (J (J Tryz.func26 (by decide)) (J (J Tryz.func27 (by decide)) (J (J Tryz.func28 (by decide)) (J (J Tryz.func30 (by decide)) (J (J Tryz.func33 (by decide)) (J (J Tryz.func43 (by decide)) (J (J Tryz.func44 (by decide)) (J (J Tryz.func45 (by decide)) (J (J Tryz.func46 (by decide)) (J (J Tryz.func47 (by decide)) (J (J Tryz.func51 (by decide)) (J (J Tryz.func52 (by decide)) (J (J Tryz.func80 (by decide)) (J (J Tryz.func81 (by decide)) (J (J Tryz.func83 (by decide)) (J (J Tryz.func84 (by decide)) (J (J Tryz.func85 (by decide)) (J (J Tryz.func94 (by decide)) (J (J Tryz.func129 (by decide)) (J (J Tryz.func131 (by decide)) (J (J Tryz.func132 (by decide)) (J (J Tryz.func133 (by decide)) (T1 (J Tryz.func195 (by decide)))))))))))))))))))))))))))))) (J (orcOf_ok (ok11 n)) (J (orcOf_ok (ok48 n)) (J (orcOf_ok (ok86 n)) (J (orcOf_ok (ok87 n)) (T1 (orcOf_ok (ok130 n))))))) (J (okk (J trivial (J trivial (J trivial (J trivial (J trivial (J (J (qo28 X n) (T1 (qo31 X n))) (J trivial (J trivial (J trivial (J (T1 (qo27 X n)) (J trivial (J trivial (J trivial (T1 trivial)))))))))))))) trivial trivial) (J (okc trivial trivial) (J (okc trivial (T1 (rfo (cx := cx9 X n) (g := 19) (i := 7) (lv := [6]) (show _ = some (Tryz.f19.ntmps, _, rfNo Tryz.f19 0) by kernel_rfl)))) (J (okc trivial trivial) (J (okc trivial trivial) (J (okc trivial trivial) (J (okc trivial trivial) (J (okc trivial trivial) (J (okc trivial trivial) (J (okc trivial trivial) (J (okc (T1 (T1 (qo26 X n))) trivial) (J (okc trivial (T1 (rfo (cx := cx9 X n) (g := 44) (i := 6) (lv := [2, 7]) (show _ = some (Tryz.f44.ntmps, _, rfNo Tryz.f44 0) by kernel_rfl)))) (J (okc trivial trivial) (J (okc (T1 (T1 (qo30 X n))) trivial) (J (okc trivial (T1 (rfo (cx := cx9 X n) (g := 47) (i := 6) (lv := [7]) (show _ = some (Tryz.f47.ntmps, _, rfNo Tryz.f47 0) by kernel_rfl)))) (J (okc trivial trivial) (J (okc trivial trivial) (J (okc trivial trivial) (J (okc trivial trivial) (J (okc trivial trivial) (J (okc trivial trivial) (J (okc trivial trivial) (J (okc trivial trivial) (J (okc (T1 (T1 (qo25 X n))) trivial) (J (okc (T1 (T1 (qo29 X n))) trivial) (J (okc trivial trivial) (J (okc trivial trivial) (T1 (okc trivial trivial))))))))))))))))))))))))))))) (J (J Tryz.func19 rfl) (J (J Tryz.func44 rfl) (T1 (J Tryz.func47 rfl)))) (T1 (long_ok.mono (fun _ _ => trivial)))
abbrev P9 : List SV := [V0, V0, V13]
abbrev R9 : RV := .many [V16, V0]
theorem ok9 (n : Nat) : FO 9 P9 R9 (F.sess_Whole n) := fnOK_of WOf.st (cx9_ok _ n) (d := 8) fun _ => by kernel_rfl
noncomputable def o9 (n : Nat) := oc 9 P9 R9 (F.sess_Whole n)
def qh32 : Shape := ⟨[(2, (.const (.ref 0 0))), (3, (.const (.ref 1 0))), (5, V0)], [[.str, V0, V3, V0, V4, V0], [.str, V0, V3, V0, V4, V0]], [], [], [], 2, 0, 0⟩
def qe32_0 : Shape := ⟨[(2, (.const (.ref 0 0))), (3, (.const (.ref 1 0)))], [[.str, V0, V3, V0, V4, V0], [.str, V0, V3, V0, V4, V0]], [], [], [], 2, 0, 0⟩
def qe32_r : Shape := ⟨[(4, .bool)], [[.str, V0, V3, V0, V4, V0], [.str, V0, V3, V0, V4, V0]], [], [], [], 2, 0, 0⟩
noncomputable def ql32 (X : Type) (n : Nat) : LoopI X := mkLi 8 0 0 0 qh32 [(0, qe32_0)] [qe32_r] n fun m ks => F.ref07_Equal.L4 n (xe qe32_0 ks 0) (xr qe32_r ks) m
def qh33 : Shape := ⟨[(2, (.const (.ref 0 0))), (3, (.const (.ref 1 0))), (6, V0)], [[.str, V0, V3, V0, V4, V0], [.str, V0, V3, V0, V4, V0]], [], [], [], 2, 0, 0⟩
def qe33_2 : Shape := ⟨[], [[.str, V0, V3, V0, V4, V0], [.str, V0, V3, V0, V4, V0]], [], [], [], 2, 0, 0⟩
def qe33_r : Shape := ⟨[(4, .bool)], [[.str, V0, V3, V0, V4, V0], [.str, V0, V3, V0, V4, V0]], [], [], [], 2, 0, 0⟩
noncomputable def ql33 (X : Type) (n : Nat) : LoopI X := mkLi 8 0 0 0 qh33 [(2, qe33_2)] [qe33_r] n fun m ks => F.ref07_Equal.L9 n (xe qe33_2 ks 2) (xr qe33_r ks) m
noncomputable def cx24 (X : Type) (n : Nat) : Cx X := mkCx tab.get [(24, Tryz.f24)] [] [(24, 4, [ql32 X n]), (24, 9, [ql33 X n])] [] [] []
theorem qo32 (X : Type) (n : Nat) : LO (cx24 X n) 24 Tryz.f24 0 (ql32 X n) := lok
theorem qo33 (X : Type) (n : Nat) : LO (cx24 X n) 24 Tryz.f24 1 (ql33 X n) := lok
theorem cx24_ok (X : Type) (n : Nat) : CxOK Tryz.prog SW (cx24 X n) := mx (T1 (J Tryz.func24 (by decide))) trivial (T1 (okc (J (T1 (qo32 X n)) (T1 (T1 (qo33 X n)))) trivial)) trivial
abbrev P24 : List SV := [V5, V5]
abbrev R24 : RV := .one .bool
theorem ok24 (n : Nat) : FO 24 P24 R24 (F.ref07_Equal n) := fnOK_of WOf.st (cx24_ok _ n) (d := 8) fun _ => by kernel_rfl
noncomputable def o24 (n : Nat) := oc 24 P24 R24 (F.ref07_Equal n)
def qh34 : Shape := ⟨[(0, V14), (1, V14), (5, V0)], [], [], [], [], 0, 0, 0⟩
def qe34_0 : Shape := ⟨[], [], [], [], [], 0, 0, 0⟩
def qe34_r : Shape := ⟨[(4, .bool)], [], [], [], [], 0, 0, 0⟩
noncomputable def ql34 (X : Type) (n : Nat) : LoopI X := mkLi 8 0 0 0 qh34 [(0, qe34_0)] [qe34_r] n fun m ks => F.ref08_Equal.L4 n (fun _ => xe qe34_0 ks 0) (xr qe34_r ks) m
noncomputable def cx12 (X : Type) (n : Nat) : Cx X := mkCx tab.get [(12, Tryz.f12)] [o24 n] [(12, 4, [ql34 X n])] [] [] []
theorem qo34 (X : Type) (n : Nat) : LO (cx12 X n) 12 Tryz.f12 0 (ql34 X n) := lok
theorem cx12_ok (X : Type) (n : Nat) : CxOK Tryz.prog SW (cx12 X n) := mx (T1 (J Tryz.func12 (by decide))) (T1 (orcOf_ok (ok24 n))) (T1 (okc (T1 (T1 (qo34 X n))) trivial)) trivial
abbrev P12 : List SV := [V14, V14]
abbrev R12 : RV := .one .bool
theorem ok12 (n : Nat) : FO 12 P12 R12 (F.ref08_Equal n) := fnOK_of WOf.st (cx12_ok _ n) (d := 8) fun _ => by kernel_rfl
noncomputable def o12 (n : Nat) := oc 12 P12 R12 (F.ref08_Equal n)
noncomputable def cx10 (X : Type) (n : Nat) : Cx X := mkCx tab.get [(10, Tryz.f10)] [o12 n] [] [] [] []
theorem cx10_ok (X : Type) (n : Nat) : CxOK Tryz.prog SW (cx10 X n) := mx (T1 (J Tryz.func10 (by decide))) (T1 (orcOf_ok (ok12 n))) (T1 (okc trivial trivial)) trivial
abbrev P10 : List SV := [V17, V17]
abbrev R10 : RV := .one .bool
theorem ok10 (n : Nat) : FO 10 P10 R10 (F.law22_one n) := fnOK_of WOf.st (cx10_ok _ n) (d := 8) fun _ => by kernel_rfl
noncomputable def o10 (n : Nat) := oc 10 P10 R10 (F.law22_one n)
noncomputable def cx8 (X : Type) (n : Nat) : Cx X := mkCx tab.get [(8, Tryz.f8)] [o9 n, o10 n] [] [] [] [] [] [(22, .u8)]
theorem cx8_ok (X : Type) (n : Nat) : CxOK Tryz.prog SW (cx8 X n) := mx (T1 (J Tryz.func8 (by decide))) (J (orcOf_ok (ok9 n)) (T1 (orcOf_ok (ok10 n)))) (T1 (okc trivial trivial)) trivial
abbrev P8 : List SV := []
abbrev R8 : RV := .one .bool
theorem ok8 (n : Nat) : FO 8 P8 R8 (F.law22_awake n) := fnOK_of WOf.st (cx8_ok _ n) (d := 8) fun _ => by kernel_rfl
noncomputable def o8 (n : Nat) := oc 8 P8 R8 (F.law22_awake n)
def qh35 : Shape := ⟨[(0, V13), (3, (.const (.ref 0 0))), (5, V16), (7, V0), (8, V0)], [[V0, V0]], [], [], [], 1, 0, 0⟩
def qe35_0 : Shape := ⟨[(0, V13), (7, V0)], [[V0, V0]], [], [], [], 1, 0, 0⟩
def qe35_r : Shape := ⟨[(4, .bool)], [[V0, V0]], [], [], [], 1, 0, 0⟩
noncomputable def ql35 (X : Type) (n : Nat) : LoopI X := mkLi 8 0 0 0 qh35 [(0, qe35_0)] [qe35_r] n fun m ks => F.law22_SessCovers.L8 n (xe qe35_0 ks 0) (xr qe35_r ks) m
noncomputable def cx3 (X : Type) (n : Nat) : Cx X := mkCx tab.get [(3, Tryz.f3)] [o8 n, o9 n, o10 n, o11 n, o12 n] [(3, 8, [ql35 X n])] [] [(3, 27, [(2, 14), (4, 14), (9, 14), (2, 15), (4, 15), (9, 15), (14, 15)])] []
theorem qo35 (X : Type) (n : Nat) : LO (cx3 X n) 3 Tryz.f3 0 (ql35 X n) := lok
theorem cx3_ok (X : Type) (n : Nat) : CxOK Tryz.prog SW (cx3 X n) := mx (T1 (J Tryz.func3 (by decide))) (J (orcOf_ok (ok8 n)) (J (orcOf_ok (ok9 n)) (J (orcOf_ok (ok10 n)) (J (orcOf_ok (ok11 n)) (T1 (orcOf_ok (ok12 n))))))) (T1 (okc (T1 (T1 (qo35 X n))) trivial)) trivial
abbrev P3 : List SV := [V13, V2]
abbrev R3 : RV := .one .bool
theorem ok3 (n : Nat) : FO 3 P3 R3 (F.law22_SessCovers n) := fnOK_of WOf.st (cx3_ok _ n) (d := 8) fun _ => by kernel_rfl
end Go.AM
set_option linter.unusedVariables false
set_option linter.unusedSimpArgs false
namespace Go.AM
def isDig (b : UInt8) : Bool := decide (48 ≤ b.toNat) && decide (b.toNat ≤ 57)
def dv (b : UInt8) : Nat := b.toNat - 48
def valF (a : Nat) (l : List UInt8) : Nat := l.foldl (fun a b => a * 10 + dv b) a
theorem valF_nil (a : Nat) : valF a [] = a := rfl
theorem valF_cons (a : Nat) (b : UInt8) (l : List UInt8) : valF a (b :: l) = valF (a * 10 + dv b) l := by unfold valF; rw [List.foldl_cons]
def val (l : List UInt8) : Nat := valF 0 l
def Digs (l : List UInt8) : Prop := l.all isDig = true
theorem isDig_iff {b : UInt8} : isDig b = true ↔ 48 ≤ b.toNat ∧ b.toNat ≤ 57 := by simp [isDig]
theorem digs_cons {b : UInt8} {l : List UInt8} : Digs (b :: l) ↔ isDig b = true ∧ Digs l := by simp [Digs]
theorem digs_append {l m : List UInt8} : Digs (l ++ m) ↔ Digs l ∧ Digs m := by simp [Digs]
theorem digs_rep (k : Nat) : Digs (List.replicate k 48) := by
  unfold Digs
  rw [List.all_eq_true]
  intro x hx
  rw [List.eq_of_mem_replicate hx]
  rfl
theorem digs_take {l : List UInt8} (k : Nat) (h : Digs l) : Digs (l.take k) := by
  unfold Digs at h ⊢
  rw [List.all_eq_true] at h ⊢
  exact fun x hx => h x (List.mem_of_mem_take hx)
theorem dv_lt {b : UInt8} (h : isDig b = true) : dv b < 10 := by
  have := isDig_iff.1 h
  unfold dv
  omega
theorem u8_ext {a b : UInt8} (h : a.toNat = b.toNat) : a = b := UInt8.toNat_inj.1 h
theorem dv_inj {a b : UInt8} (ha : isDig a = true) (hb : isDig b = true) (h : dv a = dv b) : a = b := by
  have h1 := isDig_iff.1 ha
  have h2 := isDig_iff.1 hb
  unfold dv at h
  exact u8_ext (by omega)
theorem valF_eq (a : Nat) (l : List UInt8) : valF a l = a * 10 ^ l.length + val l := by
  unfold val
  induction l generalizing a with
  | nil => rw [valF_nil, valF_nil]; simp
  | cons b l ih =>
    simp only [valF_cons, List.length_cons]
    rw [ih (a * 10 + dv b), ih (0 * 10 + dv b), Nat.pow_succ, Nat.add_mul, Nat.zero_mul, Nat.zero_add, Nat.mul_assoc, Nat.mul_comm 10, Nat.add_assoc]
theorem val_nil : val [] = 0 := rfl
theorem val_cons (b : UInt8) (l : List UInt8) : val (b :: l) = dv b * 10 ^ l.length + val l := by
  show valF (0 * 10 + dv b) l = _
  rw [valF_eq, Nat.zero_mul, Nat.zero_add]
theorem val_append (l m : List UInt8) : val (l ++ m) = val l * 10 ^ m.length + val m := by
  induction l with
  | nil => simp [val_nil]
  | cons b l ih => rw [List.cons_append, val_cons, val_cons, ih, List.length_append, Nat.pow_add, Nat.add_mul, Nat.mul_assoc, Nat.add_assoc]
theorem val_snoc (l : List UInt8) (b : UInt8) : val (l ++ [b]) = val l * 10 + dv b := by rw [val_append, val_cons]; simp [val_nil]
theorem val_lt {l : List UInt8} (h : Digs l) : val l < 10 ^ l.length := by
  induction l with
  | nil => simp [val_nil]
  | cons b l ih =>
    obtain ⟨h1, h2⟩ := digs_cons.1 h
    have := ih h2
    have hd := dv_lt h1
    rw [val_cons, List.length_cons, Nat.pow_succ, Nat.mul_comm (10 ^ l.length)]
    have h3 : dv b * 10 ^ l.length ≤ 9 * 10 ^ l.length := Nat.mul_le_mul_right _ (by omega)
    omega
theorem dv_48 : dv 48 = 0 := rfl
theorem val_rep (k : Nat) : val (List.replicate k 48) = 0 := by
  induction k with
  | zero => rfl
  | succ k ih => rw [List.replicate_succ, val_cons, ih, dv_48]; simp
theorem val_zeros_left (k : Nat) (l : List UInt8) : val (List.replicate k 48 ++ l) = val l := by rw [val_append, val_rep]; simp
theorem val_zeros_right (k : Nat) (l : List UInt8) : val (l ++ List.replicate k 48) = val l * 10 ^ k := by rw [val_append, val_rep]; simp
theorem val_eq_zero {l : List UInt8} (hd : Digs l) (h : val l = 0) : l = List.replicate l.length 48 := by
  induction l with
  | nil => rfl
  | cons b l ih =>
    obtain ⟨h1, h2⟩ := digs_cons.1 hd
    rw [val_cons] at h
    have hp : 0 < 10 ^ l.length := Nat.pow_pos (by omega)
    have h3 : dv b = 0 := by
      cases hb : dv b with
      | zero => rfl
      | succ k => rw [hb, Nat.succ_mul] at h; omega
    rw [List.length_cons, List.replicate_succ, ← ih h2 (by omega)]
    rw [dv_inj (a := b) (b := 48) h1 rfl h3]
theorem val_inj {l m : List UInt8} (hl : Digs l) (hm : Digs m) (hlen : l.length = m.length) (h : val l = val m) : l = m := by
  induction l generalizing m with
  | nil => cases m with
    | nil => rfl
    | cons => simp at hlen
  | cons b l ih => cases m with
    | nil => simp at hlen
    | cons c m =>
      obtain ⟨h1, h2⟩ := digs_cons.1 hl
      obtain ⟨h3, h4⟩ := digs_cons.1 hm
      have hlen : l.length = m.length := by simpa using hlen
      rw [val_cons, val_cons, hlen] at h
      have b1 := val_lt h2
      have b2 := val_lt h4
      rw [hlen] at b1
      have hp : 0 < 10 ^ m.length := Nat.pow_pos (by omega)
      have e : dv b = dv c := by
        have q1 := congrArg (· / 10 ^ m.length) h
        simp only [Nat.mul_comm (dv b), Nat.mul_comm (dv c), Nat.mul_add_div hp, Nat.div_eq_of_lt b1, Nat.div_eq_of_lt b2] at q1
        omega
      rw [e] at h
      rw [dv_inj h1 h3 e, ih h2 h4 hlen (by omega)]
theorem dig_of (k : Nat) (h : k < 10) : (UInt8.ofNat (48 + k)).toNat = 48 + k := by simp [UInt8.toNat_ofNat']; omega
theorem isDig_of (k : Nat) (h : k < 10) : isDig (UInt8.ofNat (48 + k)) = true := by rw [isDig_iff, dig_of k h]; omega
theorem dv_of (k : Nat) (h : k < 10) : dv (UInt8.ofNat (48 + k)) = k := by unfold dv; rw [dig_of k h]; omega
theorem dd_small {u : Nat} (h : u < 10) : Lib.decDigits u = [UInt8.ofNat (48 + u)] := Lib.decDigits_one h
theorem dd_big {u : Nat} (h : ¬ u < 10) : Lib.decDigits u = Lib.decDigits (u / 10) ++ [UInt8.ofNat (48 + u % 10)] := by rw [Lib.decDigits, dif_neg h]
theorem dd_digs (u : Nat) : Digs (Lib.decDigits u) := by
  induction u using Nat.strongRecOn with
  | _ u ih =>
    by_cases h : u < 10
    · rw [dd_small h, digs_cons]; exact ⟨isDig_of u h, rfl⟩
    · rw [dd_big h, digs_append, digs_cons]
      exact ⟨ih _ (by omega), isDig_of _ (by omega), rfl⟩
theorem dd_val (u : Nat) : val (Lib.decDigits u) = u := by
  induction u using Nat.strongRecOn with
  | _ u ih =>
    by_cases h : u < 10
    · rw [dd_small h, val_cons, dv_of u h]; simp [val_nil]
    · rw [dd_big h, val_snoc, ih _ (by omega), dv_of _ (by omega)]; omega
theorem dd_length (u : Nat) : (Lib.decDigits u).length = Lib.nDigits u := Lib.decDigits_length u
def Norm (l : List UInt8) : Prop := l ≠ [] ∧ (l.head? = some 48 → l.length = 1)
theorem pu10 (acc : Nat) (l : List UInt8) (hd : Digs l) (ha : acc < 18446744073709551616) : Lib.parseUint10 acc l = if valF acc l < 18446744073709551616 then .ok (valF acc l) else .range := by
  induction l generalizing acc with
  | nil => rw [valF_nil, if_pos ha]; rfl
  | cons b l ih =>
    obtain ⟨h1, h2⟩ := digs_cons.1 hd
    have hb := isDig_iff.1 h1
    have hmono : ∀ x, x ≤ valF x l := fun x => by
      rw [valF_eq]
      have : 0 < 10 ^ l.length := Nat.pow_pos (by omega)
      have := Nat.le_mul_of_pos_right x this
      omega
    have hm := hmono (acc * 10 + dv b)
    simp only [Lib.parseUint10, hb, and_self, if_true]
    rw [valF_cons]
    generalize hV : valF (acc * 10 + dv b) l = V at hm ⊢
    unfold dv at hm
    by_cases h3 : 1844674407370955162 ≤ acc
    · rw [if_pos h3, if_neg (by omega)]
    · rw [if_neg h3]
      by_cases h4 : 18446744073709551616 ≤ acc * 10 + (b.toNat - 48)
      · rw [if_pos h4, if_neg (by omega)]
      · rw [if_neg h4, ih _ h2 (by omega)]
        have : valF (acc * 10 + (b.toNat - 48)) l = V := hV
        rw [this]
theorem atoi_digs {l : List UInt8} (hd : Digs l) (hn : l ≠ []) : Lib.atoiAll l = if val l < 9223372036854775808 then .ok (val l : Int) else .range := by
  cases l with
  | nil => exact absurd rfl hn
  | cons b r =>
    have hb := isDig_iff.1 (digs_cons.1 hd).1
    simp only [Lib.atoiAll]
    rw [if_neg (by omega)]
    unfold Lib.parseMag
    rw [if_neg (by simp), pu10 0 _ hd (by omega)]
    have e : valF 0 (b :: r) = val (b :: r) := rfl
    rw [e]
    by_cases h1 : val (b :: r) < 18446744073709551616
    · rw [if_pos h1]
      simp only []
      by_cases h2 : val (b :: r) < 9223372036854775808
      · rw [if_pos h2, if_neg (by omega), if_neg (by omega), if_neg (by omega)]
      · rw [if_neg h2, if_pos (by omega)]
    · rw [if_neg h1, if_neg (by omega)]
def trz : List UInt8 → List UInt8
  | [] => []
  | b :: l => if trz l = [] then (if b = 48 then [] else [b]) else b :: trz l
theorem trimR_rep (l : List UInt8) (c : UInt8) : ∃ k, l = Lib.trimRightB l c ++ List.replicate k c ∧ (∀ x, (Lib.trimRightB l c).getLast? = some x → x ≠ c) := by
  have h := List.takeWhile_append_dropWhile (p := fun b : UInt8 => b == c) (l := l.reverse)
  refine ⟨(l.reverse.takeWhile (· == c)).length, ?_, ?_⟩
  · unfold Lib.trimRightB
    have h2 := congrArg List.reverse h
    rw [List.reverse_append, List.reverse_reverse] at h2
    have h3 : (l.reverse.takeWhile (· == c)).reverse = List.replicate (l.reverse.takeWhile (· == c)).length c := by
      rw [List.eq_replicate_iff]
      refine ⟨by simp, fun b hb => ?_⟩
      have := List.all_eq_true.1 (List.all_takeWhile (p := fun b : UInt8 => b == c) (l := l.reverse)) b (List.mem_reverse.1 hb)
      simpa using this
    rw [h3] at h2
    exact h2.symm
  · intro x hx
    unfold Lib.trimRightB at hx
    rw [List.getLast?_reverse] at hx
    have := List.head?_dropWhile_not (p := fun b : UInt8 => b == c) (l := l.reverse)
    rw [hx] at this
    simpa using this
theorem trz_rep (l : List UInt8) : ∃ k, l = trz l ++ List.replicate k 48 ∧ (∀ x, (trz l).getLast? = some x → x ≠ 48) := by
  induction l with
  | nil => exact ⟨0, rfl, by simp [trz]⟩
  | cons b l ih =>
    obtain ⟨k, h1, h2⟩ := ih
    unfold trz
    by_cases h : trz l = []
    · rw [if_pos h]
      rw [h, List.nil_append] at h1
      by_cases hb : b = 48
      · rw [if_pos hb]
        exact ⟨k + 1, by rw [List.replicate_succ, ← h1, hb]; rfl, by simp⟩
      · rw [if_neg hb]
        exact ⟨k, by rw [← h1]; rfl, by simp [hb]⟩
    · rw [if_neg h]
      refine ⟨k, by rw [List.cons_append, ← h1], ?_⟩
      intro x hx
      rw [List.getLast?_cons] at hx
      cases e : (trz l).getLast? with
      | none => simp at e; exact absurd e h
      | some y =>
        rw [e] at hx
        have hy := h2 y e
        simp at hx
        rw [← hx]; exact hy
theorem rep_uniq {a b : List UInt8} {c : UInt8} {i j : Nat} (h : a ++ List.replicate i c = b ++ List.replicate j c) (ha : ∀ x, a.getLast? = some x → x ≠ c) (hb : ∀ x, b.getLast? = some x → x ≠ c) : a = b := by
  induction i generalizing j with
  | zero =>
    cases j with
    | zero => simpa using h
    | succ j =>
      rw [List.replicate_succ', ← List.append_assoc] at h
      simp only [List.replicate_zero, List.append_nil] at h
      exact absurd rfl (ha c (by rw [h]; simp))
  | succ i ih =>
    cases j with
    | zero =>
      rw [List.replicate_succ', ← List.append_assoc] at h
      simp only [List.replicate_zero, List.append_nil] at h
      exact absurd rfl (hb c (by rw [← h]; simp))
    | succ j =>
      rw [List.replicate_succ', List.replicate_succ', ← List.append_assoc, ← List.append_assoc] at h
      exact ih (List.append_inj_left' h rfl)
theorem trimR_trz (l : List UInt8) : Lib.trimRightB l 48 = trz l := by
  obtain ⟨i, h1, h2⟩ := trimR_rep l 48
  obtain ⟨j, h3, h4⟩ := trz_rep l
  exact rep_uniq (h1.symm.trans h3) h2 h4
theorem trz_zeros (l : List UInt8) (k : Nat) : trz (l ++ List.replicate k 48) = trz l := by
  obtain ⟨i, h1, h2⟩ := trz_rep (l ++ List.replicate k 48)
  obtain ⟨j, h3, h4⟩ := trz_rep l
  refine rep_uniq (i := i) (j := j + k) (c := 48) ?_ h2 h4
  rw [← h1]
  conv => lhs; rw [h3]
  rw [List.append_assoc, List.replicate_append_replicate]
theorem trz_self {l : List UInt8} (h : ∀ x, l.getLast? = some x → x ≠ 48) : trz l = l := by
  obtain ⟨j, h3, h4⟩ := trz_rep l
  exact (rep_uniq (i := 0) (j := j) (c := 48) (by rw [← h3]; simp) h h4).symm
theorem trz_le (l : List UInt8) : (trz l).length ≤ l.length := by
  obtain ⟨k, h1, _⟩ := trz_rep l
  have := congrArg List.length h1
  simp at this
  omega
theorem trz_digs {l : List UInt8} (h : Digs l) : Digs (trz l) := by
  obtain ⟨k, h1, _⟩ := trz_rep l
  rw [h1, digs_append] at h
  exact h.1
theorem trz_pad (l : List UInt8) : l = trz l ++ List.replicate (l.length - (trz l).length) 48 := by
  obtain ⟨k, h1, _⟩ := trz_rep l
  have := congrArg List.length h1
  simp at this
  rw [show l.length - (trz l).length = k from by omega]
  exact h1
theorem trz_last {l : List UInt8} {x : UInt8} (h : (trz l).getLast? = some x) : x ≠ 48 := by
  obtain ⟨k, _, h2⟩ := trz_rep l
  exact h2 x h
theorem trz_nil {l : List UInt8} (hd : Digs l) : trz l = [] ↔ val l = 0 := by
  constructor
  · intro h
    have := trz_pad l
    rw [h, List.nil_append] at this
    rw [this, val_rep]
  · intro h
    have := val_eq_zero hd h
    obtain ⟨k, h1, h2⟩ := trz_rep l
    rw [this] at h1 ⊢
    have := trz_zeros [] l.length
    simpa [trz] using this
end Go.AM
set_option linter.unusedVariables false
set_option linter.unusedSimpArgs false
namespace Go.AM
abbrev DecD := Bool × Int × Int × Unit
abbrev DecR := DecD × Int × Unit
def two64 : Nat := 18446744073709551616
theorem two64_eq : two64 = 18446744073709551616 := rfl
def normR (neg : Bool) (c0 : Nat) (E : Int) : DecR :=
  if E < -18 then ((false, 0, 0, ()), 10, ()) else if c0 * 10 ^ (E - 18).toNat < two64 then ((neg, ((c0 * 10 ^ (E - 18).toNat : Nat) : Int), (if E ≤ 18 then E else 18), ()), 0, ()) else ((false, 0, 0, ()), 10, ())
def zeroD : DecR := ((false, 0, 0, ()), 0, ())
def valR (neg : Bool) (d : List UInt8) (e : Int) : DecR :=
  if val d = 0 then zeroD else normR neg (val (trz d)) (e + ((d.length - (trz d).length : Nat) : Int))
theorem val_trz (d : List UInt8) : val d = val (trz d) * 10 ^ (d.length - (trz d).length) := by
  have := congrArg val (trz_pad d)
  rw [val_zeros_right] at this
  exact this
theorem core_trz {d : List UInt8} (hd : Digs d) (h : val d ≠ 0) : val (trz d) % 10 ≠ 0 := by
  have hne : trz d ≠ [] := fun hh => h ((trz_nil hd).1 hh)
  obtain ⟨x, hx⟩ : ∃ x, (trz d).getLast? = some x := by
    cases e : (trz d).getLast? with
    | none => simp at e; exact absurd e hne
    | some x => exact ⟨x, rfl⟩
  have hx48 := trz_last hx
  obtain ⟨ys, hys⟩ := List.getLast?_eq_some_iff.1 hx
  have hdig := trz_digs hd
  rw [hys] at hdig ⊢
  obtain ⟨_, h2⟩ := digs_append.1 hdig
  obtain ⟨h3, _⟩ := digs_cons.1 h2
  rw [val_snoc]
  have := dv_lt h3
  have h0 : dv x ≠ 0 := fun h0 => hx48 (dv_inj h3 (b := 48) rfl h0)
  omega
theorem core_unique {a b i j : Nat} (ha : a % 10 ≠ 0) (hb : b % 10 ≠ 0) (h : a * 10 ^ i = b * 10 ^ j) : a = b ∧ i = j := by
  induction i generalizing j with
  | zero =>
    cases j with
    | zero => simpa using h
    | succ j => rw [Nat.pow_zero, Nat.mul_one, Nat.pow_succ, ← Nat.mul_assoc] at h; omega
  | succ i ih =>
    cases j with
    | zero => rw [Nat.pow_zero, Nat.mul_one, Nat.pow_succ, ← Nat.mul_assoc] at h; omega
    | succ j =>
      rw [Nat.pow_succ, Nat.pow_succ, ← Nat.mul_assoc, ← Nat.mul_assoc] at h
      obtain ⟨h1, h2⟩ := ih (Nat.eq_of_mul_eq_mul_right (by omega) h)
      exact ⟨h1, by omega⟩
theorem valR_core {d : List UInt8} (hd : Digs d) {c0 z : Nat} (h0 : c0 % 10 ≠ 0) (hv : val d = c0 * 10 ^ z) (neg : Bool) (e : Int) : valR neg d e = normR neg c0 (e + z) := by
  have hne : val d ≠ 0 := by
    rw [hv]
    have := Nat.mul_pos (show 0 < c0 by omega) (Nat.pow_pos (n := z) (show 0 < 10 by omega))
    omega
  unfold valR
  rw [if_neg hne]
  obtain ⟨h1, h2⟩ := core_unique (core_trz hd hne) h0 ((val_trz d).symm.trans hv)
  rw [h1, h2]
theorem ten_split (c : Nat) (h : 0 < c) : ∃ c0 z, c = c0 * 10 ^ z ∧ c0 % 10 ≠ 0 := by
  induction c using Nat.strongRecOn with
  | _ c ih =>
    by_cases h1 : c % 10 = 0
    · obtain ⟨c0, z, h2, h3⟩ := ih (c / 10) (by omega) (by omega)
      exact ⟨c0, z + 1, by rw [Nat.pow_succ, ← Nat.mul_assoc, ← h2]; omega, h3⟩
    · exact ⟨c, 0, by simp, h1⟩
theorem valR_zeros_right (neg : Bool) {d : List UInt8} (hd : Digs d) (k : Nat) (e : Int) : valR neg (d ++ List.replicate k 48) e = valR neg d (e + k) := by
  have hD : Digs (d ++ List.replicate k 48) := digs_append.2 ⟨hd, digs_rep _⟩
  by_cases h : val d = 0
  · have : val (d ++ List.replicate k 48) = 0 := by rw [val_zeros_right, h]; simp
    unfold valR
    rw [if_pos h, if_pos this]
  · obtain ⟨c0, z, h1, h2⟩ := ten_split (val d) (by omega)
    rw [valR_core hd h2 h1, valR_core hD h2 (z := z + k) (by rw [val_zeros_right, h1, Nat.pow_add, Nat.mul_assoc])]
    congr 1
    omega
theorem times_eq (n : Nat) (c d : Nat) (hc : c < two64) (hd : d < two64) : F.dec_times n (c : Int) (d : Int) = some ((((c * 10 + d) % two64 : Nat) : Int), decide (c * 10 + d < two64), ()) := by
  unfold F.dec_times O.mul64
  rw [two64_eq] at *
  rw [bif_pos (by omega), some_bind']
  unfold O.add64
  rw [show (c : Int).toNat = c from rfl, show (10 : Int).toNat = 10 from rfl]
  dsimp only
  rw [bif_pos (by omega), some_bind']
  simp only [Int.toNat_natCast, show (0 : Int).toNat = 0 from rfl, Nat.add_zero]
  by_cases h : c * 10 < 18446744073709551616
  · have e1 : ((((c * 10 / 18446744073709551616 : Nat) : Int)) == 0) = true := by simp; omega
    rw [e1, cond_true]
    have e2 : c * 10 % 18446744073709551616 = c * 10 := Nat.mod_eq_of_lt h
    rw [e2]
    congr 2
    congr 1
    by_cases h2 : c * 10 + d < 18446744073709551616
    · have : (c * 10 + d) / 18446744073709551616 = 0 := Nat.div_eq_of_lt h2
      simp [h2, this]
    · have : ¬ (c * 10 + d) / 18446744073709551616 = 0 := by omega
      have e : ((((c * 10 + d) / 18446744073709551616 : Nat) : Int) == 0) = false := by simp; omega
      rw [e]; simp [h2]
  · have e1 : ((((c * 10 / 18446744073709551616 : Nat) : Int)) == 0) = false := by simp; omega
    rw [e1, cond_false]
    have : ¬ c * 10 + d < 18446744073709551616 := by omega
    simp only [this, decide_false]
    congr 2
    omega
theorem strip_norm (n : Nat) (X : Type) (k0 : Bool → Int → Int → Bool → Int → Int → Option X) (neg b : Bool) (x y : Int) (c0 : Nat) (h0 : c0 % 10 ≠ 0) : ∀ (z m : Nat) (e : Int), c0 * 10 ^ z < two64 → -9223372036854775808 ≤ e → e + z ≤ 9223372036854775807 → z < m →
    ∃ j, j ≤ z ∧ F.dec_Normal.L3 n k0 m neg ((c0 * 10 ^ z : Nat) : Int) e b x y = k0 neg ((c0 * 10 ^ j : Nat) : Int) (e + z - j) b x y ∧ (j = 0 ∨ 18 ≤ e + z - j) ∧ (e + z - j ≤ 18 ∨ j = z) := by
  intro z
  induction z with
  | zero =>
    intro m e hc he1 he2 hm
    obtain ⟨m, rfl⟩ : ∃ q, m = q + 1 := ⟨m - 1, by omega⟩
    refine ⟨0, Nat.le_refl _, ?_, Or.inl rfl, Or.inr rfl⟩
    show F.dec_Normal.L3.step n _ k0 _ _ _ _ _ _ = _
    unfold F.dec_Normal.L3.step
    have e1 : ((((c0 * 10 ^ 0 : Nat) : Int).tmod 10) == 0) = false := by
      rw [Nat.pow_zero, Nat.mul_one]
      have : ¬ ((c0 : Int).tmod 10) = 0 := by
        rw [show ((c0 : Int).tmod 10) = ((c0 % 10 : Nat) : Int) from rfl]; omega
      simpa using this
    rw [e1, cond_false]
    congr 1
    omega
  | succ z ih =>
    intro m e hc he1 he2 hm
    obtain ⟨m, rfl⟩ : ∃ q, m = q + 1 := ⟨m - 1, by omega⟩
    have hstep : F.dec_Normal.L3 n k0 (m + 1) neg ((c0 * 10 ^ (z + 1) : Nat) : Int) e b x y = F.dec_Normal.L3.step n (F.dec_Normal.L3 n k0 m) k0 neg ((c0 * 10 ^ (z + 1) : Nat) : Int) e b x y := rfl
    have hmul : c0 * 10 ^ (z + 1) = c0 * 10 ^ z * 10 := by rw [Nat.pow_succ, Nat.mul_assoc]
    have e1 : ((((c0 * 10 ^ (z + 1) : Nat) : Int).tmod 10) == 0) = true := by
      have : ((c0 * 10 ^ (z + 1) : Nat) : Int).tmod 10 = 0 := by
        rw [show (((c0 * 10 ^ (z + 1) : Nat) : Int).tmod 10) = ((c0 * 10 ^ (z + 1) % 10 : Nat) : Int) from rfl]; omega
      simpa using this
    have e2 : ((c0 * 10 ^ (z + 1) : Nat) : Int).tdiv 10 = ((c0 * 10 ^ z : Nat) : Int) := by
      rw [show (((c0 * 10 ^ (z + 1) : Nat) : Int).tdiv 10) = ((c0 * 10 ^ (z + 1) / 10 : Nat) : Int) from rfl]; omega
    rw [hstep]
    unfold F.dec_Normal.L3.step
    rw [e1, cond_true]
    by_cases h18 : e < 18
    · rw [bif_pos h18, e2, IntWalk.u64_in _ (by rw [two64_eq] at hc; omega), wrap_in (by omega)]
      obtain ⟨j, j1, j2, j3, j4⟩ := ih m (e + 1) (by omega) (by omega) (by omega) (by omega)
      refine ⟨j, by omega, ?_, ?_, ?_⟩
      · rw [j2]
        congr 1
        omega
      · rcases j3 with j3 | j3
        · exact Or.inl j3
        · exact Or.inr (by omega)
      · rcases j4 with j4 | j4
        · exact Or.inl (by omega)
        · exact Or.inl (by omega)
    · rw [bif_neg h18]
      refine ⟨z + 1, Nat.le_refl _, ?_, Or.inr (by omega), Or.inr rfl⟩
      congr 1
      omega
theorem grow_norm (n : Nat) (X : Type) (k2 : Bool → Int → Int → Bool → Int → Int → Option X) (K : Int → Bool → Int → Int → Option X) (neg b : Bool) (x y : Int) : ∀ (m c d : Nat), 0 < c → c < two64 → two64 ≤ c * 10 ^ m → 18 + (d : Int) ≤ 9223372036854775807 →
    F.dec_Normal.L5 n k2 (fun q _ _ _ u v w => K q u v w) (m + 1) neg (c : Int) (18 + (d : Int)) b x y = if c * 10 ^ d < two64 then k2 neg ((c * 10 ^ d : Nat) : Int) 18 b x y else K 10 false 0 0 := by
  intro m
  induction m with
  | zero => intro c d h1 h2 h3; rw [Nat.pow_zero, Nat.mul_one] at h3; omega
  | succ m ih =>
    intro c d h1 h2 h3 h4
    have hstep : F.dec_Normal.L5 n k2 (fun q _ _ _ u v w => K q u v w) (m + 1 + 1) neg (c : Int) (18 + (d : Int)) b x y = F.dec_Normal.L5.step n (F.dec_Normal.L5 n k2 (fun q _ _ _ u v w => K q u v w) (m + 1)) k2 (fun q _ _ _ u v w => K q u v w) neg (c : Int) (18 + (d : Int)) b x y := rfl
    rw [hstep]
    unfold F.dec_Normal.L5.step
    cases d with
    | zero =>
      rw [bif_neg (by omega), Nat.pow_zero, Nat.mul_one, if_pos h2]
      rfl
    | succ d =>
      rw [bif_pos (by omega), show (0 : Int) = ((0 : Nat) : Int) from rfl, times_eq n c 0 h2 (by decide), some_bind']
      have hp : c * 10 ≤ c * 10 ^ (d + 1) := by
        rw [Nat.pow_succ, ← Nat.mul_assoc]
        have : 0 < 10 ^ d := Nat.pow_pos (by omega)
        have := Nat.le_mul_of_pos_right c this
        omega
      by_cases hf : c * 10 + 0 < two64
      · simp only [hf, decide_true, Bool.not_true, cond_false]
        rw [wrap_in (by omega), show (18 + ((d + 1 : Nat) : Int) - 1) = 18 + (d : Int) from by omega, Nat.mod_eq_of_lt hf]
        have := ih (c * 10 + 0) d (by omega) hf (by rw [Nat.pow_succ] at h3; rw [Nat.add_zero, Nat.mul_assoc, Nat.mul_comm 10]; exact h3) (by omega)
        rw [show ((0 : Nat) : Int) = (0 : Int) from rfl] at *
        rw [this, Nat.add_zero, Nat.mul_assoc, Nat.mul_comm 10, ← Nat.pow_succ]
      · have : ¬ c * 10 ^ (d + 1) < two64 := by omega
        simp only [hf, decide_false, Bool.not_false, cond_true]
        rw [if_neg this]
theorem normal_core (n : Nat) (hn : 100 ≤ n) (neg : Bool) (c0 z : Nat) (h0 : c0 % 10 ≠ 0) (hc : c0 * 10 ^ z < two64) (e : Int) (he : -9223372036854775808 ≤ e ∧ e ≤ 9223372036854775807) :
    F.dec_Normal n (neg, ((c0 * 10 ^ z : Nat) : Int), e, ()) = some (normR neg c0 (e + z)) := by
  have hz : z ≤ 20 := by
    refine Classical.byContradiction fun hh => ?_
    have h1 : 10 ^ 20 ≤ 10 ^ z := Nat.pow_le_pow_right (by omega) (by omega)
    have h2 := Nat.le_mul_of_pos_left (10 ^ z) (show 0 < c0 by omega)
    rw [two64_eq] at hc
    omega
  have hpos : 0 < c0 * 10 ^ z := Nat.mul_pos (by omega) (Nat.pow_pos (by omega))
  unfold F.dec_Normal
  have e0 : (((c0 * 10 ^ z : Nat) : Int) == 0) = false := by
    have : ¬ ((c0 * 10 ^ z : Nat) : Int) = 0 := by omega
    simpa using this
  simp only [e0, cond_false]
  by_cases hbig : 9223372036854775807 < e + z
  ·
    have h18 : ¬ e < 18 := by omega
    obtain ⟨m, rfl⟩ : ∃ q, n = q + 1 := ⟨n - 1, by omega⟩
    have hs : ∀ (k0 : Bool → Int → Int → Bool → Int → Int → Option DecR), F.dec_Normal.L3 (m + 1) k0 (m + 1) neg ((c0 * 10 ^ z : Nat) : Int) e false 0 0 = k0 neg ((c0 * 10 ^ z : Nat) : Int) e false 0 0 := by
      intro k0
      show F.dec_Normal.L3.step (m + 1) (F.dec_Normal.L3 (m + 1) k0 m) k0 _ _ _ _ _ _ = _
      unfold F.dec_Normal.L3.step
      rw [bif_neg h18]
      cases (((c0 * 10 ^ z : Nat) : Int).tmod 10 == 0) <;> rfl
    rw [hs]
    obtain ⟨d, hd⟩ : ∃ d : Nat, e = 18 + (d : Int) := ⟨(e - 18).toNat, by omega⟩
    have hfuel : two64 ≤ c0 * 10 ^ z * 10 ^ m := by
      have h1 : 10 ^ 20 ≤ 10 ^ m := Nat.pow_le_pow_right (by omega) (by omega)
      have h2 := Nat.le_mul_of_pos_left (10 ^ m) hpos
      rw [two64_eq]
      omega
    rw [hd, grow_norm (m + 1) _ _ (fun q u v w => some ((u, v, w, ()), q, ())) neg false 0 0 m _ d hpos hc hfuel (by omega)]
    have hnot : ∀ w, 20 ≤ w → ¬ c0 * 10 ^ w < two64 := by
      intro w hw
      have h1 : 10 ^ 20 ≤ 10 ^ w := Nat.pow_le_pow_right (by omega) hw
      have h2 := Nat.le_mul_of_pos_left (10 ^ w) (show 0 < c0 by omega)
      rw [two64_eq]
      omega
    unfold normR
    rw [if_neg (show ¬ 18 + (d : Int) + z < -18 by omega), if_neg (by rw [Nat.mul_assoc, ← Nat.pow_add]; exact hnot _ (by omega)), if_neg (hnot _ (by omega))]
  · obtain ⟨j, j1, j2, j3, j4⟩ := strip_norm n DecR (fun e1_b0_0 e1_b0_1 e1_b0_2 e1_b1_0 e1_b1_1 e1_b1_2 =>
        F.dec_Normal.L5 n
          (fun e3_b0_0 e3_b0_1 e3_b0_2 e3_b1_0 e3_b1_1 e3_b1_2 =>
            bif decide (e3_b0_2 < (-18 : Int)) then
              some (((false, (0 : Int), (0 : Int), ()), (10 : Int), ()))
            else
              some (((e3_b0_0, e3_b0_1, e3_b0_2, ()), (0 : Int), ())))
          (fun e4_3 e4_b0_0 e4_b0_1 e4_b0_2 e4_b1_0 e4_b1_1 e4_b1_2 =>
            some (((e4_b1_0, e4_b1_1, e4_b1_2, ()), e4_3, ()))) n e1_b0_0 e1_b0_1 e1_b0_2 e1_b1_0 e1_b1_1 e1_b1_2) neg false 0 0 c0 h0 z n e hc he.1 (by omega) (by omega)
    refine j2.trans ?_
    have hcj : c0 * 10 ^ j < two64 := by
      have h1 : 10 ^ j ≤ 10 ^ z := Nat.pow_le_pow_right (by omega) j1
      have := Nat.mul_le_mul_left c0 h1
      omega
    have hposj : 0 < c0 * 10 ^ j := Nat.mul_pos (by omega) (Nat.pow_pos (by omega))
    obtain ⟨m, rfl⟩ : ∃ q, n = q + 1 := ⟨n - 1, by omega⟩
    by_cases hE : 18 ≤ e + z - j
    · obtain ⟨d, hd⟩ : ∃ d : Nat, e + z - j = 18 + (d : Int) := ⟨(e + z - j - 18).toNat, by omega⟩
      have hfuel : two64 ≤ c0 * 10 ^ j * 10 ^ m := by
        have h1 : 10 ^ 20 ≤ 10 ^ m := Nat.pow_le_pow_right (by omega) (by omega)
        have h2 := Nat.le_mul_of_pos_left (10 ^ m) hposj
        rw [two64_eq]
        omega
      show F.dec_Normal.L5 (m + 1) _ _ (m + 1) neg _ (e + z - j) false 0 0 = _
      rw [hd, grow_norm (m + 1) _ _ (fun q u v w => some ((u, v, w, ()), q, ())) neg false 0 0 m _ d hposj hcj hfuel (by omega)]
      unfold normR
      rw [if_neg (show ¬ e + z < -18 by omega), Nat.mul_assoc, ← Nat.pow_add, show j + d = (e + z - 18).toNat from by omega]
      by_cases hf : c0 * 10 ^ (e + z - 18).toNat < two64
      · rw [if_pos hf, if_pos hf, bif_neg (by omega)]
        congr 3
        by_cases hh : e + z ≤ 18
        · rw [if_pos hh, show e + (z : Int) = 18 from by omega]
        · rw [if_neg hh]
      · rw [if_neg hf, if_neg hf]
    · have hj0 : j = 0 := by omega
      subst hj0
      have hlow : ∀ (k2 : Bool → Int → Int → Bool → Int → Int → Option DecR) (kr : Int → Bool → Int → Int → Bool → Int → Int → Option DecR) (c : Int) (E : Int), ¬ E > 18 → F.dec_Normal.L5 (m + 1) k2 kr (m + 1) neg c E false 0 0 = k2 neg c E false 0 0 := by
        intro k2 kr c E hE
        show F.dec_Normal.L5.step (m + 1) (F.dec_Normal.L5 (m + 1) k2 kr m) k2 kr neg c E false 0 0 = _
        unfold F.dec_Normal.L5.step
        rw [bif_neg hE]
      rw [hlow _ _ _ _ (by omega)]
      unfold normR
      rw [Nat.pow_zero, Nat.mul_one, show (e + (z : Int) - 18).toNat = 0 from by omega, Nat.pow_zero, Nat.mul_one, show (e + (z : Int) - ((0 : Nat) : Int)) = e + z from by omega]
      by_cases h18 : e + z < -18
      · rw [bif_pos h18, if_pos h18]
      · rw [bif_neg h18, if_neg h18, if_pos (by rw [Nat.pow_zero, Nat.mul_one] at hcj; exact hcj), if_pos (by omega)]
theorem normal_eq (n : Nat) (hn : 100 ≤ n) (neg : Bool) (c : Nat) (hc : c < two64) (e : Int) (he : -9223372036854775808 ≤ e ∧ e ≤ 9223372036854775807) : F.dec_Normal n (neg, (c : Int), e, ()) = some (valR neg (Lib.decDigits c) e) := by
  by_cases h : c = 0
  · subst h
    unfold valR
    rw [if_pos (dd_val 0)]
    rfl
  · obtain ⟨c0, z, h1, h2⟩ := ten_split c (by omega)
    rw [valR_core (dd_digs c) h2 (by rw [dd_val]; exact h1)]
    rw [h1] at hc ⊢
    exact normal_core n hn neg c0 z h2 hc e he
end Go.AM
set_option linter.unusedVariables false
set_option linter.unusedSimpArgs false
namespace Go.AM
def lz (d : List UInt8) : List UInt8 := d.dropWhile (· == 48)
theorem lz_rep (d : List UInt8) : d = List.replicate (d.length - (lz d).length) 48 ++ lz d := by
  induction d with
  | nil => rfl
  | cons b d ih =>
    unfold lz at ih ⊢
    by_cases h : b = 48
    · subst h
      have e : ((48 : UInt8) :: d).dropWhile (· == 48) = d.dropWhile (· == 48) := by simp [List.dropWhile_cons]
      have hl : (d.dropWhile (· == 48)).length ≤ d.length := (List.dropWhile_sublist _).length_le
      rw [e, List.length_cons, show d.length + 1 - (d.dropWhile (· == 48)).length = (d.length - (d.dropWhile (· == 48)).length) + 1 from by omega, List.replicate_succ, List.cons_append, ← ih]
    · have e : (b :: d).dropWhile (· == 48) = b :: d := by simp [List.dropWhile_cons, h]
      rw [e]
      simp
theorem lz_val (d : List UInt8) : val (lz d) = val d := by
  conv => rhs; rw [lz_rep d]
  rw [val_zeros_left]
theorem lz_digs {d : List UInt8} (h : Digs d) : Digs (lz d) := by
  rw [lz_rep d, digs_append] at h
  exact h.2
theorem lz_le (d : List UInt8) : (lz d).length ≤ d.length := (List.dropWhile_sublist _).length_le
end Go.AM
set_option linter.unusedVariables false
set_option linter.unusedSimpArgs false
namespace Go.AM
abbrev FaultR := Int × Int × Unit
abbrev ParseR := DecD × FaultR × Unit
theorem hasPrefix_one (n : Nat) (s : List UInt8) (c : UInt8) : F.strings_HasPrefix n s [c] = some (decide (s.head? = some c)) := by
  unfold F.strings_HasPrefix F.stringslite_HasPrefix
  cases s with
  | nil => rfl
  | cons b s =>
    have e : sub (b :: s) (0 : Int) ((([c] : List UInt8).length : Nat) : Int) = some [b] := sub_nat (b :: s) 0 1 (by omega) (by simp)
    rw [bif_pos (by simp; omega), e, some_bind', some_bind']
    by_cases h : b = c
    · subst h; simp
    · simp [h]
def tw (s : List UInt8) : List UInt8 := s.takeWhile isDig
theorem tw_digs (s : List UInt8) : Digs (tw s) := List.all_takeWhile
theorem tw_split (s : List UInt8) : s = tw s ++ s.drop (tw s).length := by
  induction s with
  | nil => rfl
  | cons b s ih =>
    unfold tw at ih ⊢
    by_cases h : isDig b = true
    · simp only [List.takeWhile_cons, h, if_true, List.length_cons, List.drop_succ_cons, List.cons_append]
      rw [← ih]
    · simp [List.takeWhile_cons, h]
theorem tw_le (s : List UInt8) : (tw s).length ≤ s.length := (List.takeWhile_sublist _).length_le
theorem digits_loop (n : Nat) (X : Type) (k0 : Int → (List UInt8) → Int → Int → Int → Option X) (v3 b0 b1 : Int) (s : List UInt8) (hs : s.length < 4611686018427387904) : ∀ (r : List UInt8) (k m : Nat), s.drop k = r → k ≤ s.length → r.length < m →
    F.dec_look.L2_dec_look_1 n k0 m v3 s b0 b1 (k : Int) = k0 v3 s b0 b1 ((k + (tw r).length : Nat) : Int) := by
  intro r
  induction r with
  | nil =>
    intro k m hk hkl hm
    have := drop_nil' hk
    obtain ⟨m, rfl⟩ : ∃ q, m = q + 1 := ⟨m - 1, by omega⟩
    show F.dec_look.L2_dec_look_1.step n _ k0 _ _ _ _ _ = _
    unfold F.dec_look.L2_dec_look_1.step
    rw [bif_neg (by omega)]
    rfl
  | cons x r ih =>
    intro k m hk hkl hm
    obtain ⟨h1, h2, h3⟩ := drop_cons hk
    obtain ⟨m, rfl⟩ : ∃ q, m = q + 1 := ⟨m - 1, by omega⟩
    show F.dec_look.L2_dec_look_1.step n (F.dec_look.L2_dec_look_1 n k0 m) k0 _ _ _ _ _ = _
    unfold F.dec_look.L2_dec_look_1.step
    rw [bif_pos (by omega), idx_nat, h2, some_bind', some_bind']
    unfold tw at ih ⊢
    by_cases hd : isDig x = true
    · have hx := isDig_iff.1 hd
      rw [bif_pos (by omega), bif_pos (by omega), wrap_succ (by omega), ih (k + 1) m h3 (by omega) (by simp at hm; omega)]
      simp only [List.takeWhile_cons, hd, if_true, List.length_cons]
      congr 2
      omega
    · simp only [List.takeWhile_cons, hd, if_false]
      by_cases h48 : 48 ≤ x.toNat
      · have : ¬ x.toNat ≤ 57 := fun h => hd (isDig_iff.2 ⟨h48, h⟩)
        rw [bif_pos (by omega), bif_neg (by omega)]
        rfl
      · rw [bif_neg (by omega)]
        rfl
def p0 (s : List UInt8) : Nat := if s.head? = some 45 then 1 else 0
def p1q (q : Nat) (s : List UInt8) : Nat := q + (tw (s.drop q)).length
def p3q (q : Nat) (s : List UInt8) : Nat := p1q q s + 1 + (tw (s.drop (p1q q s + 1))).length
theorem p0_le (s : List UInt8) : p0 s ≤ s.length := by
  unfold p0
  cases s with
  | nil => simp
  | cons b s => split <;> simp
theorem p1_le {q : Nat} {s : List UInt8} (hq : q ≤ s.length) : p1q q s ≤ s.length := by
  have h2 := tw_le (s.drop q)
  simp at h2
  unfold p1q
  omega
theorem drop_lt {s : List UInt8} {k : Nat} {x : UInt8} (h : (s.drop k).head? = some x) : k < s.length := by
  cases e : s.drop k with
  | nil => rw [e] at h; simp at h
  | cons b r =>
    have := congrArg List.length e
    simp at this
    omega
theorem p3_le {q : Nat} {s : List UInt8} (h : (s.drop (p1q q s)).head? = some 46) : p3q q s ≤ s.length := by
  have h1 := drop_lt h
  have h2 := tw_le (s.drop (p1q q s + 1))
  simp at h2
  unfold p3q
  omega
def endR (right : Prop) [Decidable right] (at' : Nat) (len : Nat) : FaultR :=
  if right ∧ at' = len then (0, 0, ()) else if at' = len then (11, (at' : Int), ()) else (14, (at' : Int), ())
def lookQ (q : Nat) (s : List UInt8) : FaultR :=
  if q < p1q q s ∧ (s.drop (p1q q s)).head? = some 46 then endR (p1q q s + 1 < p3q q s) (p3q q s) s.length else endR (q < p1q q s) (p1q q s) s.length
def lookR (s : List UInt8) : FaultR := lookQ (p0 s) s
theorem end_eq (a b : Nat) (at' len : Nat) : (bif decide ((at' : Int) > (a : Int)) then
      bif (at' : Int) == (len : Int) then some (((0 : Int), (0 : Int), ())) else bif (at' : Int) == (len : Int) then some (((11 : Int), (at' : Int), ())) else some (((14 : Int), (at' : Int), ()))
    else bif (at' : Int) == (len : Int) then some (((11 : Int), (at' : Int), ())) else some (((14 : Int), (at' : Int), ()))) = some (endR (a < at') at' len) := by
  unfold endR
  by_cases h1 : at' = len
  · have e : ((at' : Int) == (len : Int)) = true := by simp [h1]
    rw [e]
    by_cases h2 : a < at'
    · rw [bif_pos (by omega), if_pos ⟨h2, h1⟩]; rfl
    · rw [bif_neg (by omega), if_neg (fun h => h2 h.1), if_pos h1]; rfl
  · have e : ((at' : Int) == (len : Int)) = false := by
      have : ¬ (at' : Int) = (len : Int) := by omega
      simpa using this
    rw [e, if_neg (fun h => h1 h.2), if_neg h1]
    simp only [cond_false]
    cases decide ((at' : Int) > (a : Int)) <;> rfl
theorem look_tail (n : Nat) (s : List UInt8) (hs : s.length < 4000000000000000000) (hn : s.length < n) (q : Nat) (hq : q ≤ s.length) :
    F.dec_look.L2_dec_look_1 n
        (fun e4_3 e4_b0_0 e4_b1_0 e4_b1_1 e4_b2_0 =>
          bif decide (e4_b2_0 > e4_3) then
            (sub e4_b0_0 e4_b2_0 (e4_b0_0.length : Int)).bind fun x5 =>
              (F.strings_HasPrefix n x5 ([46])).bind fun y6 =>
                bif y6 then
                  F.dec_look.L2_dec_look_1 n
                    (fun e7_3 e7_b0_0 e7_b1_0 e7_b1_1 e7_b2_0 =>
                      bif decide (e7_b2_0 > e7_3) then
                        bif e7_b2_0 == (e7_b0_0.length : Int) then
                          some (((0 : Int), (0 : Int), ()))
                        else
                        bif e7_b2_0 == (e7_b0_0.length : Int) then
                          some (((11 : Int), e7_b2_0, ()))
                        else
                          some (((14 : Int), e7_b2_0, ()))
                      else
                      bif e7_b2_0 == (e7_b0_0.length : Int) then
                        some (((11 : Int), e7_b2_0, ()))
                      else
                        some (((14 : Int), e7_b2_0, ()))) n (IntKind.wrap .i64 (e4_b2_0 + (1 : Int))) e4_b0_0 e4_b1_0 e4_b1_1 (IntKind.wrap .i64 (e4_b2_0 + (1 : Int)))
                else
                bif decide (e4_b2_0 > e4_3) then
                  bif e4_b2_0 == (e4_b0_0.length : Int) then
                    some (((0 : Int), (0 : Int), ()))
                  else
                  bif e4_b2_0 == (e4_b0_0.length : Int) then
                    some (((11 : Int), e4_b2_0, ()))
                  else
                    some (((14 : Int), e4_b2_0, ()))
                else
                bif e4_b2_0 == (e4_b0_0.length : Int) then
                  some (((11 : Int), e4_b2_0, ()))
                else
                  some (((14 : Int), e4_b2_0, ()))
          else
          bif decide (e4_b2_0 > e4_3) then
            bif e4_b2_0 == (e4_b0_0.length : Int) then
              some (((0 : Int), (0 : Int), ()))
            else
            bif e4_b2_0 == (e4_b0_0.length : Int) then
              some (((11 : Int), e4_b2_0, ()))
            else
              some (((14 : Int), e4_b2_0, ()))
          else
          bif e4_b2_0 == (e4_b0_0.length : Int) then
            some (((11 : Int), e4_b2_0, ()))
          else
            some (((14 : Int), e4_b2_0, ()))) n (q : Int) s (0 : Int) (0 : Int) (q : Int)
    = some (lookQ q s) := by
  rw [digits_loop n _ _ _ _ _ s (by omega) (s.drop q) q n rfl hq (by simp; omega)]
  have hkl : p1q q s ≤ s.length := p1_le hq
  show (bif decide (((p1q q s : Nat) : Int) > (q : Int)) then _ else _) = _
  unfold lookQ
  have hk3 : p3q q s = p1q q s + 1 + (tw (s.drop (p1q q s + 1))).length := rfl
  have hsh : q + (tw (s.drop q)).length = p1q q s := rfl
  simp only [hsh]
  generalize p3q q s = k3 at hk3 ⊢
  clear hsh
  generalize p1q q s = k at hkl hk3 ⊢
  subst hk3
  have hE := end_eq q 0 k s.length
  rw [hE]
  by_cases h1 : q < k
  · rw [bif_pos (by omega)]
    have hsub : sub s (k : Int) (s.length : Int) = some (s.drop k) := by
      have := sub_nat s k s.length hkl (Nat.le_refl _)
      rw [List.take_length] at this
      exact this
    rw [hsub, some_bind', hasPrefix_one, some_bind']
    by_cases h2 : (s.drop k).head? = some 46
    · have hlt : k < s.length := by
        cases e : s.drop k with
        | nil => rw [e] at h2; simp at h2
        | cons b r =>
          have := congrArg List.length e
          simp at this
          omega
      rw [decide_eq_true h2, cond_true, if_pos ⟨h1, h2⟩, wrap_succ (by omega), digits_loop n _ _ _ _ _ s (by omega) (s.drop (k + 1)) (k + 1) n rfl (by omega) (by simp; omega)]
      exact end_eq (k + 1) 0 _ s.length
    · rw [decide_eq_false h2, cond_false, if_neg (fun h => h2 h.2)]
  · rw [bif_neg (by omega), if_neg (fun h => h1 h.1)]
theorem look_eq (n : Nat) (s : List UInt8) (hs : s.length < 4000000000000000000) (hn : s.length < n) : F.dec_look n s = some (lookR s) := by
  unfold F.dec_look
  rw [hasPrefix_one, some_bind']
  by_cases h : s.head? = some 45
  · have hp : p0 s = 1 := by unfold p0; rw [if_pos h]
    rw [decide_eq_true h, cond_true]
    have hq : 1 ≤ s.length := by have := p0_le s; omega
    have := look_tail n s hs hn 1 hq
    refine this.trans ?_
    unfold lookR
    rw [hp]
  · have hp : p0 s = 0 := by unfold p0; rw [if_neg h]
    rw [decide_eq_false h, cond_false]
    have := look_tail n s hs hn 0 (by omega)
    refine this.trans ?_
    unfold lookR
    rw [hp]
end Go.AM
