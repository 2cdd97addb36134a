/- Part 4 of a proof by the abstract machine. -/
import Derived.Test.YtonhplejlfnkoaaGreatDoorQ3
import Derived.Shelf.Strings.Builder1
import Derived.Shelf.Strings.Builder2
import Derived.Shelf.Strings.OnBuilder
import Derived.Shelf.Strings.Trim
import Derived.Shelf.Small.Utf8
import Derived.Shelf.Small.Bits
import Derived.Shelf.Small.Strs
import Derived.Shelf.Small.Wraps
import Derived.Shelf.Strings.BuilderF
import Derived.Shelf.Strings.BuilderK
import Derived.Shelf.Utf8.RuneCount
import Derived.Shelf.Strings.Builder2Cap
import Derived.Shelf.Strconv.Atoi
import Derived.Shelf.Strconv.Itoa0
import Derived.Shelf.Strconv.Itoa1
import Derived.Shelf.LaysM
import Derived.Shelf.Strconv.Itoa2
import Derived.Shelf.Strconv.Itoa3
import Derived.Shelf.Strconv.AtoiErrFast
import Derived.Shelf.Strconv.ParseIntEmpty
import Derived.Shelf.Strconv.AtoiFail
import Derived.Shelf.Strconv.Clone
import Derived.Shelf.Strconv.SyntaxError
import Derived.Shelf.LaysC
import Derived.Shelf.Strconv.ToError
import Derived.Shelf.Strconv.Lower
import Derived.Shelf.Strconv.ParseUint10
import Derived.Shelf.Strconv.ParseUint10Empty
import Derived.Shelf.Strconv.ParseUint10Any
import Derived.Shelf.Strconv.ParseInt10
import Derived.Shelf.Strconv.AtoiLong
import Derived.Shelf.Strconv.AtoiInnerAll
import Derived.Shelf.Strconv.RangeError
import Derived.Shelf.Strconv.ToErrorRange
import Derived.Shelf.Strconv.AtoiAll
import Derived.Shelf.Strconv.ErrVarAll
import Derived.Shelf.Strings.Search1
import Derived.Shelf.Strings.Search2
import Derived.Shelf.Strings.Search3
import Derived.Shelf.Strings.Cut
import Derived.Shelf.Strings.Count
import Derived.Shelf.Strings.Shaped
import Derived.Shelf.Strings.Prefix
import Derived.Shelf.Strings.Split
import Derived.Shelf.Strings.Runes
import Derived.Shelf.Strings.AsciiSet
import Derived.Shelf.Bits.Mul64
import Derived.Shelf.Strings.Repeat
import Derived.Shelf.Unicode.DecodeSlow
import Derived.Shelf.Strings.BuilderCap
import Derived.Shelf.SlGeneric
import Derived.Ground.SlsfProg
import Derived.Shelf.SlSortCmp.WholeK
import Derived.Test.YtonhplejlfnkoaaGreatDoorProg
import Derived.Lib.IndexBytes
import Derived.Lib.Walk
import Derived.WalkKit
import Derived.BigCall
import Derived.BigGuard
import Derived.Deep.RegionHeld2
import Derived.LoopN
import Derived.Lib.Builder
import Derived.KernelRfl
import Derived.Test.YtonhplejlfnkoaaGreatDoorRows
import Derived.Shelf.Spec.BitsCarry
import Derived.Lib.ItoaNum
import Derived.Lib.ItoaLen
import Derived.Lib.AtoiAll
import Derived.Lib.TrimByte
set_option linter.unusedVariables false
namespace Go.AM
abbrev Z0 : Type := List UInt8
abbrev Z1 : Type := Nat × Nat
abbrev Z2 : Type := Nat × List (UInt8)
abbrev Z3 : Type := List (UInt8)
abbrev Z4 : Type := (Bool) × (Int) × (Int)
abbrev Z5 : Type := List (Z4)
abbrev Z6 : Type := (Z0) × (Z0)
abbrev Z7 : Type := List (Z6)
abbrev Z8 : Type := (Z0) × (Int) × (Z5) × (Int) × (Z7) × (Int)
abbrev Z9 : Type := List (Z8)
abbrev Z10 : Type := (Int) × (Int) × Unit
abbrev Z11 : Type := (Z0) × (Int) × (Z5) × (Int) × (Z7) × (Int) × Unit
abbrev Z12 : Type := (Bool) × (Int) × (Int) × Unit
abbrev Z13 : Type := List (Z0)
abbrev Z14 : Type := (Z0) × (Unit) × (Z0) × (Unit) × (Z0) × (Unit) × Unit
abbrev Z15 : Type := Nat × List (Z6)
abbrev Z16 : Type := (Z0) × (Z0) × (Z0) × (Z0) × (Z0) × (Z0) × Unit
abbrev Z17 : Type := (Z0) × (Z0) × Unit
noncomputable def F.stringslite_Cut (n : Nat) (a0 : Z0) (a1 : Z0) : Option ((Z0) × (Z0) × (Bool) × Unit) :=
 (O.index1 n a0 a1).bind fun y1 =>
  bif decide (y1 ≥ (0 : Int)) then
   (sub a0 (0 : Int) y1).bind fun x2 =>
    (sub a0 (IntKind.wrap .i64 (y1 + (a1.length : Int))) (a0.length : Int)).bind fun x3 =>
     some ((x2, x3, true, ()))
  else
   some ((a0, [], false, ()))
noncomputable def F.strings_Cut (n : Nat) (a0 : Z0) (a1 : Z0) : Option ((Z0) × (Z0) × (Bool) × Unit) :=
 (F.stringslite_Cut n a0 a1).bind fun y1 =>
  some ((y1.1, y1.2.1, y1.2.2.1, ()))
noncomputable def F.class_may (n : Nat) (a0 : Int) : Option (Bool) :=
 bif decide (a0 ≥ (1 : Int)) then
  some (decide (a0 ≤ (4 : Int)))
 else
  some (false)
noncomputable def F.class_between (n : Nat) (a0 : Int) (a1 : Int) (a2 : Int) : Option (Bool) :=
 bif decide (a0 ≥ a1) then
  some (decide (a0 ≤ a2))
 else
  some (false)
noncomputable def F.class_Is (n : Nat) (a0 : Int) (a1 : Int) : Option (Bool) :=
 bif a0 == (3 : Int) then
  (F.class_between n a1 (33 : Int) (126 : Int)).bind fun y1 =>
   bif y1 then
    bif !(a1 == (44 : Int)) then
     some (!(a1 == (124 : Int)))
    else
     some (false)
   else
    some (false)
 else
 bif a0 == (2 : Int) then
  bif a1 == (47 : Int) then
   some (true)
  else
   (F.class_between n a1 (65 : Int) (90 : Int)).bind fun y2 =>
    bif y2 then
     some (true)
    else
     (F.class_between n a1 (97 : Int) (122 : Int)).bind fun y3 =>
      bif y3 then
       some (true)
      else
      bif a1 == (95 : Int) then
       some (true)
      else
      bif a1 == (46 : Int) then
       some (true)
      else
      bif a1 == (45 : Int) then
       some (true)
      else
       (F.class_between n a1 (48 : Int) (57 : Int)).bind fun y4 =>
        some (y4)
 else
 bif a0 == (1 : Int) then
  (F.class_between n a1 (65 : Int) (90 : Int)).bind fun y5 =>
   bif y5 then
    some (true)
   else
    (F.class_between n a1 (97 : Int) (122 : Int)).bind fun y6 =>
     bif y6 then
      some (true)
     else
     bif a1 == (95 : Int) then
      some (true)
     else
     bif a1 == (46 : Int) then
      some (true)
     else
     bif a1 == (45 : Int) then
      some (true)
     else
      (F.class_between n a1 (48 : Int) (57 : Int)).bind fun y7 =>
       some (y7)
 else
 bif a0 == (4 : Int) then
  (F.class_between n a1 (48 : Int) (57 : Int)).bind fun y8 =>
   some (y8)
 else
  some (false)
noncomputable def F.class_Bad.L4.step {X : Type} (n : Nat) (rec : Int → Z0 → Int → Int → Option X) (k0 : Unit → Option X) (kr : Int → Int → Option X) (v0 : Int) (v1 : Z0) (v11 : Int) (v12 : Int) : Option X :=
 bif decide (v12 < v11) then
  (idx v1 v12).bind fun x2 =>
   (F.class_Is n v0 ((x2).toNat)).bind fun y3 =>
    bif !y3 then
     kr v12 (0 : Int)
    else
     rec v0 v1 v11 (IntKind.wrap .i64 (v12 + (1 : Int)))
 else
  k0 ()
noncomputable def F.class_Bad.L4 {X : Type} (n : Nat) (k0 : Unit → Option X) (kr : Int → Int → Option X) : Nat → Int → Z0 → Int → Int → Option X
 | 0 => fun _ _ _ _ => none
 | m + 1 => fun v0 v1 v11 v12 => F.class_Bad.L4.step n (F.class_Bad.L4 n k0 kr m) k0 kr v0 v1 v11 v12
noncomputable def F.class_Bad (n : Nat) (a0 : Int) (a1 : Z0) : Option ((Int) × (Int) × Unit) :=
 (F.class_may n a0).bind fun y1 =>
  bif !y1 then
   some (((0 : Int), (1 : Int), ()))
  else
   F.class_Bad.L4 n
    (fun (_ : Unit) =>
     some (((-1 : Int), (0 : Int), ())))
    (fun e4 e5 =>
     some ((e4, e5, ()))) n a0 a1 (a1.length : Int) (0 : Int)
noncomputable def F.class_Text (n : Nat) (a0 : Int) (a1 : Z0) (a2 : Int) (a3 : Int) : Option (Z10) :=
 (F.class_Bad n a0 a1).bind fun y1 =>
  bif !(y1.2.1 == (0 : Int)) then
   some (((1 : Int), (0 : Int), ()))
  else
  bif decide (a2 < (0 : Int)) then
   some (((1 : Int), (0 : Int), ()))
  else
  bif decide (a3 < a2) then
   some (((1 : Int), (0 : Int), ()))
  else
  bif decide ((a1.length : Int) < a2) then
   some (((13 : Int), (a1.length : Int), ()))
  else
  bif decide ((a1.length : Int) > a3) then
   some (((12 : Int), a3, ()))
  else
  bif decide (y1.1 ≥ (0 : Int)) then
   some (((14 : Int), y1.1, ()))
  else
   some (((0 : Int), (0 : Int), ()))
noncomputable def F.statsd_fault (n : Nat) (a0 : Int) (a1 : Int) : Option ((Z11) × (Z10) × Unit) :=
 some ((([], (0 : Int), [], (0 : Int), [], (0 : Int), ()), (a0, a1, ()), ()))
noncomputable def F.dec_times (n : Nat) (a0 : Int) (a1 : Int) : Option ((Int) × (Bool) × Unit) :=
 (O.mul64 n a0 (10 : Int)).bind fun y1 =>
  (O.add64 n y1.2.1 a1 (0 : Int)).bind fun y2 =>
   bif y1.1 == (0 : Int) then
    some ((y2.1, y2.2.1 == (0 : Int), ()))
   else
    some ((y2.1, false, ()))
noncomputable def F.dec_Normal.L3.step {X : Type} (n : Nat) (rec : Bool → Int → Int → Bool → Int → Int → Option X) (k0 : Bool → Int → Int → Bool → Int → Int → Option X) (ab0 : Bool) (ab1 : Int) (ab2 : Int) (bb0 : Bool) (bb1 : Int) (bb2 : Int) : Option X :=
 bif (ab1.tmod (10 : Int)) == (0 : Int) then
  bif decide (ab2 < (18 : Int)) then
   rec ab0 (IntKind.wrap .u64 (ab1.tdiv (10 : Int))) (IntKind.wrap .i64 (ab2 + (1 : Int))) bb0 bb1 bb2
  else
   k0 ab0 ab1 ab2 bb0 bb1 bb2
 else
  k0 ab0 ab1 ab2 bb0 bb1 bb2
noncomputable def F.dec_Normal.L3 {X : Type} (n : Nat) (k0 : Bool → Int → Int → Bool → Int → Int → Option X) : Nat → Bool → Int → Int → Bool → Int → Int → Option X
 | 0 => fun _ _ _ _ _ _ => none
 | m + 1 => fun ab0 ab1 ab2 bb0 bb1 bb2 => F.dec_Normal.L3.step n (F.dec_Normal.L3 n k0 m) k0 ab0 ab1 ab2 bb0 bb1 bb2
noncomputable def F.dec_Normal.L5.step {X : Type} (n : Nat) (rec : Bool → Int → Int → Bool → Int → Int → Option X) (k2 : Bool → Int → Int → Bool → Int → Int → Option X) (kr : Int → Bool → Int → Int → Bool → Int → Int → Option X) (ab0 : Bool) (ab1 : Int) (ab2 : Int) (bb0 : Bool) (bb1 : Int) (bb2 : Int) : Option X :=
 bif decide (ab2 > (18 : Int)) then
  (F.dec_times n ab1 (0 : Int)).bind fun y2 =>
   bif !y2.2.1 then
    kr (10 : Int) ab0 ab1 ab2 false (0 : Int) (0 : Int)
   else
    rec ab0 y2.1 (IntKind.wrap .i64 (ab2 - (1 : Int))) bb0 bb1 bb2
 else
  k2 ab0 ab1 ab2 bb0 bb1 bb2
noncomputable def F.dec_Normal.L5 {X : Type} (n : Nat) (k2 : Bool → Int → Int → Bool → Int → Int → Option X) (kr : Int → Bool → Int → Int → Bool → Int → Int → Option X) : Nat → Bool → Int → Int → Bool → Int → Int → Option X
 | 0 => fun _ _ _ _ _ _ => none
 | m + 1 => fun ab0 ab1 ab2 bb0 bb1 bb2 => F.dec_Normal.L5.step n (F.dec_Normal.L5 n k2 kr m) k2 kr ab0 ab1 ab2 bb0 bb1 bb2
noncomputable def F.dec_Normal (n : Nat) (a0 : Z12) : Option ((Z12) × (Int) × Unit) :=
 bif a0.2.1 == (0 : Int) then
  some (((false, (0 : Int), (0 : Int), ()), (0 : Int), ()))
 else
  F.dec_Normal.L3 n
   (fun g0 g1 g2 h0 h1 h2 =>
    F.dec_Normal.L5 n
     (fun g0 g1 g2 h0 h1 h2 =>
      bif decide (g2 < (-18 : Int)) then
       some (((false, (0 : Int), (0 : Int), ()), (10 : Int), ()))
      else
       some (((g0, g1, g2, ()), (0 : Int), ())))
     (fun e3 g0 g1 g2 h0 h1 h2 =>
      some (((h0, h1, h2, ()), e3, ()))) n g0 g1 g2 h0 h1 h2) n a0.1 a0.2.1 a0.2.2.1 false (0 : Int) (0 : Int)
noncomputable def F.stringslite_HasPrefix (n : Nat) (a0 : Z0) (a1 : Z0) : Option (Bool) :=
 bif decide ((a0.length : Int) ≥ (a1.length : Int)) then
  (sub a0 (0 : Int) (a1.length : Int)).bind fun x1 =>
   some (x1 == a1)
 else
  some (false)
noncomputable def F.strings_HasPrefix (n : Nat) (a0 : Z0) (a1 : Z0) : Option (Bool) :=
 (F.stringslite_HasPrefix n a0 a1).bind fun y1 =>
  some (y1)
noncomputable def F.dec_look.L2_dec_look_1.step {X : Type} (n : Nat) (rec : Int → Z0 → Int → Int → Int → Option X) (k0 : Int → Z0 → Int → Int → Int → Option X) (v3 : Int) (ab0 : Z0) (bb0 : Int) (bb1 : Int) (cb0 : Int) : Option X :=
 bif decide (cb0 < (ab0.length : Int)) then
  (idx ab0 cb0).bind fun x2 =>
   bif decide (((x2).toNat) ≥ (48 : Int)) then
    (idx ab0 cb0).bind fun x3 =>
     bif decide (((x3).toNat) ≤ (57 : Int)) then
      rec v3 ab0 bb0 bb1 (IntKind.wrap .i64 (cb0 + (1 : Int)))
     else
      k0 v3 ab0 bb0 bb1 cb0
   else
    k0 v3 ab0 bb0 bb1 cb0
 else
  k0 v3 ab0 bb0 bb1 cb0
noncomputable def F.dec_look.L2_dec_look_1 {X : Type} (n : Nat) (k0 : Int → Z0 → Int → Int → Int → Option X) : Nat → Int → Z0 → Int → Int → Int → Option X
 | 0 => fun _ _ _ _ _ => none
 | m + 1 => fun v3 ab0 bb0 bb1 cb0 => F.dec_look.L2_dec_look_1.step n (F.dec_look.L2_dec_look_1 n k0 m) k0 v3 ab0 bb0 bb1 cb0
noncomputable def F.dec_look (n : Nat) (a0 : Z0) : Option (Z10) :=
 (F.strings_HasPrefix n a0 ([45])).bind fun y1 =>
  bif y1 then
   F.dec_look.L2_dec_look_1 n
    (fun e3 g0 h0 h1 i0 =>
     bif decide (i0 > e3) then
      (sub g0 i0 (g0.length : Int)).bind fun x5 =>
       (F.strings_HasPrefix n x5 ([46])).bind fun y6 =>
        bif y6 then
         F.dec_look.L2_dec_look_1 n
          (fun e3 g0 h0 h1 i0 =>
           bif decide (i0 > e3) then
            bif i0 == (g0.length : Int) then
             some (((0 : Int), (0 : Int), ()))
            else
            bif i0 == (g0.length : Int) then
             some (((11 : Int), i0, ()))
            else
             some (((14 : Int), i0, ()))
           else
           bif i0 == (g0.length : Int) then
            some (((11 : Int), i0, ()))
           else
            some (((14 : Int), i0, ()))) n (IntKind.wrap .i64 (i0 + (1 : Int))) g0 h0 h1 (IntKind.wrap .i64 (i0 + (1 : Int)))
        else
        bif decide (i0 > e3) then
         bif i0 == (g0.length : Int) then
          some (((0 : Int), (0 : Int), ()))
         else
         bif i0 == (g0.length : Int) then
          some (((11 : Int), i0, ()))
         else
          some (((14 : Int), i0, ()))
        else
        bif i0 == (g0.length : Int) then
         some (((11 : Int), i0, ()))
        else
         some (((14 : Int), i0, ()))
     else
     bif decide (i0 > e3) then
      bif i0 == (g0.length : Int) then
       some (((0 : Int), (0 : Int), ()))
      else
      bif i0 == (g0.length : Int) then
       some (((11 : Int), i0, ()))
      else
       some (((14 : Int), i0, ()))
     else
     bif i0 == (g0.length : Int) then
      some (((11 : Int), i0, ()))
     else
      some (((14 : Int), i0, ()))) n (1 : Int) a0 (0 : Int) (0 : Int) (1 : Int)
  else
   F.dec_look.L2_dec_look_1 n
    (fun e3 g0 h0 h1 i0 =>
     bif decide (i0 > e3) then
      (sub g0 i0 (g0.length : Int)).bind fun x9 =>
       (F.strings_HasPrefix n x9 ([46])).bind fun y10 =>
        bif y10 then
         F.dec_look.L2_dec_look_1 n
          (fun e3 g0 h0 h1 i0 =>
           bif decide (i0 > e3) then
            bif i0 == (g0.length : Int) then
             some (((0 : Int), (0 : Int), ()))
            else
            bif i0 == (g0.length : Int) then
             some (((11 : Int), i0, ()))
            else
             some (((14 : Int), i0, ()))
           else
           bif i0 == (g0.length : Int) then
            some (((11 : Int), i0, ()))
           else
            some (((14 : Int), i0, ()))) n (IntKind.wrap .i64 (i0 + (1 : Int))) g0 h0 h1 (IntKind.wrap .i64 (i0 + (1 : Int)))
        else
        bif decide (i0 > e3) then
         bif i0 == (g0.length : Int) then
          some (((0 : Int), (0 : Int), ()))
         else
         bif i0 == (g0.length : Int) then
          some (((11 : Int), i0, ()))
         else
          some (((14 : Int), i0, ()))
        else
        bif i0 == (g0.length : Int) then
         some (((11 : Int), i0, ()))
        else
         some (((14 : Int), i0, ()))
     else
     bif decide (i0 > e3) then
      bif i0 == (g0.length : Int) then
       some (((0 : Int), (0 : Int), ()))
      else
      bif i0 == (g0.length : Int) then
       some (((11 : Int), i0, ()))
      else
       some (((14 : Int), i0, ()))
     else
     bif i0 == (g0.length : Int) then
      some (((11 : Int), i0, ()))
     else
      some (((14 : Int), i0, ()))) n (0 : Int) a0 (0 : Int) (0 : Int) (0 : Int)
noncomputable def F.stringslite_CutPrefix (n : Nat) (a0 : Z0) (a1 : Z0) : Option ((Z0) × (Bool) × Unit) :=
 (F.stringslite_HasPrefix n a0 a1).bind fun y1 =>
  bif !y1 then
   some ((a0, false, ()))
  else
   (sub a0 (a1.length : Int) (a0.length : Int)).bind fun x2 =>
    some ((x2, true, ()))
noncomputable def F.strings_CutPrefix (n : Nat) (a0 : Z0) (a1 : Z0) : Option ((Z0) × (Bool) × Unit) :=
 (F.stringslite_CutPrefix n a0 a1).bind fun y1 =>
  some ((y1.1, y1.2.1, ()))
noncomputable def F.dec_Parse.L14.step {X : Type} (n : Nat) (rec : Z0 → Int → Int → Bool → Int → Int → Int → Int → Int → Int → Bool → Int → Int → Option X) (k0 : Bool → Int → Int → Int → Int → Int → Int → Bool → Int → Int → Option X) (v10 : Z0) (v66 : Int) (v67 : Int) (ab0 : Bool) (ab1 : Int) (ab2 : Int) (bb0 : Int) (bb1 : Int) (cb0 : Int) (cb1 : Int) (db0 : Bool) (db1 : Int) (db2 : Int) : Option X :=
 bif decide (v67 < v66) then
  (idx v10 v67).bind fun x7 =>
   (F.dec_times n db1 (IntKind.wrap .u64 (IntKind.wrap .u8 (((x7).toNat) - (48 : Int))))).bind fun y8 =>
    bif !y8.2.1 then
     k0 ab0 ab1 ab2 bb0 bb1 cb0 cb1 db0 (1 : Int) (-19 : Int)
    else
     rec v10 v66 (IntKind.wrap .i64 (v67 + (1 : Int))) ab0 ab1 ab2 bb0 bb1 cb0 cb1 db0 y8.1 db2
 else
  k0 ab0 ab1 ab2 bb0 bb1 cb0 cb1 db0 db1 db2
noncomputable def F.dec_Parse.L14 {X : Type} (n : Nat) (k0 : Bool → Int → Int → Int → Int → Int → Int → Bool → Int → Int → Option X) : Nat → Z0 → Int → Int → Bool → Int → Int → Int → Int → Int → Int → Bool → Int → Int → Option X
 | 0 => fun _ _ _ _ _ _ _ _ _ _ _ _ _ => none
 | m + 1 => fun v10 v66 v67 ab0 ab1 ab2 bb0 bb1 cb0 cb1 db0 db1 db2 => F.dec_Parse.L14.step n (F.dec_Parse.L14 n k0 m) k0 v10 v66 v67 ab0 ab1 ab2 bb0 bb1 cb0 cb1 db0 db1 db2
noncomputable def F.dec_Parse (n : Nat) (a0 : Z0) : Option ((Z12) × (Z10) × Unit) :=
 (F.dec_look n a0).bind fun y1 =>
  bif !((y1.1 == (0 : Int)) && (y1.2.1 == (0 : Int))) then
   some (((false, (0 : Int), (0 : Int), ()), (y1.1, y1.2.1, ()), ()))
  else
   (F.strings_CutPrefix n a0 ([45])).bind fun y2 =>
    (F.strings_Cut n y2.1 ([46])).bind fun y3 =>
     (O.trimR n y3.2.1 ([48])).bind fun y4 =>
      bif decide (y3.1.length + y4.length ≤ strMax) then
       (O.trimL n (y3.1 ++ y4) ([48])).bind fun y5 =>
        (O.trimR n y5 ([48])).bind fun y6 =>
         bif (IntKind.wrap .i64 (0 - (y4.length : Int))) == (0 : Int) then
          bif decide ((y6.length : Int) < (y5.length : Int)) then
           F.dec_Parse.L14 n
            (fun g0 g1 g2 h0 h1 i0 i1 j0 j1 j2 =>
             (F.dec_Normal n (j0, j1, j2, ())).bind fun y10 =>
              bif !(y10.2.1 == (0 : Int)) then
               some (((false, (0 : Int), (0 : Int), ()), (y10.2.1, (0 : Int), ()), ()))
              else
               some (((y10.1.1, y10.1.2.1, y10.1.2.2.1, ()), ((0 : Int), (0 : Int), ()), ()))) n y6 (y6.length : Int) (0 : Int) false (0 : Int) (0 : Int) (0 : Int) (0 : Int) y1.1 y1.2.1 y2.2.1 (0 : Int) (IntKind.wrap .i64 ((y5.length : Int) - (y6.length : Int)))
          else
           F.dec_Parse.L14 n
            (fun g0 g1 g2 h0 h1 i0 i1 j0 j1 j2 =>
             (F.dec_Normal n (j0, j1, j2, ())).bind fun y12 =>
              bif !(y12.2.1 == (0 : Int)) then
               some (((false, (0 : Int), (0 : Int), ()), (y12.2.1, (0 : Int), ()), ()))
              else
               some (((y12.1.1, y12.1.2.1, y12.1.2.2.1, ()), ((0 : Int), (0 : Int), ()), ()))) n y5 (y5.length : Int) (0 : Int) false (0 : Int) (0 : Int) (0 : Int) (0 : Int) y1.1 y1.2.1 y2.2.1 (0 : Int) (IntKind.wrap .i64 (0 - (y4.length : Int)))
         else
          F.dec_Parse.L14 n
           (fun g0 g1 g2 h0 h1 i0 i1 j0 j1 j2 =>
            (F.dec_Normal n (j0, j1, j2, ())).bind fun y14 =>
             bif !(y14.2.1 == (0 : Int)) then
              some (((false, (0 : Int), (0 : Int), ()), (y14.2.1, (0 : Int), ()), ()))
             else
              some (((y14.1.1, y14.1.2.1, y14.1.2.2.1, ()), ((0 : Int), (0 : Int), ()), ()))) n y5 (y5.length : Int) (0 : Int) false (0 : Int) (0 : Int) (0 : Int) (0 : Int) y1.1 y1.2.1 y2.2.1 (0 : Int) (IntKind.wrap .i64 (0 - (y4.length : Int)))
      else
       none
noncomputable def F.statsd_Kind.L2.step {X : Type} (n : Nat) (rec : Z0 → Int → Option X) (k0 : Unit → Option X) (kr : Int → Int → Option X) (v0 : Z0) (v4 : Int) : Option X :=
 bif decide (v4 ≤ (5 : Int)) then
  (O.word n v4).bind fun y1 =>
   bif y1.2.1 == (0 : Int) then
    bif y1.1 == v0 then
     kr v4 (0 : Int)
    else
     rec v0 (IntKind.wrap .i64 (v4 + (1 : Int)))
   else
    rec v0 (IntKind.wrap .i64 (v4 + (1 : Int)))
 else
  k0 ()
noncomputable def F.statsd_Kind.L2 {X : Type} (n : Nat) (k0 : Unit → Option X) (kr : Int → Int → Option X) : Nat → Z0 → Int → Option X
 | 0 => fun _ _ => none
 | m + 1 => fun v0 v4 => F.statsd_Kind.L2.step n (F.statsd_Kind.L2 n k0 kr m) k0 kr v0 v4
noncomputable def F.statsd_Kind (n : Nat) (a0 : Z0) : Option ((Int) × (Int) × Unit) :=
 F.statsd_Kind.L2 n
  (fun (_ : Unit) =>
   some (((0 : Int), (16 : Int), ())))
  (fun e2 e3 =>
   some ((e2, e3, ()))) n a0 (1 : Int)
noncomputable def F.num_fault (n : Nat) (a0 : Int) (a1 : Int) : Option ((Int) × (Z10) × Unit) :=
 some (((0 : Int), (a0, a1, ()), ()))
noncomputable def F.num_Rate.L5.step {X : Type} (n : Nat) (rec : Z0 → Z10 → Int → Int → Int → Int → Int → Option X) (k0 : Z0 → Int → Int → Int → Int → Option X) (v0 : Z0) (v16 : Z10) (v17 : Int) (ab0 : Int) (ab1 : Int) (bb0 : Int) (bb1 : Int) : Option X :=
 bif decide (v17 < (2 : Int)) then
  bif v17 == (0 : Int) then
   bif v17 == (v0.length : Int) then
    bif v17 == (0 : Int) then
     k0 v0 ab0 ab1 (13 : Int) (0 : Int)
    else
    bif decide (v17 ≥ (v0.length : Int)) then
     k0 v0 ab0 ab1 (11 : Int) v17
    else
     (idx v0 v17).bind fun x1 =>
      bif !(((x1).toNat) == v16.1) then
       k0 v0 ab0 ab1 (11 : Int) v17
      else
       rec v0 (v16.1, v16.2.1, ()) (IntKind.wrap .i64 (v17 + (1 : Int))) ab0 ab1 bb0 bb1
   else
   bif decide (v17 ≥ (v0.length : Int)) then
    k0 v0 ab0 ab1 (11 : Int) v17
   else
    (idx v0 v17).bind fun x2 =>
     bif !(((x2).toNat) == v16.1) then
      k0 v0 ab0 ab1 (11 : Int) v17
     else
      rec v0 (v16.1, v16.2.1, ()) (IntKind.wrap .i64 (v17 + (1 : Int))) ab0 ab1 bb0 bb1
  else
  bif v17 == (1 : Int) then
   bif v17 == (v0.length : Int) then
    bif v17 == (0 : Int) then
     k0 v0 ab0 ab1 (13 : Int) (0 : Int)
    else
    bif decide (v17 ≥ (v0.length : Int)) then
     k0 v0 ab0 ab1 (11 : Int) v17
    else
     (idx v0 v17).bind fun x3 =>
      bif !(((x3).toNat) == v16.2.1) then
       k0 v0 ab0 ab1 (11 : Int) v17
      else
       rec v0 (v16.1, v16.2.1, ()) (IntKind.wrap .i64 (v17 + (1 : Int))) ab0 ab1 bb0 bb1
   else
   bif decide (v17 ≥ (v0.length : Int)) then
    k0 v0 ab0 ab1 (11 : Int) v17
   else
    (idx v0 v17).bind fun x4 =>
     bif !(((x4).toNat) == v16.2.1) then
      k0 v0 ab0 ab1 (11 : Int) v17
     else
      rec v0 (v16.1, v16.2.1, ()) (IntKind.wrap .i64 (v17 + (1 : Int))) ab0 ab1 bb0 bb1
  else
   none
 else
  k0 v0 ab0 ab1 bb0 bb1
noncomputable def F.num_Rate.L5 {X : Type} (n : Nat) (k0 : Z0 → Int → Int → Int → Int → Option X) : Nat → Z0 → Z10 → Int → Int → Int → Int → Int → Option X
 | 0 => fun _ _ _ _ _ _ _ => none
 | m + 1 => fun v0 v16 v17 ab0 ab1 bb0 bb1 => F.num_Rate.L5.step n (F.num_Rate.L5 n k0 m) k0 v0 v16 v17 ab0 ab1 bb0 bb1
noncomputable def F.num_Rate.L23.step {X : Type} (n : Nat) (rec : Z0 → Int → Int → Int → Int → Int → Int → Int → Int → Option X) (k3 : Int → Int → Int → Int → Int → Int → Int → Option X) (v7 : Z0) (v81 : Int) (ab0 : Int) (ab1 : Int) (bb0 : Int) (bb1 : Int) (cb0 : Int) (cb1 : Int) (db0 : Int) : Option X :=
 bif decide (v81 < (6 : Int)) then
  bif decide (v81 < (v7.length : Int)) then
   (idx v7 v81).bind fun x11 =>
    rec v7 (IntKind.wrap .i64 (v81 + (1 : Int))) ab0 ab1 bb0 bb1 cb0 cb1 (IntKind.wrap .i64 ((IntKind.wrap .i64 ((10 : Int) * db0)) + (IntKind.wrap .i64 (IntKind.wrap .u8 (((x11).toNat) - (48 : Int))))))
  else
   rec v7 (IntKind.wrap .i64 (v81 + (1 : Int))) ab0 ab1 bb0 bb1 cb0 cb1 (IntKind.wrap .i64 ((IntKind.wrap .i64 ((10 : Int) * db0)) + (0 : Int)))
 else
  k3 ab0 ab1 bb0 bb1 cb0 cb1 db0
noncomputable def F.num_Rate.L23 {X : Type} (n : Nat) (k3 : Int → Int → Int → Int → Int → Int → Int → Option X) : Nat → Z0 → Int → Int → Int → Int → Int → Int → Int → Int → Option X
 | 0 => fun _ _ _ _ _ _ _ _ _ => none
 | m + 1 => fun v7 v81 ab0 ab1 bb0 bb1 cb0 cb1 db0 => F.num_Rate.L23.step n (F.num_Rate.L23 n k3 m) k3 v7 v81 ab0 ab1 bb0 bb1 cb0 cb1 db0
noncomputable def F.num_Rate (n : Nat) (a0 : Z0) : Option ((Int) × (Z10) × Unit) :=
 bif a0 == ([49]) then
  some (((1000000 : Int), ((0 : Int), (0 : Int), ()), ()))
 else
  F.num_Rate.L5 n
   (fun e0 g0 g1 h0 h1 =>
    bif !((h0 == (0 : Int)) && (h1 == (0 : Int))) then
     (F.num_fault n h0 h1).bind fun y6 =>
      some ((y6.1, (y6.2.1.1, y6.2.1.2.1, ()), ()))
    else
     (sub e0 (2 : Int) (e0.length : Int)).bind fun x7 =>
      (F.class_Text n (4 : Int) x7 (1 : Int) (IntKind.wrap .i64 ((x7.length : Int) + (1 : Int)))).bind fun y8 =>
       bif !((y8.1 == (0 : Int)) && (y8.2.1 == (0 : Int))) then
        (F.num_fault n y8.1 (IntKind.wrap .i64 ((2 : Int) + y8.2.1))).bind fun y9 =>
         some ((y9.1, (y9.2.1.1, y9.2.1.2.1, ()), ()))
       else
       bif decide ((x7.length : Int) > (6 : Int)) then
        (F.num_fault n (12 : Int) (8 : Int)).bind fun y10 =>
         some ((y10.1, (y10.2.1.1, y10.2.1.2.1, ()), ()))
       else
        F.num_Rate.L23 n
         (fun g0 g1 h0 h1 i0 i1 j0 =>
          bif j0 == (0 : Int) then
           (F.num_fault n (10 : Int) (0 : Int)).bind fun y13 =>
            some ((y13.1, (y13.2.1.1, y13.2.1.2.1, ()), ()))
          else
           some ((j0, ((0 : Int), (0 : Int), ()), ()))) n x7 (0 : Int) g0 g1 h0 h1 y8.1 y8.2.1 (0 : Int)) n a0 ((48 : Int), (46 : Int), ()) (0 : Int) (0 : Int) (0 : Int) (0 : Int) (0 : Int)
noncomputable def F.statsd_Parse.C30 {X : Type} (n : Nat) (kr : Z0 → Z0 → Int → Z5 → Int → Z7 → Int → Int → Int → Option X) (kn : Bool → Z0 → Z0 → Int → Z5 → Int → Z7 → Int → Int → Int → Int → Z0 → Int → Z5 → Int → Z7 → Int → Nat → Nat → Nat → Nat → Option X) (c9 : Bool) (c19 : Int) (c141 : Bool) (ab0 : Z0) (bb0 : Z0) (bb1 : Int) (bb2 : Z5) (bb3 : Int) (bb4 : Z7) (bb5 : Int) (cb0 : Int) (cb1 : Int) (db0 : Int) (hb0 : Z0) (hb1 : Int) (hb2 : Z5) (hb3 : Int) (hb4 : Z7) (hb5 : Int) (ck0 : Nat) (ck1 : Nat) (ck2 : Nat) (ck3 : Nat) : Option X :=
 bif c141 then
  (F.statsd_fault n (18 : Int) c19).bind fun y24 =>
   kr ab0 y24.1.1 y24.1.2.1 y24.1.2.2.1 y24.1.2.2.2.1 y24.1.2.2.2.2.1 y24.1.2.2.2.2.2.1 y24.2.1.1 y24.2.1.2.1
 else
  kn c9 ab0 bb0 bb1 bb2 bb3 bb4 bb5 cb0 cb1 db0 hb0 hb1 hb2 hb3 hb4 hb5 ck0 ck1 ck2 ck3
noncomputable def F.statsd_Parse.C31 {X : Type} (n : Nat) (kr : Z0 → Z0 → Int → Z5 → Int → Z7 → Int → Int → Int → Option X) (c9 : Bool) (ab0 : Z0) (bb0 : Z0) (bb1 : Int) (bb2 : Z5) (bb3 : Int) (bb4 : Z7) (bb5 : Int) (cb0 : Int) (cb1 : Int) (db0 : Int) (hb0 : Z0) (hb1 : Int) (hb2 : Z5) (hb3 : Int) (hb4 : Z7) (hb5 : Int) (ck0 : Nat) (ck1 : Nat) (ck2 : Nat) (ck3 : Nat) : Option X :=
 bif c9 then
  (F.statsd_fault n (11 : Int) (IntKind.wrap .i64 (db0 - (1 : Int)))).bind fun y28 =>
   kr ab0 y28.1.1 y28.1.2.1 y28.1.2.2.1 y28.1.2.2.2.1 y28.1.2.2.2.2.1 y28.1.2.2.2.2.2.1 y28.2.1.1 y28.2.1.2.1
 else
  kr ab0 hb0 hb1 hb2 hb3 hb4 hb5 (0 : Int) (0 : Int)
noncomputable def F.statsd_Parse.C28 {X : Type} (n : Nat) (kr : Z0 → Z0 → Int → Z5 → Int → Z7 → Int → Int → Int → Option X) (c9 : Bool) (c16 : Int) (c18 : Z0) (c19 : Int) (ab0 : Z0) (bb0 : Z0) (bb1 : Int) (bb2 : Z5) (bb3 : Int) (bb4 : Z7) (bb5 : Int) (cb0 : Int) (cb1 : Int) (db0 : Int) (hb0 : Z0) (hb1 : Int) (hb2 : Z5) (hb3 : Int) (hb4 : Z7) (hb5 : Int) (ib0 : Bool) (ib1 : Int) (ib2 : Int) (jb0 : Int) (jb1 : Int) (ck0 : Nat) (ck1 : Nat) (ck2 : Nat) (ck3 : Nat) : Option X :=
 (F.num_Rate n c18).bind fun y36 =>
  bif !((y36.2.1.1 == (0 : Int)) && (y36.2.1.2.1 == (0 : Int))) then
   F.statsd_Parse.C30 n
    (fun g0 h0 h1 h2 h3 h4 h5 i0 i1 =>
     kr g0 h0 h1 h2 h3 h4 h5 i0 i1)
    (fun e9 g0 h0 h1 h2 h3 h4 h5 i0 i1 j0 l0 l1 l2 l3 l4 l5 ek0 ek1 ek2 ek3 =>
     F.statsd_Parse.C31 n
      (fun g0 h0 h1 h2 h3 h4 h5 i0 i1 =>
       kr g0 h0 h1 h2 h3 h4 h5 i0 i1) e9 g0 h0 h1 h2 h3 h4 h5 i0 i1 j0 l0 l1 l2 l3 l4 l5 ek0 ek1 ek2 ek3) c9 c19 true ab0 bb0 bb1 bb2 bb3 bb4 bb5 cb0 cb1 db0 hb0 hb1 hb2 y36.1 hb4 hb5 ck0 ck1 ck2 ck3
  else
  bif c16 == (2 : Int) then
   F.statsd_Parse.C30 n
    (fun g0 h0 h1 h2 h3 h4 h5 i0 i1 =>
     kr g0 h0 h1 h2 h3 h4 h5 i0 i1)
    (fun e9 g0 h0 h1 h2 h3 h4 h5 i0 i1 j0 l0 l1 l2 l3 l4 l5 ek0 ek1 ek2 ek3 =>
     F.statsd_Parse.C31 n
      (fun g0 h0 h1 h2 h3 h4 h5 i0 i1 =>
       kr g0 h0 h1 h2 h3 h4 h5 i0 i1) e9 g0 h0 h1 h2 h3 h4 h5 i0 i1 j0 l0 l1 l2 l3 l4 l5 ek0 ek1 ek2 ek3) c9 c19 (!(y36.1 == (1000000 : Int))) ab0 bb0 bb1 bb2 bb3 bb4 bb5 cb0 cb1 db0 hb0 hb1 hb2 y36.1 hb4 hb5 ck0 ck1 ck2 ck3
  else
   F.statsd_Parse.C30 n
    (fun g0 h0 h1 h2 h3 h4 h5 i0 i1 =>
     kr g0 h0 h1 h2 h3 h4 h5 i0 i1)
    (fun e9 g0 h0 h1 h2 h3 h4 h5 i0 i1 j0 l0 l1 l2 l3 l4 l5 ek0 ek1 ek2 ek3 =>
     F.statsd_Parse.C31 n
      (fun g0 h0 h1 h2 h3 h4 h5 i0 i1 =>
       kr g0 h0 h1 h2 h3 h4 h5 i0 i1) e9 g0 h0 h1 h2 h3 h4 h5 i0 i1 j0 l0 l1 l2 l3 l4 l5 ek0 ek1 ek2 ek3) c9 c19 false ab0 bb0 bb1 bb2 bb3 bb4 bb5 cb0 cb1 db0 hb0 hb1 hb2 y36.1 hb4 hb5 ck0 ck1 ck2 ck3
noncomputable def F.statsd_Parse.C21 {X : Type} (n : Nat) (kr : Z0 → Z0 → Int → Z5 → Int → Z7 → Int → Int → Int → Option X) (c7 : Z0) (c9 : Bool) (c16 : Int) (ab0 : Z0) (bb0 : Z0) (bb1 : Int) (bb2 : Z5) (bb3 : Int) (bb4 : Z7) (bb5 : Int) (cb0 : Int) (cb1 : Int) (db0 : Int) (hb0 : Z0) (hb1 : Int) (hb2 : Z5) (hb3 : Int) (hb4 : Z7) (hb5 : Int) (ib0 : Bool) (ib1 : Int) (ib2 : Int) (jb0 : Int) (jb1 : Int) (ck0 : Nat) (ck1 : Nat) (ck2 : Nat) (ck3 : Nat) : Option X :=
 bif !c9 then
  kr ab0 c7 c16 ([(ib0, ib1, ib2)]) hb3 hb4 hb5 (0 : Int) (0 : Int)
 else
  (sub ab0 db0 (ab0.length : Int)).bind fun x48 =>
   (F.strings_HasPrefix n x48 ([64])).bind fun y49 =>
    bif !y49 then
     (F.statsd_fault n (11 : Int) db0).bind fun y50 =>
      kr ab0 y50.1.1 y50.1.2.1 y50.1.2.2.1 y50.1.2.2.2.1 y50.1.2.2.2.2.1 y50.1.2.2.2.2.2.1 y50.2.1.1 y50.2.1.2.1
    else
     (sub ab0 (IntKind.wrap .i64 (db0 + (1 : Int))) (ab0.length : Int)).bind fun x51 =>
      (F.strings_Cut n x51 ([124])).bind fun y52 =>
       bif y52.2.2.1 then
        F.statsd_Parse.C28 n
         (fun g0 h0 h1 h2 h3 h4 h5 i0 i1 =>
          kr g0 h0 h1 h2 h3 h4 h5 i0 i1) y52.2.2.1 c16 y52.1 (IntKind.wrap .i64 (db0 + (1 : Int))) ab0 bb0 bb1 bb2 bb3 bb4 bb5 cb0 cb1 (IntKind.wrap .i64 ((IntKind.wrap .i64 ((IntKind.wrap .i64 (db0 + (1 : Int))) + (y52.1.length : Int))) + (1 : Int))) c7 c16 ([(ib0, ib1, ib2)]) hb3 hb4 hb5 ib0 ib1 ib2 jb0 jb1 ck0 ck1 1 ck3
       else
        F.statsd_Parse.C28 n
         (fun g0 h0 h1 h2 h3 h4 h5 i0 i1 =>
          kr g0 h0 h1 h2 h3 h4 h5 i0 i1) y52.2.2.1 c16 y52.1 (IntKind.wrap .i64 (db0 + (1 : Int))) ab0 bb0 bb1 bb2 bb3 bb4 bb5 cb0 cb1 (IntKind.wrap .i64 ((IntKind.wrap .i64 (db0 + (1 : Int))) + (y52.1.length : Int))) c7 c16 ([(ib0, ib1, ib2)]) hb3 hb4 hb5 ib0 ib1 ib2 jb0 jb1 ck0 ck1 1 ck3
noncomputable def F.statsd_Parse.C16 {X : Type} (n : Nat) (kr : Z0 → Z0 → Int → Z5 → Int → Z7 → Int → Int → Int → Option X) (c7 : Z0) (c9 : Bool) (c10 : Z0) (c11 : Int) (c14 : Z0) (c15 : Int) (ab0 : Z0) (bb0 : Z0) (bb1 : Int) (bb2 : Z5) (bb3 : Int) (bb4 : Z7) (bb5 : Int) (cb0 : Int) (cb1 : Int) (db0 : Int) (hb0 : Z0) (hb1 : Int) (hb2 : Z5) (hb3 : Int) (hb4 : Z7) (hb5 : Int) (ib0 : Bool) (ib1 : Int) (ib2 : Int) (jb0 : Int) (jb1 : Int) (ck0 : Nat) (ck1 : Nat) (ck2 : Nat) (ck3 : Nat) : Option X :=
 (F.statsd_Kind n c14).bind fun y57 =>
  bif !(y57.2.1 == (0 : Int)) then
   (F.statsd_fault n (16 : Int) c15).bind fun y58 =>
    kr ab0 y58.1.1 y58.1.2.1 y58.1.2.2.1 y58.1.2.2.2.1 y58.1.2.2.2.2.1 y58.1.2.2.2.2.2.1 y58.2.1.1 y58.2.1.2.1
  else
  bif y57.1 == (2 : Int) then
   (F.strings_HasPrefix n c10 ([45])).bind fun y59 =>
    bif y59 then
     (F.statsd_fault n (26 : Int) c11).bind fun y60 =>
      kr ab0 y60.1.1 y60.1.2.1 y60.1.2.2.1 y60.1.2.2.2.1 y60.1.2.2.2.2.1 y60.1.2.2.2.2.2.1 y60.2.1.1 y60.2.1.2.1
    else
     F.statsd_Parse.C21 n
      (fun g0 h0 h1 h2 h3 h4 h5 i0 i1 =>
       kr g0 h0 h1 h2 h3 h4 h5 i0 i1) c7 c9 y57.1 ab0 bb0 bb1 bb2 bb3 bb4 bb5 cb0 cb1 db0 hb0 hb1 hb2 hb3 hb4 hb5 ib0 ib1 ib2 jb0 jb1 ck0 ck1 ck2 ck3
  else
   F.statsd_Parse.C21 n
    (fun g0 h0 h1 h2 h3 h4 h5 i0 i1 =>
     kr g0 h0 h1 h2 h3 h4 h5 i0 i1) c7 c9 y57.1 ab0 bb0 bb1 bb2 bb3 bb4 bb5 cb0 cb1 db0 hb0 hb1 hb2 hb3 hb4 hb5 ib0 ib1 ib2 jb0 jb1 ck0 ck1 ck2 ck3
noncomputable def F.statsd_Parse.C10 {X : Type} (n : Nat) (kr : Z0 → Z0 → Int → Z5 → Int → Z7 → Int → Int → Int → Option X) (c7 : Z0) (c9 : Bool) (c10 : Z0) (c11 : Int) (ab0 : Z0) (bb0 : Z0) (bb1 : Int) (bb2 : Z5) (bb3 : Int) (bb4 : Z7) (bb5 : Int) (cb0 : Int) (cb1 : Int) (db0 : Int) (hb0 : Z0) (hb1 : Int) (hb2 : Z5) (hb3 : Int) (hb4 : Z7) (hb5 : Int) (ck0 : Nat) (ck1 : Nat) (ck2 : Nat) (ck3 : Nat) : Option X :=
 (F.dec_Parse n c10).bind fun y65 =>
  bif !((y65.2.1.1 == (0 : Int)) && (y65.2.1.2.1 == (0 : Int))) then
   (F.statsd_fault n (17 : Int) c11).bind fun y66 =>
    kr ab0 y66.1.1 y66.1.2.1 y66.1.2.2.1 y66.1.2.2.2.1 y66.1.2.2.2.2.1 y66.1.2.2.2.2.2.1 y66.2.1.1 y66.2.1.2.1
  else
  bif !c9 then
   (F.statsd_fault n (11 : Int) (ab0.length : Int)).bind fun y67 =>
    kr ab0 y67.1.1 y67.1.2.1 y67.1.2.2.1 y67.1.2.2.2.1 y67.1.2.2.2.2.1 y67.1.2.2.2.2.2.1 y67.2.1.1 y67.2.1.2.1
  else
   (sub ab0 db0 (ab0.length : Int)).bind fun x68 =>
    (F.strings_Cut n x68 ([124])).bind fun y69 =>
     bif y69.2.2.1 then
      F.statsd_Parse.C16 n
       (fun g0 h0 h1 h2 h3 h4 h5 i0 i1 =>
        kr g0 h0 h1 h2 h3 h4 h5 i0 i1) c7 y69.2.2.1 c10 c11 y69.1 db0 ab0 bb0 bb1 bb2 bb3 bb4 bb5 cb0 cb1 (IntKind.wrap .i64 ((IntKind.wrap .i64 (db0 + (y69.1.length : Int))) + (1 : Int))) hb0 hb1 hb2 hb3 hb4 hb5 y65.1.1 y65.1.2.1 y65.1.2.2.1 y65.2.1.1 y65.2.1.2.1 ck0 ck1 ck2 ck3
     else
      F.statsd_Parse.C16 n
       (fun g0 h0 h1 h2 h3 h4 h5 i0 i1 =>
        kr g0 h0 h1 h2 h3 h4 h5 i0 i1) c7 y69.2.2.1 c10 c11 y69.1 db0 ab0 bb0 bb1 bb2 bb3 bb4 bb5 cb0 cb1 (IntKind.wrap .i64 (db0 + (y69.1.length : Int))) hb0 hb1 hb2 hb3 hb4 hb5 y65.1.1 y65.1.2.1 y65.1.2.2.1 y65.2.1.1 y65.2.1.2.1 ck0 ck1 ck2 ck3
noncomputable def F.statsd_Parse.C5 {X : Type} (n : Nat) (kr : Z0 → Z0 → Int → Z5 → Int → Z7 → Int → Int → Int → Option X) (c7 : Z0) (c9 : Bool) (ab0 : Z0) (bb0 : Z0) (bb1 : Int) (bb2 : Z5) (bb3 : Int) (bb4 : Z7) (bb5 : Int) (cb0 : Int) (cb1 : Int) (db0 : Int) (hb0 : Z0) (hb1 : Int) (hb2 : Z5) (hb3 : Int) (hb4 : Z7) (hb5 : Int) (ck0 : Nat) (ck1 : Nat) (ck2 : Nat) (ck3 : Nat) : Option X :=
 (F.class_Text n (1 : Int) c7 (1 : Int) (200 : Int)).bind fun y74 =>
  bif !((y74.1 == (0 : Int)) && (y74.2.1 == (0 : Int))) then
   (F.statsd_fault n (15 : Int) (0 : Int)).bind fun y75 =>
    kr ab0 y75.1.1 y75.1.2.1 y75.1.2.2.1 y75.1.2.2.2.1 y75.1.2.2.2.2.1 y75.1.2.2.2.2.2.1 y75.2.1.1 y75.2.1.2.1
  else
  bif !c9 then
   (F.statsd_fault n (11 : Int) (ab0.length : Int)).bind fun y76 =>
    kr ab0 y76.1.1 y76.1.2.1 y76.1.2.2.1 y76.1.2.2.2.1 y76.1.2.2.2.2.1 y76.1.2.2.2.2.2.1 y76.2.1.1 y76.2.1.2.1
  else
   (sub ab0 db0 (ab0.length : Int)).bind fun x77 =>
    (F.strings_Cut n x77 ([124])).bind fun y78 =>
     bif y78.2.2.1 then
      F.statsd_Parse.C10 n
       (fun g0 h0 h1 h2 h3 h4 h5 i0 i1 =>
        kr g0 h0 h1 h2 h3 h4 h5 i0 i1) c7 y78.2.2.1 y78.1 db0 ab0 bb0 bb1 bb2 bb3 bb4 bb5 cb0 cb1 (IntKind.wrap .i64 ((IntKind.wrap .i64 (db0 + (y78.1.length : Int))) + (1 : Int))) hb0 hb1 hb2 hb3 hb4 hb5 ck0 ck1 ck2 ck3
     else
      F.statsd_Parse.C10 n
       (fun g0 h0 h1 h2 h3 h4 h5 i0 i1 =>
        kr g0 h0 h1 h2 h3 h4 h5 i0 i1) c7 y78.2.2.1 y78.1 db0 ab0 bb0 bb1 bb2 bb3 bb4 bb5 cb0 cb1 (IntKind.wrap .i64 (db0 + (y78.1.length : Int))) hb0 hb1 hb2 hb3 hb4 hb5 ck0 ck1 ck2 ck3
noncomputable def F.statsd_Parse (n : Nat) (a0 : Z0) : Option ((Z11) × (Z10) × Unit) :=
 (sub a0 (0 : Int) (a0.length : Int)).bind fun x1 =>
  (F.strings_Cut n x1 ([58])).bind fun y2 =>
   bif y2.2.2.1 then
    F.statsd_Parse.C5 n
     (fun g0 h0 h1 h2 h3 h4 h5 i0 i1 =>
      some (((h0, h1, h2, h3, h4, h5, ()), (i0, i1, ()), ()))) y2.1 y2.2.2.1 a0 [] (0 : Int) [] (0 : Int) [] (0 : Int) (0 : Int) (0 : Int) (IntKind.wrap .i64 ((IntKind.wrap .i64 ((0 : Int) + (y2.1.length : Int))) + (1 : Int))) [] (0 : Int) [] (1000000 : Int) [] (0 : Int) 0 0 0 0
   else
    F.statsd_Parse.C5 n
     (fun g0 h0 h1 h2 h3 h4 h5 i0 i1 =>
      some (((h0, h1, h2, h3, h4, h5, ()), (i0, i1, ()), ()))) y2.1 y2.2.2.1 a0 [] (0 : Int) [] (0 : Int) [] (0 : Int) (0 : Int) (0 : Int) (IntKind.wrap .i64 ((0 : Int) + (y2.1.length : Int))) [] (0 : Int) [] (1000000 : Int) [] (0 : Int) 0 0 0 0
noncomputable def F.slices_Clip_api_Tag_api_Tag (n : Nat) (a0 : Z7) : Option (Z7) :=
 bif (a0.length : Int) == (a0.length : Int) then
  (sub a0 (0 : Int) (a0.length : Int)).bind fun x1 =>
   some (x1)
 else
  none
noncomputable def F.tag_Normal.L5.step {X : Type} (n : Nat) (rec : Z1 → Int → Z1 → Int → Int → Z15 → Z15 → Z15 → Option X) (k0 : Z1 → Int → Z15 → Z15 → Z15 → Option X) (v3 : Z1) (v4 : Int) (v11 : Z1) (v12 : Int) (v13 : Int) (ab0 : Z15) (bb0 : Z15) (cb0 : Z15) : Option X :=
 bif decide (v13 < v12) then
  bif decide (0 ≤ v13) && decide (v13 < ((v11.2 : Nat) : Int)) then
   bif Nat.beq v11.1 cb0.1 then
    (idx cb0.2 v13).bind fun x1 =>
     bif v13 == (0 : Int) then
      bif decide (0 ≤ v4) && decide (v4 < ((v3.2 : Nat) : Int)) then
       bif Nat.beq v3.1 cb0.1 then
        (idx cb0.2 v4).bind fun x2 =>
         rec (v3.1, v3.2) (IntKind.wrap .i64 (v4 + (1 : Int))) (v11.1, v11.2) v12 (IntKind.wrap .i64 (v13 + (1 : Int))) (ab0.1, ab0.2) (bb0.1, bb0.2) (v3.1, upd cb0.2 (Int.toNat v4) (x1.1, x1.2))
       else
        none
      else
       none
     else
     bif decide (0 ≤ (IntKind.wrap .i64 (v4 - (1 : Int)))) && decide ((IntKind.wrap .i64 (v4 - (1 : Int))) < ((v3.2 : Nat) : Int)) then
      bif Nat.beq v3.1 cb0.1 then
       (idx cb0.2 (IntKind.wrap .i64 (v4 - (1 : Int)))).bind fun x3 =>
        bif !((x1.1 == x3.1) && (x1.2 == x3.2)) then
         bif decide (0 ≤ v4) && decide (v4 < ((v3.2 : Nat) : Int)) then
          bif Nat.beq v3.1 cb0.1 then
           (idx cb0.2 v4).bind fun x4 =>
            rec (v3.1, v3.2) (IntKind.wrap .i64 (v4 + (1 : Int))) (v11.1, v11.2) v12 (IntKind.wrap .i64 (v13 + (1 : Int))) (ab0.1, ab0.2) (bb0.1, bb0.2) (v3.1, upd cb0.2 (Int.toNat v4) (x1.1, x1.2))
          else
           none
         else
          none
        else
         rec (v3.1, v3.2) v4 (v11.1, v11.2) v12 (IntKind.wrap .i64 (v13 + (1 : Int))) (ab0.1, ab0.2) (bb0.1, bb0.2) (cb0.1, cb0.2)
      else
       none
     else
      none
   else
    none
  else
   none
 else
  k0 (v3.1, v3.2) v4 (ab0.1, ab0.2) (bb0.1, bb0.2) (cb0.1, cb0.2)
noncomputable def F.tag_Normal.L5 {X : Type} (n : Nat) (k0 : Z1 → Int → Z15 → Z15 → Z15 → Option X) : Nat → Z1 → Int → Z1 → Int → Int → Z15 → Z15 → Z15 → Option X
 | 0 => fun _ _ _ _ _ _ _ _ => none
 | m + 1 => fun v3 v4 v11 v12 v13 ab0 bb0 cb0 => F.tag_Normal.L5.step n (F.tag_Normal.L5 n k0 m) k0 v3 v4 v11 v12 v13 ab0 bb0 cb0
noncomputable def F.tag_Normal (n : Nat) (a0 : Z7) : Option (Z7) :=
 bif List.isEmpty a0 then
  both
   (
    bif Nat.beq (sortTags []).length 0 && Nat.blt 0 strMax then
     F.tag_Normal.L5 n
      (fun e3 e4 g0 h0 i0 =>
       bif Nat.beq e3.1 i0.1 then
        (sub i0.2 (0 : Int) e4).bind fun x6 =>
         (F.slices_Clip_api_Tag_api_Tag n x6).bind fun y7 =>
          some (y7)
       else
        none) n (1, 0) (0 : Int) (1, 0) (0 : Int) (0 : Int) (1, []) (1, []) (1, sortTags [])
    else
     none)
   (
    bif decide ((0 + a0.length) * 32 ≤ 2 ^ 46) && decide (0 < 32 ∧ 32 ≤ 2 ^ 20) then
     bif Nat.beq (sortTags ([] ++ a0)).length (([] ++ a0).length) && Nat.blt (([] ++ a0).length) strMax then
      F.tag_Normal.L5 n
       (fun e3 e4 g0 h0 i0 =>
        bif Nat.beq e3.1 i0.1 then
         (sub i0.2 (0 : Int) e4).bind fun x9 =>
          (F.slices_Clip_api_Tag_api_Tag n x9).bind fun y10 =>
           some (y10)
        else
         none) n (2, ([] ++ a0).length) (0 : Int) (2, ([] ++ a0).length) ((([] ++ a0).length : Nat) : Int) (0 : Int) (1, []) (1, []) (2, sortTags ([] ++ a0))
     else
      none
    else
     none)
 else
 bif decide ((0 + a0.length) * 32 ≤ 2 ^ 46) && decide (0 < 32 ∧ 32 ≤ 2 ^ 20) then
  bif Nat.beq (sortTags ([] ++ a0)).length (([] ++ a0).length) && Nat.blt (([] ++ a0).length) strMax then
   F.tag_Normal.L5 n
    (fun e3 e4 g0 h0 i0 =>
     bif Nat.beq e3.1 i0.1 then
      (sub i0.2 (0 : Int) e4).bind fun x12 =>
       (F.slices_Clip_api_Tag_api_Tag n x12).bind fun y13 =>
        some (y13)
     else
      none) n (2, ([] ++ a0).length) (0 : Int) (2, ([] ++ a0).length) ((([] ++ a0).length : Nat) : Int) (0 : Int) (1, []) (1, []) (2, sortTags ([] ++ a0))
  else
   none
 else
  none
noncomputable def F.dog_words (n : Nat) : Option (Z16) :=
 some (([], [99], [103], [109, 115], [104], [100], ()))
noncomputable def F.dog_Kind.L2.step {X : Type} (n : Nat) (rec : Z0 → Z16 → Int → Option X) (k0 : Unit → Option X) (kr : Int → Int → Option X) (v0 : Z0) (v6 : Z16) (v7 : Int) : Option X :=
 bif decide (v7 < (6 : Int)) then
  bif v7 == (0 : Int) then
   bif !(v6.1 == []) then
    bif v6.1 == v0 then
     kr v7 (0 : Int)
    else
     rec v0 (v6.1, v6.2.1, v6.2.2.1, v6.2.2.2.1, v6.2.2.2.2.1, v6.2.2.2.2.2.1, ()) (IntKind.wrap .i64 (v7 + (1 : Int)))
   else
    rec v0 (v6.1, v6.2.1, v6.2.2.1, v6.2.2.2.1, v6.2.2.2.2.1, v6.2.2.2.2.2.1, ()) (IntKind.wrap .i64 (v7 + (1 : Int)))
  else
  bif v7 == (1 : Int) then
   bif !(v6.2.1 == []) then
    bif v6.2.1 == v0 then
     kr v7 (0 : Int)
    else
     rec v0 (v6.1, v6.2.1, v6.2.2.1, v6.2.2.2.1, v6.2.2.2.2.1, v6.2.2.2.2.2.1, ()) (IntKind.wrap .i64 (v7 + (1 : Int)))
   else
    rec v0 (v6.1, v6.2.1, v6.2.2.1, v6.2.2.2.1, v6.2.2.2.2.1, v6.2.2.2.2.2.1, ()) (IntKind.wrap .i64 (v7 + (1 : Int)))
  else
  bif v7 == (2 : Int) then
   bif !(v6.2.2.1 == []) then
    bif v6.2.2.1 == v0 then
     kr v7 (0 : Int)
    else
     rec v0 (v6.1, v6.2.1, v6.2.2.1, v6.2.2.2.1, v6.2.2.2.2.1, v6.2.2.2.2.2.1, ()) (IntKind.wrap .i64 (v7 + (1 : Int)))
   else
    rec v0 (v6.1, v6.2.1, v6.2.2.1, v6.2.2.2.1, v6.2.2.2.2.1, v6.2.2.2.2.2.1, ()) (IntKind.wrap .i64 (v7 + (1 : Int)))
  else
  bif v7 == (3 : Int) then
   bif !(v6.2.2.2.1 == []) then
    bif v6.2.2.2.1 == v0 then
     kr v7 (0 : Int)
    else
     rec v0 (v6.1, v6.2.1, v6.2.2.1, v6.2.2.2.1, v6.2.2.2.2.1, v6.2.2.2.2.2.1, ()) (IntKind.wrap .i64 (v7 + (1 : Int)))
   else
    rec v0 (v6.1, v6.2.1, v6.2.2.1, v6.2.2.2.1, v6.2.2.2.2.1, v6.2.2.2.2.2.1, ()) (IntKind.wrap .i64 (v7 + (1 : Int)))
  else
  bif v7 == (4 : Int) then
   bif !(v6.2.2.2.2.1 == []) then
    bif v6.2.2.2.2.1 == v0 then
     kr v7 (0 : Int)
    else
     rec v0 (v6.1, v6.2.1, v6.2.2.1, v6.2.2.2.1, v6.2.2.2.2.1, v6.2.2.2.2.2.1, ()) (IntKind.wrap .i64 (v7 + (1 : Int)))
   else
    rec v0 (v6.1, v6.2.1, v6.2.2.1, v6.2.2.2.1, v6.2.2.2.2.1, v6.2.2.2.2.2.1, ()) (IntKind.wrap .i64 (v7 + (1 : Int)))
  else
  bif v7 == (5 : Int) then
   bif !(v6.2.2.2.2.2.1 == []) then
    bif v6.2.2.2.2.2.1 == v0 then
     kr v7 (0 : Int)
    else
     rec v0 (v6.1, v6.2.1, v6.2.2.1, v6.2.2.2.1, v6.2.2.2.2.1, v6.2.2.2.2.2.1, ()) (IntKind.wrap .i64 (v7 + (1 : Int)))
   else
    rec v0 (v6.1, v6.2.1, v6.2.2.1, v6.2.2.2.1, v6.2.2.2.2.1, v6.2.2.2.2.2.1, ()) (IntKind.wrap .i64 (v7 + (1 : Int)))
  else
   none
 else
  k0 ()
noncomputable def F.dog_Kind.L2 {X : Type} (n : Nat) (k0 : Unit → Option X) (kr : Int → Int → Option X) : Nat → Z0 → Z16 → Int → Option X
 | 0 => fun _ _ _ => none
 | m + 1 => fun v0 v6 v7 => F.dog_Kind.L2.step n (F.dog_Kind.L2 n k0 kr m) k0 kr v0 v6 v7
noncomputable def F.dog_Kind (n : Nat) (a0 : Z0) : Option ((Int) × (Int) × Unit) :=
 (F.dog_words n ).bind fun y1 =>
  F.dog_Kind.L2 n
   (fun (_ : Unit) =>
    some (((0 : Int), (16 : Int), ())))
   (fun e2 e3 =>
    some ((e2, e3, ()))) n a0 (y1.1, y1.2.1, y1.2.2.1, y1.2.2.2.1, y1.2.2.2.2.1, y1.2.2.2.2.2.1, ()) (0 : Int)
noncomputable def F.num_Parse (n : Nat) (a0 : Z0) (a1 : Int) (a2 : Int) : Option ((Int) × (Z10) × Unit) :=
 (F.class_Text n (4 : Int) a0 (1 : Int) (IntKind.wrap .i64 ((a0.length : Int) + (1 : Int)))).bind fun y1 =>
  bif !((y1.1 == (0 : Int)) && (y1.2.1 == (0 : Int))) then
   (F.num_fault n y1.1 y1.2.1).bind fun y2 =>
    some ((y2.1, (y2.2.1.1, y2.2.1.2.1, ()), ()))
  else
   (idx a0 (0 : Int)).bind fun x3 =>
    bif ((x3).toNat) == (48 : Int) then
     bif decide ((a0.length : Int) > (1 : Int)) then
      (F.num_fault n (11 : Int) (0 : Int)).bind fun y4 =>
       some ((y4.1, (y4.2.1.1, y4.2.1.2.1, ()), ()))
     else
      (O.atoi n a0).bind fun y5 =>
       bif y5.2.1 then
        (F.num_fault n (10 : Int) (0 : Int)).bind fun y6 =>
         some ((y6.1, (y6.2.1.1, y6.2.1.2.1, ()), ()))
       else
       bif decide (y5.1 < a1) then
        (F.num_fault n (10 : Int) (0 : Int)).bind fun y7 =>
         some ((y7.1, (y7.2.1.1, y7.2.1.2.1, ()), ()))
       else
       bif decide (y5.1 > a2) then
        (F.num_fault n (10 : Int) (0 : Int)).bind fun y8 =>
         some ((y8.1, (y8.2.1.1, y8.2.1.2.1, ()), ()))
       else
        some ((y5.1, ((0 : Int), (0 : Int), ()), ()))
    else
     (O.atoi n a0).bind fun y9 =>
      bif y9.2.1 then
       (F.num_fault n (10 : Int) (0 : Int)).bind fun y10 =>
        some ((y10.1, (y10.2.1.1, y10.2.1.2.1, ()), ()))
      else
      bif decide (y9.1 < a1) then
       (F.num_fault n (10 : Int) (0 : Int)).bind fun y11 =>
        some ((y11.1, (y11.2.1.1, y11.2.1.2.1, ()), ()))
      else
      bif decide (y9.1 > a2) then
       (F.num_fault n (10 : Int) (0 : Int)).bind fun y12 =>
        some ((y12.1, (y12.2.1.1, y12.2.1.2.1, ()), ()))
      else
       some ((y9.1, ((0 : Int), (0 : Int), ()), ()))
noncomputable def F.num_Time (n : Nat) (a0 : Z0) : Option ((Int) × (Z10) × Unit) :=
 (F.num_Parse n a0 (1 : Int) (1099511627776 : Int)).bind fun y1 =>
  some ((y1.1, (y1.2.1.1, y1.2.1.2.1, ()), ()))
noncomputable def F.tag_Check (n : Nat) (a0 : Z17) : Option (Int) :=
 (F.class_Text n (2 : Int) a0.1 (1 : Int) (64 : Int)).bind fun y1 =>
  bif !((y1.1 == (0 : Int)) && (y1.2.1 == (0 : Int))) then
   some ((19 : Int))
  else
   (F.class_Text n (3 : Int) a0.2.1 (0 : Int) (100 : Int)).bind fun y2 =>
    bif !((y2.1 == (0 : Int)) && (y2.2.1 == (0 : Int))) then
     some ((19 : Int))
    else
     some ((0 : Int))
noncomputable def F.tag_Parse.L4.step {X : Type} (n : Nat) (rec : Z7 → Int → Z13 → Int → Int → Int → Int → Nat → Option X) (k0 : Z7 → Int → Int → Nat → Option X) (kr : Z7 → Int → Int → Nat → Option X) (v4 : Z7) (v5 : Int) (v13 : Z13) (v14 : Int) (v15 : Int) (ab0 : Int) (ab1 : Int) (vk0 : Nat) : Option X :=
 bif decide (v15 < v14) then
  (idx v13 v15).bind fun x2 =>
   (F.strings_Cut n x2 ([58])).bind fun y3 =>
    (F.tag_Check n (y3.1, y3.2.1, ())).bind fun y4 =>
     bif !(y4 == (0 : Int)) then
      kr [] (19 : Int) v5 0
     else
     bif y3.2.2.1 then
      bif y3.2.1 == [] then
       kr [] (19 : Int) v5 0
      else
      bif decide ((v4.length + 1) * 32 ≤ 2 ^ 46) && decide (0 < 32 ∧ 32 ≤ 2 ^ 20) then
       bif Nat.beq vk0 v4.length then
        rec (v4 ++ ([(y3.1, y3.2.1)])) (IntKind.wrap .i64 (v5 + (IntKind.wrap .i64 ((x2.length : Int) + (1 : Int))))) v13 v14 (IntKind.wrap .i64 (v15 + (1 : Int))) ab0 ab1 ((v4 ++ ([(y3.1, y3.2.1)])).length)
       else
        none
      else
       none
     else
     bif decide ((v4.length + 1) * 32 ≤ 2 ^ 46) && decide (0 < 32 ∧ 32 ≤ 2 ^ 20) then
      bif Nat.beq vk0 v4.length then
       rec (v4 ++ ([(y3.1, y3.2.1)])) (IntKind.wrap .i64 (v5 + (IntKind.wrap .i64 ((x2.length : Int) + (1 : Int))))) v13 v14 (IntKind.wrap .i64 (v15 + (1 : Int))) ab0 ab1 ((v4 ++ ([(y3.1, y3.2.1)])).length)
      else
       none
     else
      none
 else
  k0 v4 ab0 ab1 vk0
noncomputable def F.tag_Parse.L4 {X : Type} (n : Nat) (k0 : Z7 → Int → Int → Nat → Option X) (kr : Z7 → Int → Int → Nat → Option X) : Nat → Z7 → Int → Z13 → Int → Int → Int → Int → Nat → Option X
 | 0 => fun _ _ _ _ _ _ _ _ => none
 | m + 1 => fun v4 v5 v13 v14 v15 ab0 ab1 vk0 => F.tag_Parse.L4.step n (F.tag_Parse.L4 n k0 kr m) k0 kr v4 v5 v13 v14 v15 ab0 ab1 vk0
noncomputable def F.tag_Parse (n : Nat) (a0 : Z0) : Option ((Z7) × (Z10) × Unit) :=
 (O.split1 n a0 ([44])).bind fun y1 =>
  F.tag_Parse.L4 n
   (fun e4 g0 g1 ek0 =>
    some ((e4, ((0 : Int), (0 : Int), ()), ())))
   (fun e2 g0 g1 ek0 =>
    some ((e2, (g0, g1, ()), ()))) n [] (0 : Int) y1 (y1.length : Int) (0 : Int) (0 : Int) (0 : Int) 0
noncomputable def F.dog_Parse.L9_dog_reader_first.step {X : Type} (n : Nat) (rec : Int → Z13 → Int → Int → Z0 → Int → Z5 → Int → Z7 → Int → Int → Int → Z0 → Int → Z5 → Int → Z7 → Int → Int → Int → Int → Int → Int → Int → Nat → Nat → Nat → Option X) (k1 : Z0 → Int → Z5 → Int → Z7 → Int → Int → Int → Z0 → Int → Z5 → Int → Z7 → Int → Int → Int → Int → Int → Int → Int → Nat → Nat → Nat → Option X) (kr : Z0 → Int → Z5 → Int → Z7 → Int → Int → Int → Z0 → Int → Z5 → Int → Z7 → Int → Int → Int → Int → Int → Int → Int → Nat → Nat → Nat → Option X) (v8 : Int) (v42 : Z13) (v43 : Int) (v44 : Int) (ab0 : Z0) (ab1 : Int) (ab2 : Z5) (ab3 : Int) (ab4 : Z7) (ab5 : Int) (bb0 : Int) (bb1 : Int) (cb0 : Z0) (cb1 : Int) (cb2 : Z5) (cb3 : Int) (cb4 : Z7) (cb5 : Int) (cb6 : Int) (cb7 : Int) (db0 : Int) (db1 : Int) (hb0 : Int) (hb1 : Int) (vk0 : Nat) (vk1 : Nat) (vk2 : Nat) : Option X :=
 bif decide (v44 < v43) then
  (idx v42 v44).bind fun x6 =>
   (F.dec_Parse n x6).bind fun y7 =>
    bif !((y7.2.1.1 == (0 : Int)) && (y7.2.1.2.1 == (0 : Int))) then
     kr ab0 ab1 ab2 ab3 ab4 ab5 bb0 bb1 cb0 cb1 cb2 cb3 cb4 cb5 cb6 cb7 db0 db1 (17 : Int) (IntKind.wrap .i64 (cb6 + v8)) vk0 vk1 vk2
    else
    bif (cb2.length : Int) == (64 : Int) then
     kr ab0 ab1 ab2 ab3 ab4 ab5 bb0 bb1 cb0 cb1 cb2 cb3 cb4 cb5 cb6 cb7 db0 db1 (17 : Int) (IntKind.wrap .i64 (cb6 + v8)) vk0 vk1 vk2
    else
    bif decide ((cb2.length + 1) * 24 ≤ 2 ^ 46) && decide (0 < 24 ∧ 24 ≤ 2 ^ 20) then
     bif Nat.beq vk2 cb2.length then
      rec (IntKind.wrap .i64 (v8 + (IntKind.wrap .i64 ((x6.length : Int) + (1 : Int))))) v42 v43 (IntKind.wrap .i64 (v44 + (1 : Int))) ab0 ab1 ab2 ab3 ab4 ab5 bb0 bb1 cb0 cb1 (cb2 ++ ([(y7.1.1, y7.1.2.1, y7.1.2.2.1)])) cb3 cb4 cb5 cb6 cb7 db0 db1 hb0 hb1 vk0 vk1 ((cb2 ++ ([(y7.1.1, y7.1.2.1, y7.1.2.2.1)])).length)
     else
      none
    else
     none
 else
  k1 ab0 ab1 ab2 ab3 ab4 ab5 bb0 bb1 cb0 cb1 cb2 cb3 cb4 cb5 cb6 cb7 db0 db1 hb0 hb1 vk0 vk1 vk2
noncomputable def F.dog_Parse.L9_dog_reader_first {X : Type} (n : Nat) (k1 : Z0 → Int → Z5 → Int → Z7 → Int → Int → Int → Z0 → Int → Z5 → Int → Z7 → Int → Int → Int → Int → Int → Int → Int → Nat → Nat → Nat → Option X) (kr : Z0 → Int → Z5 → Int → Z7 → Int → Int → Int → Z0 → Int → Z5 → Int → Z7 → Int → Int → Int → Int → Int → Int → Int → Nat → Nat → Nat → Option X) : Nat → Int → Z13 → Int → Int → Z0 → Int → Z5 → Int → Z7 → Int → Int → Int → Z0 → Int → Z5 → Int → Z7 → Int → Int → Int → Int → Int → Int → Int → Nat → Nat → Nat → Option X
 | 0 => fun _ _ _ _ _ _ _ _ _ _ _ _ _ _ _ _ _ _ _ _ _ _ _ _ _ _ _ => none
 | m + 1 => fun v8 v42 v43 v44 ab0 ab1 ab2 ab3 ab4 ab5 bb0 bb1 cb0 cb1 cb2 cb3 cb4 cb5 cb6 cb7 db0 db1 hb0 hb1 vk0 vk1 vk2 => F.dog_Parse.L9_dog_reader_first.step n (F.dog_Parse.L9_dog_reader_first n k1 kr m) k1 kr v8 v42 v43 v44 ab0 ab1 ab2 ab3 ab4 ab5 bb0 bb1 cb0 cb1 cb2 cb3 cb4 cb5 cb6 cb7 db0 db1 hb0 hb1 vk0 vk1 vk2
noncomputable def F.dog_Parse.L2_dog_reader_more.step {X : Type} (n : Nat) (rec : Z0 → Z14 → Int → Z0 → Int → Z5 → Int → Z7 → Int → Int → Int → Z0 → Int → Z5 → Int → Z7 → Int → Int → Int → Int → Int → Int → Int → Nat → Nat → Nat → Option X) (k0 : Z0 → Int → Z5 → Int → Z7 → Int → Int → Int → Z0 → Int → Z5 → Int → Z7 → Int → Int → Int → Int → Int → Int → Int → Nat → Nat → Nat → Option X) (kr : Z0 → Int → Z5 → Int → Z7 → Int → Int → Int → Z0 → Int → Z5 → Int → Z7 → Int → Int → Int → Int → Int → Int → Int → Nat → Nat → Nat → Option X) (v1 : Z0) (v19 : Z14) (v20 : Int) (ab0 : Z0) (ab1 : Int) (ab2 : Z5) (ab3 : Int) (ab4 : Z7) (ab5 : Int) (bb0 : Int) (bb1 : Int) (cb0 : Z0) (cb1 : Int) (cb2 : Z5) (cb3 : Int) (cb4 : Z7) (cb5 : Int) (cb6 : Int) (cb7 : Int) (db0 : Int) (db1 : Int) (hb0 : Int) (hb1 : Int) (vk0 : Nat) (vk1 : Nat) (vk2 : Nat) : Option X :=
 bif decide (v20 < (3 : Int)) then
  bif v20 == (0 : Int) then
   (F.strings_CutPrefix n v1 v19.1).bind fun y11 =>
    bif !y11.2.1 then
     rec v1 (v19.1, (), v19.2.2.1, (), v19.2.2.2.2.1, (), ()) (IntKind.wrap .i64 (v20 + (1 : Int))) ab0 ab1 ab2 ab3 ab4 ab5 bb0 bb1 cb0 cb1 cb2 cb3 cb4 cb5 cb6 cb7 db0 db1 hb0 hb1 vk0 vk1 vk2
    else
    bif decide (v20 < cb7) then
     k0 ab0 ab1 ab2 ab3 ab4 ab5 bb0 bb1 cb0 cb1 cb2 cb3 cb4 cb5 cb6 cb7 db0 db1 hb0 hb1 vk0 vk1 vk2
    else
     (F.num_Rate n y11.1).bind fun y12 =>
      bif !((y12.2.1.1 == (0 : Int)) && (y12.2.1.2.1 == (0 : Int))) then
       kr ab0 ab1 ab2 ab3 ab4 ab5 bb0 bb1 cb0 cb1 cb2 cb3 cb4 cb5 cb6 (IntKind.wrap .i64 (v20 + (1 : Int))) db0 db1 (18 : Int) (IntKind.wrap .i64 (cb6 + (0 : Int))) vk0 vk1 vk2
      else
      bif cb1 == (2 : Int) then
       bif !(y12.1 == (1000000 : Int)) then
        kr ab0 ab1 ab2 ab3 ab4 ab5 bb0 bb1 cb0 cb1 cb2 cb3 cb4 cb5 cb6 (IntKind.wrap .i64 (v20 + (1 : Int))) db0 db1 (18 : Int) (IntKind.wrap .i64 (cb6 + (0 : Int))) vk0 vk1 vk2
       else
        kr ab0 ab1 ab2 ab3 ab4 ab5 bb0 bb1 cb0 cb1 cb2 y12.1 cb4 cb5 cb6 (IntKind.wrap .i64 (v20 + (1 : Int))) db0 db1 (0 : Int) (0 : Int) vk0 vk1 vk2
      else
       kr ab0 ab1 ab2 ab3 ab4 ab5 bb0 bb1 cb0 cb1 cb2 y12.1 cb4 cb5 cb6 (IntKind.wrap .i64 (v20 + (1 : Int))) db0 db1 (0 : Int) (0 : Int) vk0 vk1 vk2
  else
  bif v20 == (1 : Int) then
   (F.strings_CutPrefix n v1 v19.2.2.1).bind fun y13 =>
    bif !y13.2.1 then
     rec v1 (v19.1, (), v19.2.2.1, (), v19.2.2.2.2.1, (), ()) (IntKind.wrap .i64 (v20 + (1 : Int))) ab0 ab1 ab2 ab3 ab4 ab5 bb0 bb1 cb0 cb1 cb2 cb3 cb4 cb5 cb6 cb7 db0 db1 hb0 hb1 vk0 vk1 vk2
    else
    bif decide (v20 < cb7) then
     k0 ab0 ab1 ab2 ab3 ab4 ab5 bb0 bb1 cb0 cb1 cb2 cb3 cb4 cb5 cb6 cb7 db0 db1 hb0 hb1 vk0 vk1 vk2
    else
     (F.tag_Parse n y13.1).bind fun y14 =>
      bif !((y14.2.1.1 == (0 : Int)) && (y14.2.1.2.1 == (0 : Int))) then
       kr ab0 ab1 ab2 ab3 ab4 ab5 bb0 bb1 cb0 cb1 cb2 cb3 cb4 cb5 cb6 (IntKind.wrap .i64 (v20 + (1 : Int))) db0 db1 (19 : Int) (IntKind.wrap .i64 (cb6 + (0 : Int))) vk0 vk1 vk2
      else
      bif decide ((y14.1.length : Int) > (32 : Int)) then
       kr ab0 ab1 ab2 ab3 ab4 ab5 bb0 bb1 cb0 cb1 cb2 cb3 cb4 cb5 cb6 (IntKind.wrap .i64 (v20 + (1 : Int))) db0 db1 (19 : Int) (IntKind.wrap .i64 (cb6 + (0 : Int))) vk0 vk1 vk2
      else
       (F.tag_Normal n y14.1).bind fun y15 =>
        kr ab0 ab1 ab2 ab3 ab4 ab5 bb0 bb1 cb0 cb1 cb2 cb3 y15 cb5 cb6 (IntKind.wrap .i64 (v20 + (1 : Int))) db0 db1 (0 : Int) (0 : Int) vk0 vk1 vk2
  else
  bif v20 == (2 : Int) then
   (F.strings_CutPrefix n v1 v19.2.2.2.2.1).bind fun y16 =>
    bif !y16.2.1 then
     rec v1 (v19.1, (), v19.2.2.1, (), v19.2.2.2.2.1, (), ()) (IntKind.wrap .i64 (v20 + (1 : Int))) ab0 ab1 ab2 ab3 ab4 ab5 bb0 bb1 cb0 cb1 cb2 cb3 cb4 cb5 cb6 cb7 db0 db1 hb0 hb1 vk0 vk1 vk2
    else
    bif decide (v20 < cb7) then
     k0 ab0 ab1 ab2 ab3 ab4 ab5 bb0 bb1 cb0 cb1 cb2 cb3 cb4 cb5 cb6 cb7 db0 db1 hb0 hb1 vk0 vk1 vk2
    else
     (F.num_Time n y16.1).bind fun y17 =>
      bif !((y17.2.1.1 == (0 : Int)) && (y17.2.1.2.1 == (0 : Int))) then
       kr ab0 ab1 ab2 ab3 ab4 ab5 bb0 bb1 cb0 cb1 cb2 cb3 cb4 cb5 cb6 (IntKind.wrap .i64 (v20 + (1 : Int))) db0 db1 (20 : Int) (IntKind.wrap .i64 (cb6 + (0 : Int))) vk0 vk1 vk2
      else
       kr ab0 ab1 ab2 ab3 ab4 ab5 bb0 bb1 cb0 cb1 cb2 cb3 cb4 y17.1 cb6 (IntKind.wrap .i64 (v20 + (1 : Int))) db0 db1 (0 : Int) (0 : Int) vk0 vk1 vk2
  else
   none
 else
  k0 ab0 ab1 ab2 ab3 ab4 ab5 bb0 bb1 cb0 cb1 cb2 cb3 cb4 cb5 cb6 cb7 db0 db1 hb0 hb1 vk0 vk1 vk2
noncomputable def F.dog_Parse.L2_dog_reader_more {X : Type} (n : Nat) (k0 : Z0 → Int → Z5 → Int → Z7 → Int → Int → Int → Z0 → Int → Z5 → Int → Z7 → Int → Int → Int → Int → Int → Int → Int → Nat → Nat → Nat → Option X) (kr : Z0 → Int → Z5 → Int → Z7 → Int → Int → Int → Z0 → Int → Z5 → Int → Z7 → Int → Int → Int → Int → Int → Int → Int → Nat → Nat → Nat → Option X) : Nat → Z0 → Z14 → Int → Z0 → Int → Z5 → Int → Z7 → Int → Int → Int → Z0 → Int → Z5 → Int → Z7 → Int → Int → Int → Int → Int → Int → Int → Nat → Nat → Nat → Option X
 | 0 => fun _ _ _ _ _ _ _ _ _ _ _ _ _ _ _ _ _ _ _ _ _ _ _ _ _ _ => none
 | m + 1 => fun v1 v19 v20 ab0 ab1 ab2 ab3 ab4 ab5 bb0 bb1 cb0 cb1 cb2 cb3 cb4 cb5 cb6 cb7 db0 db1 hb0 hb1 vk0 vk1 vk2 => F.dog_Parse.L2_dog_reader_more.step n (F.dog_Parse.L2_dog_reader_more n k0 kr m) k0 kr v1 v19 v20 ab0 ab1 ab2 ab3 ab4 ab5 bb0 bb1 cb0 cb1 cb2 cb3 cb4 cb5 cb6 cb7 db0 db1 hb0 hb1 vk0 vk1 vk2
noncomputable def F.dog_Parse.L8.step {X : Type} (n : Nat) (rec : Z0 → Z13 → Z13 → Int → Int → Z0 → Int → Z5 → Int → Z7 → Int → Int → Int → Z0 → Int → Z5 → Int → Z7 → Int → Int → Int → Int → Int → Nat → Nat → Nat → Option X) (k0 : Z0 → Z13 → Z0 → Int → Z5 → Int → Z7 → Int → Int → Int → Z0 → Int → Z5 → Int → Z7 → Int → Int → Int → Int → Int → Nat → Nat → Nat → Option X) (v0 : Z0) (v5 : Z13) (v26 : Z13) (v27 : Int) (v28 : Int) (ab0 : Z0) (ab1 : Int) (ab2 : Z5) (ab3 : Int) (ab4 : Z7) (ab5 : Int) (bb0 : Int) (bb1 : Int) (cb0 : Z0) (cb1 : Int) (cb2 : Z5) (cb3 : Int) (cb4 : Z7) (cb5 : Int) (cb6 : Int) (cb7 : Int) (db0 : Int) (db1 : Int) (vk0 : Nat) (vk1 : Nat) (vk2 : Nat) : Option X :=
 bif decide (v28 < v27) then
  (idx v26 v28).bind fun x2 =>
   bif decide (v28 < (2 : Int)) then
    bif v28 == (0 : Int) then
     (F.strings_Cut n x2 ([58])).bind fun y3 =>
      (F.class_Text n (1 : Int) y3.1 (1 : Int) (200 : Int)).bind fun y4 =>
       bif !((y4.1 == (0 : Int)) && (y4.2.1 == (0 : Int))) then
        bif !(false && ((IntKind.wrap .i64 (cb6 + (0 : Int))) == (0 : Int))) then
         k0 v0 v5 ab0 ab1 ab2 ab3 ab4 ab5 bb0 bb1 cb0 cb1 cb2 cb3 cb4 cb5 cb6 cb7 (15 : Int) (IntKind.wrap .i64 (cb6 + (0 : Int))) vk0 vk1 vk2
        else
         rec v0 v5 v26 v27 (IntKind.wrap .i64 (v28 + (1 : Int))) ab0 ab1 ab2 ab3 ab4 ab5 bb0 bb1 cb0 cb1 cb2 cb3 cb4 cb5 (IntKind.wrap .i64 (cb6 + (IntKind.wrap .i64 ((x2.length : Int) + (1 : Int))))) cb7 (15 : Int) (IntKind.wrap .i64 (cb6 + (0 : Int))) vk0 vk1 vk2
       else
       bif !y3.2.2.1 then
        bif !(false && ((IntKind.wrap .i64 (cb6 + (x2.length : Int))) == (0 : Int))) then
         k0 v0 v5 ab0 ab1 ab2 ab3 ab4 ab5 bb0 bb1 cb0 cb1 cb2 cb3 cb4 cb5 cb6 cb7 (11 : Int) (IntKind.wrap .i64 (cb6 + (x2.length : Int))) vk0 vk1 vk2
        else
         rec v0 v5 v26 v27 (IntKind.wrap .i64 (v28 + (1 : Int))) ab0 ab1 ab2 ab3 ab4 ab5 bb0 bb1 cb0 cb1 cb2 cb3 cb4 cb5 (IntKind.wrap .i64 (cb6 + (IntKind.wrap .i64 ((x2.length : Int) + (1 : Int))))) cb7 (11 : Int) (IntKind.wrap .i64 (cb6 + (x2.length : Int))) vk0 vk1 vk2
       else
        (O.split1 n y3.2.1 ([58])).bind fun y5 =>
         F.dog_Parse.L9_dog_reader_first n
          (fun g0 g1 g2 g3 g4 g5 h0 h1 i0 i1 i2 i3 i4 i5 i6 i7 j0 j1 l0 l1 ek0 ek1 ek2 =>
           bif !(true && true) then
            k0 v0 v5 g0 g1 g2 g3 g4 g5 h0 h1 i0 i1 i2 i3 i4 i5 i6 i7 (0 : Int) (0 : Int) ek0 ek1 ek2
           else
            rec v0 v5 v26 v27 (IntKind.wrap .i64 (v28 + (1 : Int))) g0 g1 g2 g3 g4 g5 h0 h1 i0 i1 i2 i3 i4 i5 (IntKind.wrap .i64 (i6 + (IntKind.wrap .i64 ((x2.length : Int) + (1 : Int))))) i7 (0 : Int) (0 : Int) ek0 ek1 ek2)
          (fun g0 g1 g2 g3 g4 g5 h0 h1 i0 i1 i2 i3 i4 i5 i6 i7 j0 j1 l0 l1 ek0 ek1 ek2 =>
           bif !((l0 == (0 : Int)) && (l1 == (0 : Int))) then
            k0 v0 v5 g0 g1 g2 g3 g4 g5 h0 h1 i0 i1 i2 i3 i4 i5 i6 i7 l0 l1 ek0 ek1 ek2
           else
            rec v0 v5 v26 v27 (IntKind.wrap .i64 (v28 + (1 : Int))) g0 g1 g2 g3 g4 g5 h0 h1 i0 i1 i2 i3 i4 i5 (IntKind.wrap .i64 (i6 + (IntKind.wrap .i64 ((x2.length : Int) + (1 : Int))))) i7 l0 l1 ek0 ek1 ek2) n (IntKind.wrap .i64 ((y3.1.length : Int) + (1 : Int))) y5 (y5.length : Int) (0 : Int) ab0 ab1 ab2 ab3 ab4 ab5 bb0 bb1 y3.1 cb1 cb2 cb3 cb4 cb5 cb6 cb7 db0 db1 (0 : Int) (0 : Int) vk0 vk1 vk2
    else
    bif v28 == (1 : Int) then
     (F.dog_Kind n x2).bind fun y10 =>
      bif !(y10.2.1 == (0 : Int)) then
       bif !((y10.2.1 == (0 : Int)) && ((IntKind.wrap .i64 (cb6 + (0 : Int))) == (0 : Int))) then
        k0 v0 v5 ab0 ab1 ab2 ab3 ab4 ab5 bb0 bb1 cb0 cb1 cb2 cb3 cb4 cb5 cb6 cb7 y10.2.1 (IntKind.wrap .i64 (cb6 + (0 : Int))) vk0 vk1 vk2
       else
        rec v0 v5 v26 v27 (IntKind.wrap .i64 (v28 + (1 : Int))) ab0 ab1 ab2 ab3 ab4 ab5 bb0 bb1 cb0 cb1 cb2 cb3 cb4 cb5 (IntKind.wrap .i64 (cb6 + (IntKind.wrap .i64 ((x2.length : Int) + (1 : Int))))) cb7 y10.2.1 (IntKind.wrap .i64 (cb6 + (0 : Int))) vk0 vk1 vk2
      else
      bif !(true && true) then
       k0 v0 v5 ab0 ab1 ab2 ab3 ab4 ab5 bb0 bb1 cb0 y10.1 cb2 cb3 cb4 cb5 cb6 cb7 (0 : Int) (0 : Int) vk0 vk1 vk2
      else
       rec v0 v5 v26 v27 (IntKind.wrap .i64 (v28 + (1 : Int))) ab0 ab1 ab2 ab3 ab4 ab5 bb0 bb1 cb0 y10.1 cb2 cb3 cb4 cb5 (IntKind.wrap .i64 (cb6 + (IntKind.wrap .i64 ((x2.length : Int) + (1 : Int))))) cb7 (0 : Int) (0 : Int) vk0 vk1 vk2
    else
     none
   else
    F.dog_Parse.L2_dog_reader_more n
     (fun g0 g1 g2 g3 g4 g5 h0 h1 i0 i1 i2 i3 i4 i5 i6 i7 j0 j1 l0 l1 ek0 ek1 ek2 =>
      bif !(false && ((IntKind.wrap .i64 (i6 + (0 : Int))) == (0 : Int))) then
       k0 v0 v5 g0 g1 g2 g3 g4 g5 h0 h1 i0 i1 i2 i3 i4 i5 i6 i7 (11 : Int) (IntKind.wrap .i64 (i6 + (0 : Int))) ek0 ek1 ek2
      else
       rec v0 v5 v26 v27 (IntKind.wrap .i64 (v28 + (1 : Int))) g0 g1 g2 g3 g4 g5 h0 h1 i0 i1 i2 i3 i4 i5 (IntKind.wrap .i64 (i6 + (IntKind.wrap .i64 ((x2.length : Int) + (1 : Int))))) i7 (11 : Int) (IntKind.wrap .i64 (i6 + (0 : Int))) ek0 ek1 ek2)
     (fun g0 g1 g2 g3 g4 g5 h0 h1 i0 i1 i2 i3 i4 i5 i6 i7 j0 j1 l0 l1 ek0 ek1 ek2 =>
      bif !((l0 == (0 : Int)) && (l1 == (0 : Int))) then
       k0 v0 v5 g0 g1 g2 g3 g4 g5 h0 h1 i0 i1 i2 i3 i4 i5 i6 i7 l0 l1 ek0 ek1 ek2
      else
       rec v0 v5 v26 v27 (IntKind.wrap .i64 (v28 + (1 : Int))) g0 g1 g2 g3 g4 g5 h0 h1 i0 i1 i2 i3 i4 i5 (IntKind.wrap .i64 (i6 + (IntKind.wrap .i64 ((x2.length : Int) + (1 : Int))))) i7 l0 l1 ek0 ek1 ek2) n x2 ([64], (), [35], (), [84], (), ()) (0 : Int) ab0 ab1 ab2 ab3 ab4 ab5 bb0 bb1 cb0 cb1 cb2 cb3 cb4 cb5 cb6 cb7 db0 db1 (0 : Int) (0 : Int) vk0 vk1 vk2
 else
  k0 v0 v5 ab0 ab1 ab2 ab3 ab4 ab5 bb0 bb1 cb0 cb1 cb2 cb3 cb4 cb5 cb6 cb7 db0 db1 vk0 vk1 vk2
noncomputable def F.dog_Parse.L8 {X : Type} (n : Nat) (k0 : Z0 → Z13 → Z0 → Int → Z5 → Int → Z7 → Int → Int → Int → Z0 → Int → Z5 → Int → Z7 → Int → Int → Int → Int → Int → Nat → Nat → Nat → Option X) : Nat → Z0 → Z13 → Z13 → Int → Int → Z0 → Int → Z5 → Int → Z7 → Int → Int → Int → Z0 → Int → Z5 → Int → Z7 → Int → Int → Int → Int → Int → Nat → Nat → Nat → Option X
 | 0 => fun _ _ _ _ _ _ _ _ _ _ _ _ _ _ _ _ _ _ _ _ _ _ _ _ _ _ => none
 | m + 1 => fun v0 v5 v26 v27 v28 ab0 ab1 ab2 ab3 ab4 ab5 bb0 bb1 cb0 cb1 cb2 cb3 cb4 cb5 cb6 cb7 db0 db1 vk0 vk1 vk2 => F.dog_Parse.L8.step n (F.dog_Parse.L8 n k0 m) k0 v0 v5 v26 v27 v28 ab0 ab1 ab2 ab3 ab4 ab5 bb0 bb1 cb0 cb1 cb2 cb3 cb4 cb5 cb6 cb7 db0 db1 vk0 vk1 vk2
noncomputable def F.dog_Parse (n : Nat) (a0 : Z0) : Option ((Z11) × (Z10) × Unit) :=
 bif decide ((a0.length : Int) > (8192 : Int)) then
  some ((([], (0 : Int), [], (0 : Int), [], (0 : Int), ()), ((12 : Int), (0 : Int), ()), ()))
 else
  (O.split1 n a0 ([124])).bind fun y1 =>
   F.dog_Parse.L8 n
    (fun e0 e5 g0 g1 g2 g3 g4 g5 h0 h1 i0 i1 i2 i3 i4 i5 i6 i7 j0 j1 ek0 ek1 ek2 =>
     bif (j0 == (0 : Int)) && (j1 == (0 : Int)) then
      bif decide ((e5.length : Int) < (2 : Int)) then
       bif !(false && ((e0.length : Int) == (0 : Int))) then
        some ((([], (0 : Int), [], (0 : Int), [], (0 : Int), ()), ((11 : Int), (e0.length : Int), ()), ()))
       else
        some (((i0, i1, i2, i3, i4, i5, ()), ((11 : Int), (e0.length : Int), ()), ()))
      else
      bif !((j0 == (0 : Int)) && (j1 == (0 : Int))) then
       some ((([], (0 : Int), [], (0 : Int), [], (0 : Int), ()), (j0, j1, ()), ()))
      else
       some (((i0, i1, i2, i3, i4, i5, ()), (j0, j1, ()), ()))
     else
     bif !((j0 == (0 : Int)) && (j1 == (0 : Int))) then
      some ((([], (0 : Int), [], (0 : Int), [], (0 : Int), ()), (j0, j1, ()), ()))
     else
      some (((i0, i1, i2, i3, i4, i5, ()), (j0, j1, ()), ()))) n a0 y1 y1 (y1.length : Int) (0 : Int) [] (0 : Int) [] (0 : Int) [] (0 : Int) (0 : Int) (0 : Int) [] (0 : Int) [] (1000000 : Int) [] (0 : Int) (0 : Int) (0 : Int) (0 : Int) (0 : Int) 0 0 0
noncomputable def F.graphite_Parse.L2_graphite_cut_1.step {X : Type} (n : Nat) (rec : Int → Int → Bool → Z0 → Int → Z5 → Int → Z7 → Int → Int → Int → Z0 → Int → Z5 → Int → Z7 → Int → Int → Int → Z0 → Nat → Nat → Nat → Nat → Option X) (k0 : Z0 → Int → Z5 → Int → Z7 → Int → Int → Int → Z0 → Int → Z5 → Int → Z7 → Int → Int → Int → Z0 → Nat → Nat → Nat → Nat → Option X) (kr : Z0 → Int → Z5 → Int → Z7 → Int → Int → Int → Z0 → Int → Z5 → Int → Z7 → Int → Int → Int → Z0 → Nat → Nat → Nat → Nat → Option X) (v3 : Int) (v4 : Int) (v5 : Bool) (ab0 : Z0) (ab1 : Int) (ab2 : Z5) (ab3 : Int) (ab4 : Z7) (ab5 : Int) (bb0 : Int) (bb1 : Int) (cb0 : Z0) (cb1 : Int) (cb2 : Z5) (cb3 : Int) (cb4 : Z7) (cb5 : Int) (db0 : Int) (db1 : Int) (hb0 : Z0) (vk0 : Nat) (vk1 : Nat) (vk2 : Nat) (vk3 : Nat) : Option X :=
 bif v5 then
  (sub hb0 v3 (hb0.length : Int)).bind fun x1 =>
   (F.strings_Cut n x1 ([32])).bind fun y2 =>
    bif v4 == (0 : Int) then
     (F.class_Text n (1 : Int) y2.1 (1 : Int) (200 : Int)).bind fun y3 =>
      bif !((y3.1 == (0 : Int)) && (y3.2.1 == (0 : Int))) then
       kr ab0 ab1 ab2 ab3 ab4 ab5 bb0 bb1 y2.1 cb1 cb2 cb3 cb4 cb5 (15 : Int) v3 hb0 vk0 vk1 vk2 vk3
      else
      bif !(y2.2.2.1 == (decide (v4 < (2 : Int)))) then
       kr ab0 ab1 ab2 ab3 ab4 ab5 bb0 bb1 y2.1 cb1 cb2 cb3 cb4 cb5 (11 : Int) (IntKind.wrap .i64 (v3 + (y2.1.length : Int))) hb0 vk0 vk1 vk2 vk3
      else
       rec (IntKind.wrap .i64 (v3 + (IntKind.wrap .i64 ((y2.1.length : Int) + (1 : Int))))) (IntKind.wrap .i64 (v4 + (1 : Int))) y2.2.2.1 ab0 ab1 ab2 ab3 ab4 ab5 bb0 bb1 y2.1 cb1 cb2 cb3 cb4 cb5 db0 db1 hb0 vk0 vk1 vk2 vk3
    else
    bif v4 == (1 : Int) then
     (F.dec_Parse n y2.1).bind fun y4 =>
      bif !((y4.2.1.1 == (0 : Int)) && (y4.2.1.2.1 == (0 : Int))) then
       kr ab0 ab1 ab2 ab3 ab4 ab5 bb0 bb1 cb0 cb1 cb2 cb3 cb4 cb5 (17 : Int) v3 hb0 vk0 vk1 vk2 vk3
      else
      bif !(y2.2.2.1 == (decide (v4 < (2 : Int)))) then
       kr ab0 ab1 ab2 ab3 ab4 ab5 bb0 bb1 cb0 cb1 ([(y4.1.1, y4.1.2.1, y4.1.2.2.1)]) cb3 cb4 cb5 (11 : Int) (IntKind.wrap .i64 (v3 + (y2.1.length : Int))) hb0 vk0 vk1 1 vk3
      else
       rec (IntKind.wrap .i64 (v3 + (IntKind.wrap .i64 ((y2.1.length : Int) + (1 : Int))))) (IntKind.wrap .i64 (v4 + (1 : Int))) y2.2.2.1 ab0 ab1 ab2 ab3 ab4 ab5 bb0 bb1 cb0 cb1 ([(y4.1.1, y4.1.2.1, y4.1.2.2.1)]) cb3 cb4 cb5 db0 db1 hb0 vk0 vk1 1 vk3
    else
     (F.num_Time n y2.1).bind fun y5 =>
      bif !((y5.2.1.1 == (0 : Int)) && (y5.2.1.2.1 == (0 : Int))) then
       kr ab0 ab1 ab2 ab3 ab4 ab5 bb0 bb1 cb0 cb1 cb2 cb3 cb4 cb5 (20 : Int) v3 hb0 vk0 vk1 vk2 vk3
      else
      bif !(y2.2.2.1 == (decide (v4 < (2 : Int)))) then
       kr ab0 ab1 ab2 ab3 ab4 ab5 bb0 bb1 cb0 cb1 cb2 cb3 cb4 y5.1 (11 : Int) (IntKind.wrap .i64 (v3 + (y2.1.length : Int))) hb0 vk0 vk1 vk2 vk3
      else
       rec (IntKind.wrap .i64 (v3 + (IntKind.wrap .i64 ((y2.1.length : Int) + (1 : Int))))) (IntKind.wrap .i64 (v4 + (1 : Int))) y2.2.2.1 ab0 ab1 ab2 ab3 ab4 ab5 bb0 bb1 cb0 cb1 cb2 cb3 cb4 y5.1 db0 db1 hb0 vk0 vk1 vk2 vk3
 else
  k0 ab0 ab1 ab2 ab3 ab4 ab5 bb0 bb1 cb0 cb1 cb2 cb3 cb4 cb5 db0 db1 hb0 vk0 vk1 vk2 vk3
noncomputable def F.graphite_Parse.L2_graphite_cut_1 {X : Type} (n : Nat) (k0 : Z0 → Int → Z5 → Int → Z7 → Int → Int → Int → Z0 → Int → Z5 → Int → Z7 → Int → Int → Int → Z0 → Nat → Nat → Nat → Nat → Option X) (kr : Z0 → Int → Z5 → Int → Z7 → Int → Int → Int → Z0 → Int → Z5 → Int → Z7 → Int → Int → Int → Z0 → Nat → Nat → Nat → Nat → Option X) : Nat → Int → Int → Bool → Z0 → Int → Z5 → Int → Z7 → Int → Int → Int → Z0 → Int → Z5 → Int → Z7 → Int → Int → Int → Z0 → Nat → Nat → Nat → Nat → Option X
 | 0 => fun _ _ _ _ _ _ _ _ _ _ _ _ _ _ _ _ _ _ _ _ _ _ _ _ => none
 | m + 1 => fun v3 v4 v5 ab0 ab1 ab2 ab3 ab4 ab5 bb0 bb1 cb0 cb1 cb2 cb3 cb4 cb5 db0 db1 hb0 vk0 vk1 vk2 vk3 => F.graphite_Parse.L2_graphite_cut_1.step n (F.graphite_Parse.L2_graphite_cut_1 n k0 kr m) k0 kr v3 v4 v5 ab0 ab1 ab2 ab3 ab4 ab5 bb0 bb1 cb0 cb1 cb2 cb3 cb4 cb5 db0 db1 hb0 vk0 vk1 vk2 vk3
noncomputable def F.graphite_Parse (n : Nat) (a0 : Z0) : Option ((Z11) × (Z10) × Unit) :=
 F.graphite_Parse.L2_graphite_cut_1 n
  (fun g0 g1 g2 g3 g4 g5 h0 h1 i0 i1 i2 i3 i4 i5 j0 j1 l0 ek0 ek1 ek2 ek3 =>
   bif !((j0 == (0 : Int)) && (j1 == (0 : Int))) then
    some ((([], (0 : Int), [], (0 : Int), [], (0 : Int), ()), (j0, j1, ()), ()))
   else
    some (((i0, i1, i2, i3, i4, i5, ()), (j0, j1, ()), ())))
  (fun g0 g1 g2 g3 g4 g5 h0 h1 i0 i1 i2 i3 i4 i5 j0 j1 l0 ek0 ek1 ek2 ek3 =>
   bif !((j0 == (0 : Int)) && (j1 == (0 : Int))) then
    some ((([], (0 : Int), [], (0 : Int), [], (0 : Int), ()), (j0, j1, ()), ()))
   else
    some (((i0, i1, i2, i3, i4, i5, ()), (j0, j1, ()), ()))) n (0 : Int) (0 : Int) true [] (0 : Int) [] (0 : Int) [] (0 : Int) (0 : Int) (0 : Int) [] (2 : Int) [] (1000000 : Int) [] (0 : Int) (0 : Int) (0 : Int) a0 0 0 0 0
noncomputable def F.text_Parse (n : Nat) (a0 : Z0) (a1 : Int) : Option ((Z11) × (Z10) × Unit) :=
 bif a1 == (1 : Int) then
  bif decide ((a0.length : Int) > (8192 : Int)) then
   some ((([], (0 : Int), [], (0 : Int), [], (0 : Int), ()), ((12 : Int), (0 : Int), ()), ()))
  else
   (F.statsd_Parse n a0).bind fun y1 =>
    some (((y1.1.1, y1.1.2.1, y1.1.2.2.1, y1.1.2.2.2.1, y1.1.2.2.2.2.1, y1.1.2.2.2.2.2.1, ()), (y1.2.1.1, y1.2.1.2.1, ()), ()))
 else
 bif a1 == (2 : Int) then
  bif decide ((a0.length : Int) > (8192 : Int)) then
   some ((([], (0 : Int), [], (0 : Int), [], (0 : Int), ()), ((12 : Int), (0 : Int), ()), ()))
  else
   (F.dog_Parse n a0).bind fun y2 =>
    some (((y2.1.1, y2.1.2.1, y2.1.2.2.1, y2.1.2.2.2.1, y2.1.2.2.2.2.1, y2.1.2.2.2.2.2.1, ()), (y2.2.1.1, y2.2.1.2.1, ()), ()))
 else
 bif a1 == (3 : Int) then
  bif decide ((a0.length : Int) > (8192 : Int)) then
   some ((([], (0 : Int), [], (0 : Int), [], (0 : Int), ()), ((12 : Int), (0 : Int), ()), ()))
  else
   (F.graphite_Parse n a0).bind fun y3 =>
    some (((y3.1.1, y3.1.2.1, y3.1.2.2.1, y3.1.2.2.2.1, y3.1.2.2.2.2.1, y3.1.2.2.2.2.2.1, ()), (y3.2.1.1, y3.2.1.2.1, ()), ()))
 else
  some ((([], (0 : Int), [], (0 : Int), [], (0 : Int), ()), ((29 : Int), (0 : Int), ()), ()))
noncomputable def F.stringslite_HasSuffix (n : Nat) (a0 : Z0) (a1 : Z0) : Option (Bool) :=
 bif decide ((a0.length : Int) ≥ (a1.length : Int)) then
  (sub a0 (IntKind.wrap .i64 ((a0.length : Int) - (a1.length : Int))) (a0.length : Int)).bind fun x1 =>
   some (x1 == a1)
 else
  some (false)
noncomputable def F.stringslite_CutSuffix (n : Nat) (a0 : Z0) (a1 : Z0) : Option ((Z0) × (Bool) × Unit) :=
 (F.stringslite_HasSuffix n a0 a1).bind fun y1 =>
  bif !y1 then
   some ((a0, false, ()))
  else
   (sub a0 (0 : Int) (IntKind.wrap .i64 ((a0.length : Int) - (a1.length : Int)))).bind fun x2 =>
    some ((x2, true, ()))
noncomputable def F.strings_CutSuffix (n : Nat) (a0 : Z0) (a1 : Z0) : Option ((Z0) × (Bool) × Unit) :=
 (F.stringslite_CutSuffix n a0 a1).bind fun y1 =>
  some ((y1.1, y1.2.1, ()))
noncomputable def F.strings_IndexByte (n : Nat) (a0 : Z0) (a1 : Int) : Option (Int) :=
 (O.indexB n a0 a1).bind fun y1 =>
  some (y1)
noncomputable def F.text_Decode.L0_strings_Lines_1.step {X : Type} (n : Nat) (rec : Int → Z9 → Int → Int → Z9 → Int → Z0 → Nat → Nat → Option X) (k0 : Int → Z9 → Int → Int → Z9 → Int → Z0 → Nat → Nat → Option X) (kr : Int → Z9 → Int → Int → Z9 → Int → Z0 → Nat → Nat → Option X) (ab0 : Int) (bb0 : Z9) (cb0 : Int) (cb1 : Int) (ib0 : Z9) (jb0 : Int) (lb0 : Z0) (vk0 : Nat) (vk1 : Nat) : Option X :=
 bif decide ((lb0.length : Int) > (0 : Int)) then
  (F.strings_IndexByte n lb0 (10 : Int)).bind fun y1 =>
   bif decide (y1 ≥ (0 : Int)) then
    (sub lb0 (0 : Int) (IntKind.wrap .i64 (y1 + (1 : Int)))).bind fun x2 =>
     (sub lb0 (IntKind.wrap .i64 (y1 + (1 : Int))) (lb0.length : Int)).bind fun x3 =>
      (F.strings_CutSuffix n x2 ([10])).bind fun y4 =>
       bif (ib0.length : Int) == (1000 : Int) then
        bif !(false && true) then
         kr ab0 [] (12 : Int) (IntKind.wrap .i64 (jb0 + (0 : Int))) ib0 jb0 x3 0 vk1
        else
        bif decide ((ib0.length + 1) * 88 ≤ 2 ^ 46) && decide (0 < 88 ∧ 88 ≤ 2 ^ 20) then
         bif Nat.beq vk1 ib0.length then
          rec ab0 bb0 cb0 cb1 (ib0 ++ ([([], 0, [], 0, [], 0)])) (IntKind.wrap .i64 (jb0 + (x2.length : Int))) x3 vk0 ((ib0 ++ ([([], 0, [], 0, [], 0)])).length)
         else
          none
        else
         none
       else
       bif !y4.2.1 then
        bif !(false && true) then
         kr ab0 [] (30 : Int) (IntKind.wrap .i64 (jb0 + (0 : Int))) ib0 jb0 x3 0 vk1
        else
        bif decide ((ib0.length + 1) * 88 ≤ 2 ^ 46) && decide (0 < 88 ∧ 88 ≤ 2 ^ 20) then
         bif Nat.beq vk1 ib0.length then
          rec ab0 bb0 cb0 cb1 (ib0 ++ ([([], 0, [], 0, [], 0)])) (IntKind.wrap .i64 (jb0 + (x2.length : Int))) x3 vk0 ((ib0 ++ ([([], 0, [], 0, [], 0)])).length)
         else
          none
        else
         none
       else
        (F.text_Parse n y4.1 ab0).bind fun y5 =>
         bif !((y5.2.1.1 == (0 : Int)) && (y5.2.1.2.1 == (0 : Int))) then
          kr ab0 [] y5.2.1.1 (IntKind.wrap .i64 (jb0 + y5.2.1.2.1)) ib0 jb0 x3 0 vk1
         else
         bif decide ((ib0.length + 1) * 88 ≤ 2 ^ 46) && decide (0 < 88 ∧ 88 ≤ 2 ^ 20) then
          bif Nat.beq vk1 ib0.length then
           rec ab0 bb0 cb0 cb1 (ib0 ++ ([(y5.1.1, y5.1.2.1, y5.1.2.2.1, y5.1.2.2.2.1, y5.1.2.2.2.2.1, y5.1.2.2.2.2.2.1)])) (IntKind.wrap .i64 (jb0 + (x2.length : Int))) x3 vk0 ((ib0 ++ ([(y5.1.1, y5.1.2.1, y5.1.2.2.1, y5.1.2.2.2.1, y5.1.2.2.2.2.1, y5.1.2.2.2.2.2.1)])).length)
          else
           none
         else
          none
   else
    (F.strings_CutSuffix n lb0 ([10])).bind fun y6 =>
     bif (ib0.length : Int) == (1000 : Int) then
      bif !(false && true) then
       kr ab0 [] (12 : Int) (IntKind.wrap .i64 (jb0 + (0 : Int))) ib0 jb0 [] 0 vk1
      else
      bif decide ((ib0.length + 1) * 88 ≤ 2 ^ 46) && decide (0 < 88 ∧ 88 ≤ 2 ^ 20) then
       bif Nat.beq vk1 ib0.length then
        rec ab0 bb0 cb0 cb1 (ib0 ++ ([([], 0, [], 0, [], 0)])) (IntKind.wrap .i64 (jb0 + (lb0.length : Int))) [] vk0 ((ib0 ++ ([([], 0, [], 0, [], 0)])).length)
       else
        none
      else
       none
     else
     bif !y6.2.1 then
      bif !(false && true) then
       kr ab0 [] (30 : Int) (IntKind.wrap .i64 (jb0 + (0 : Int))) ib0 jb0 [] 0 vk1
      else
      bif decide ((ib0.length + 1) * 88 ≤ 2 ^ 46) && decide (0 < 88 ∧ 88 ≤ 2 ^ 20) then
       bif Nat.beq vk1 ib0.length then
        rec ab0 bb0 cb0 cb1 (ib0 ++ ([([], 0, [], 0, [], 0)])) (IntKind.wrap .i64 (jb0 + (lb0.length : Int))) [] vk0 ((ib0 ++ ([([], 0, [], 0, [], 0)])).length)
       else
        none
      else
       none
     else
      (F.text_Parse n y6.1 ab0).bind fun y7 =>
       bif !((y7.2.1.1 == (0 : Int)) && (y7.2.1.2.1 == (0 : Int))) then
        kr ab0 [] y7.2.1.1 (IntKind.wrap .i64 (jb0 + y7.2.1.2.1)) ib0 jb0 [] 0 vk1
       else
       bif decide ((ib0.length + 1) * 88 ≤ 2 ^ 46) && decide (0 < 88 ∧ 88 ≤ 2 ^ 20) then
        bif Nat.beq vk1 ib0.length then
         rec ab0 bb0 cb0 cb1 (ib0 ++ ([(y7.1.1, y7.1.2.1, y7.1.2.2.1, y7.1.2.2.2.1, y7.1.2.2.2.2.1, y7.1.2.2.2.2.2.1)])) (IntKind.wrap .i64 (jb0 + (lb0.length : Int))) [] vk0 ((ib0 ++ ([(y7.1.1, y7.1.2.1, y7.1.2.2.1, y7.1.2.2.2.1, y7.1.2.2.2.2.1, y7.1.2.2.2.2.2.1)])).length)
        else
         none
       else
        none
 else
  k0 ab0 bb0 cb0 cb1 ib0 jb0 lb0 vk0 vk1
noncomputable def F.text_Decode.L0_strings_Lines_1 {X : Type} (n : Nat) (k0 : Int → Z9 → Int → Int → Z9 → Int → Z0 → Nat → Nat → Option X) (kr : Int → Z9 → Int → Int → Z9 → Int → Z0 → Nat → Nat → Option X) : Nat → Int → Z9 → Int → Int → Z9 → Int → Z0 → Nat → Nat → Option X
 | 0 => fun _ _ _ _ _ _ _ _ _ => none
 | m + 1 => fun ab0 bb0 cb0 cb1 ib0 jb0 lb0 vk0 vk1 => F.text_Decode.L0_strings_Lines_1.step n (F.text_Decode.L0_strings_Lines_1 n k0 kr m) k0 kr ab0 bb0 cb0 cb1 ib0 jb0 lb0 vk0 vk1
noncomputable def F.text_Decode (n : Nat) (a0 : Z3) (a1 : Int) : Option ((Z9) × (Z10) × Unit) :=
 bif a1 == (1 : Int) then
  F.text_Decode.L0_strings_Lines_1 n
   (fun g0 h0 i0 i1 o0 p0 q0 ek0 ek1 =>
    some ((o0, ((0 : Int), (0 : Int), ()), ())))
   (fun g0 h0 i0 i1 o0 p0 q0 ek0 ek1 =>
    some ((h0, (i0, i1, ()), ()))) n a1 [] (0 : Int) (0 : Int) [] (0 : Int) a0 0 0
 else
 bif a1 == (2 : Int) then
  F.text_Decode.L0_strings_Lines_1 n
   (fun g0 h0 i0 i1 o0 p0 q0 ek0 ek1 =>
    some ((o0, ((0 : Int), (0 : Int), ()), ())))
   (fun g0 h0 i0 i1 o0 p0 q0 ek0 ek1 =>
    some ((h0, (i0, i1, ()), ()))) n a1 [] (0 : Int) (0 : Int) [] (0 : Int) a0 0 0
 else
 bif a1 == (3 : Int) then
  F.text_Decode.L0_strings_Lines_1 n
   (fun g0 h0 i0 i1 o0 p0 q0 ek0 ek1 =>
    some ((o0, ((0 : Int), (0 : Int), ()), ())))
   (fun g0 h0 i0 i1 o0 p0 q0 ek0 ek1 =>
    some ((h0, (i0, i1, ()), ()))) n a1 [] (0 : Int) (0 : Int) [] (0 : Int) a0 0 0
 else
  some (([], ((29 : Int), (0 : Int), ()), ()))
noncomputable def F.law13_awake (n : Nat) : Option (Bool) :=
 (F.text_Decode n ([UInt8.ofNat ((97 : Int)).toNat, UInt8.ofNat ((58 : Int)).toNat, UInt8.ofNat ((49 : Int)).toNat, UInt8.ofNat ((124 : Int)).toNat, UInt8.ofNat ((99 : Int)).toNat, UInt8.ofNat ((10 : Int)).toNat, UInt8.ofNat ((98 : Int)).toNat, UInt8.ofNat ((58 : Int)).toNat, UInt8.ofNat ((50 : Int)).toNat, UInt8.ofNat ((124 : Int)).toNat, UInt8.ofNat ((103 : Int)).toNat, UInt8.ofNat ((10 : Int)).toNat]) (1 : Int)).bind fun y1 =>
  (F.text_Decode n ([UInt8.ofNat ((97 : Int)).toNat, UInt8.ofNat ((58 : Int)).toNat, UInt8.ofNat ((49 : Int)).toNat, UInt8.ofNat ((124 : Int)).toNat, UInt8.ofNat ((99 : Int)).toNat, UInt8.ofNat ((10 : Int)).toNat, UInt8.ofNat ((98 : Int)).toNat, UInt8.ofNat ((58 : Int)).toNat, UInt8.ofNat ((120 : Int)).toNat, UInt8.ofNat ((124 : Int)).toNat, UInt8.ofNat ((103 : Int)).toNat, UInt8.ofNat ((10 : Int)).toNat]) (1 : Int)).bind fun y2 =>
   (F.text_Decode n ([UInt8.ofNat ((97 : Int)).toNat, UInt8.ofNat ((58 : Int)).toNat, UInt8.ofNat ((49 : Int)).toNat, UInt8.ofNat ((124 : Int)).toNat, UInt8.ofNat ((99 : Int)).toNat]) (1 : Int)).bind fun y3 =>
    (F.text_Decode n ([UInt8.ofNat ((97 : Int)).toNat, UInt8.ofNat ((58 : Int)).toNat, UInt8.ofNat ((49 : Int)).toNat, UInt8.ofNat ((124 : Int)).toNat, UInt8.ofNat ((99 : Int)).toNat, UInt8.ofNat ((10 : Int)).toNat, UInt8.ofNat ((10 : Int)).toNat]) (1 : Int)).bind fun y4 =>
     bif (y1.2.1.1 == (0 : Int)) && (y1.2.1.2.1 == (0 : Int)) then
      bif (y1.1.length : Int) == (2 : Int) then
       (idx y1.1 (0 : Int)).bind fun x5 =>
        bif x5.1 == ([97]) then
         (idx y1.1 (1 : Int)).bind fun x6 =>
          bif x6.1 == ([98]) then
           bif (y2.2.1.1 == (17 : Int)) && (y2.2.1.2.1 == (8 : Int)) then
            bif (y3.2.1.1 == (30 : Int)) && (y3.2.1.2.1 == (0 : Int)) then
             some ((y4.2.1.1 == (15 : Int)) && (y4.2.1.2.1 == (6 : Int)))
            else
             some (false)
           else
            some (false)
          else
           some (false)
        else
         some (false)
      else
       some (false)
     else
      some (false)
noncomputable def F.law13_TextMany.L8.step {X : Type} (n : Nat) (rec : Int → Int → Int → Z0 → Z1 → Int → Z2 → Option X) (k0 : Int → Int → Int → Z0 → Z1 → Z2 → Option X) (v0 : Int) (v1 : Int) (v2 : Int) (v7 : Z0) (v8 : Z1) (v9 : Int) (ab0 : Z2) : Option X :=
 bif decide (v9 < v0) then
  bif Nat.beq v8.1 ab0.1 then
   bif decide ((ab0.2.length + v7.length) * 1 ≤ 2 ^ 46) && decide (0 < 1 ∧ 1 ≤ 2 ^ 20) then
    rec v0 v1 v2 v7 (v8.1 + 1, (ab0.2 ++ v7).length) (IntKind.wrap .i64 (v9 + (1 : Int))) (v8.1 + 1, ab0.2 ++ v7)
   else
    none
  else
   none
 else
  k0 v0 v1 v2 v7 (v8.1, v8.2) (ab0.1, ab0.2)
noncomputable def F.law13_TextMany.L8 {X : Type} (n : Nat) (k0 : Int → Int → Int → Z0 → Z1 → Z2 → Option X) : Nat → Int → Int → Int → Z0 → Z1 → Int → Z2 → Option X
 | 0 => fun _ _ _ _ _ _ _ => none
 | m + 1 => fun v0 v1 v2 v7 v8 v9 ab0 => F.law13_TextMany.L8.step n (F.law13_TextMany.L8 n k0 m) k0 v0 v1 v2 v7 v8 v9 ab0
noncomputable def F.law13_TextMany.L21.step {X : Type} (n : Nat) (rec : Int → Int → Z0 → Z3 → Nat → Option X) (k2 : Int → Int → Z0 → Z3 → Nat → Option X) (v1 : Int) (v2 : Int) (v7 : Z0) (v12 : Z3) (vk0 : Nat) : Option X :=
 bif decide ((v12.length : Int) < (IntKind.wrap .i64 (v2 - (3 : Int)))) then
  bif decide ((v12.length + 1) * 1 ≤ 2 ^ 46) && decide (0 < 1 ∧ 1 ≤ 2 ^ 20) then
   bif Nat.beq vk0 v12.length then
    rec v1 v2 v7 (v12 ++ ([UInt8.ofNat ((48 : Int)).toNat])) ((v12 ++ ([UInt8.ofNat ((48 : Int)).toNat])).length)
   else
    none
  else
   none
 else
  k2 v1 v2 v7 v12 vk0
noncomputable def F.law13_TextMany.L21 {X : Type} (n : Nat) (k2 : Int → Int → Z0 → Z3 → Nat → Option X) : Nat → Int → Int → Z0 → Z3 → Nat → Option X
 | 0 => fun _ _ _ _ _ => none
 | m + 1 => fun v1 v2 v7 v12 vk0 => F.law13_TextMany.L21.step n (F.law13_TextMany.L21 n k2 m) k2 v1 v2 v7 v12 vk0
noncomputable def F.law13_TextMany.C21 {X : Type} (n : Nat) (kr : Bool → Option X) (c1 : Int) (c2 : Int) (c7 : Z0) (c12 : Z3) (ck0 : Nat) : Option X :=
 F.law13_TextMany.L21 n
  (fun e1 e2 e7 e12 ek0 =>
   (sub e7 (2 : Int) (5 : Int)).bind fun x16 =>
    bif decide ((e12.length + x16.length) * 1 ≤ 2 ^ 46) && decide (0 < 1 ∧ 1 ≤ 2 ^ 20) then
     bif Nat.beq ek0 e12.length then
      bif decide ((((e12 ++ x16).length) + 1) * 1 ≤ 2 ^ 46) && decide (0 < 1 ∧ 1 ≤ 2 ^ 20) then
       bif Nat.beq ((e12 ++ x16).length) ((e12 ++ x16).length) then
        (F.text_Decode n ((e12 ++ x16) ++ ([UInt8.ofNat ((10 : Int)).toNat])) e1).bind fun y17 =>
         bif decide (e2 > (8192 : Int)) then
          bif (y17.2.1.1 == (12 : Int)) && (y17.2.1.2.1 == (0 : Int)) then
           (F.law13_awake n ).bind fun y18 =>
            kr y18
          else
           kr false
         else
         bif (y17.2.1.1 == (0 : Int)) && (y17.2.1.2.1 == (0 : Int)) then
          (F.law13_awake n ).bind fun y19 =>
           kr y19
         else
          kr false
       else
        none
      else
       none
     else
      none
    else
     none) n c1 c2 c7 c12 ck0
noncomputable def F.law13_TextMany.C6 {X : Type} (n : Nat) (kr : Bool → Option X) (c0 : Int) (c1 : Int) (c2 : Int) (c7 : Z0) : Option X :=
 F.law13_TextMany.L8 n
  (fun e0 e1 e2 e7 e8 g0 =>
   bif Nat.beq e8.1 g0.1 then
    (F.text_Decode n g0.2 e1).bind fun y23 =>
     bif decide (e1 < (1 : Int)) then
      bif (y23.2.1.1 == (29 : Int)) && (y23.2.1.2.1 == (0 : Int)) then
       bif (y23.1.length : Int) == (0 : Int) then
        (F.law13_awake n ).bind fun y24 =>
         kr y24
       else
        kr false
      else
       kr false
     else
     bif decide (e1 > (3 : Int)) then
      bif (y23.2.1.1 == (29 : Int)) && (y23.2.1.2.1 == (0 : Int)) then
       bif (y23.1.length : Int) == (0 : Int) then
        (F.law13_awake n ).bind fun y25 =>
         kr y25
       else
        kr false
      else
       kr false
     else
     bif decide (e0 > (1000 : Int)) then
      bif (y23.2.1.1 == (12 : Int)) && (y23.2.1.2.1 == (6000 : Int)) then
       bif (y23.1.length : Int) == (0 : Int) then
        (F.law13_awake n ).bind fun y26 =>
         kr y26
       else
        kr false
      else
       kr false
     else
     bif !((y23.2.1.1 == (0 : Int)) && (y23.2.1.2.1 == (0 : Int))) then
      kr false
     else
     bif !((y23.1.length : Int) == e0) then
      kr false
     else
     bif !(e1 == (3 : Int)) then
      F.law13_TextMany.C21 n
       (fun e6 =>
        kr e6) e1 e2 e7 ([UInt8.ofNat ((97 : Int)).toNat, UInt8.ofNat ((58 : Int)).toNat]) 2
     else
      F.law13_TextMany.C21 n
       (fun e6 =>
        kr e6) e1 e2 e7 ([UInt8.ofNat ((97 : Int)).toNat, UInt8.ofNat ((32 : Int)).toNat]) 2
   else
    none) n c0 c1 c2 c7 (1, 0) (0 : Int) (1, [])
noncomputable def F.law13_TextMany (n : Nat) (a0 : Int) (a1 : Int) (a2 : Int) : Option (Bool) :=
 bif decide (a0 < (990 : Int)) then
  (F.law13_awake n ).bind fun y1 =>
   some (y1)
 else
 bif decide (a0 > (1010 : Int)) then
  (F.law13_awake n ).bind fun y2 =>
   some (y2)
 else
 bif decide (a2 < (8180 : Int)) then
  (F.law13_awake n ).bind fun y3 =>
   some (y3)
 else
 bif decide (a2 > (8200 : Int)) then
  (F.law13_awake n ).bind fun y4 =>
   some (y4)
 else
 bif a1 == (1 : Int) then
  F.law13_TextMany.C6 n
   (fun e6 =>
    some (e6)) a0 a1 a2 ([97, 58, 49, 124, 99, 10])
 else
 bif a1 == (2 : Int) then
  F.law13_TextMany.C6 n
   (fun e6 =>
    some (e6)) a0 a1 a2 ([97, 58, 49, 124, 99, 10])
 else
  F.law13_TextMany.C6 n
   (fun e6 =>
    some (e6)) a0 a1 a2 ([97, 32, 49, 32, 53, 10])
end Go.AM
namespace Go.Proofs
open Go.Shelf
def Tryz.lays161_ren : Go.Shelf.Ren := ⟨fun | 161 => 174 | 231 => 213 | 227 => 205 | 233 => 214 | 235 => 215 | 228 => 240 | 197 => 247 | 151 => 242 | 260 => 264 | 152 => 262 | 137 => 64 | 119 => 270 | 224 => 244 | 225 => 243 | 217 => 132 | 266 => 189 | n => n, fun | 9 => 9 | 4 => 4 | 3 => 3 | 5 => 5 | 117 => 230 | 116 => 229 | 0 => 0 | 124 => 233 | 105 => 254 | 21 => 21 | 119 => 276 | 46 => 216 | 139 => 279 | 138 => 278 | n => n, fun | 3 => 2 | 4 => 3 | n => n⟩
theorem Tryz.lays161 : Go.Proofs.Lays.n161 Tryz.prog Tryz.lays161_ren := {
  mixed := by kernel_rfl
  f119 := Tryz.func270.trans (congrArg some (by kernel_rfl))
  f137 := Tryz.func64.trans (congrArg some (by kernel_rfl))
  f151 := Tryz.func242.trans (congrArg some (by kernel_rfl))
  f152 := Tryz.func262.trans (congrArg some (by kernel_rfl))
  f161 := Tryz.func174.trans (congrArg some (by kernel_rfl))
  f197 := Tryz.func247.trans (congrArg some (by kernel_rfl))
  f217 := Tryz.func132.trans (congrArg some (by kernel_rfl))
  f224 := Tryz.func244.trans (congrArg some (by kernel_rfl))
  f225 := Tryz.func243.trans (congrArg some (by kernel_rfl))
  f227 := Tryz.func205.trans (congrArg some (by kernel_rfl))
  f228 := Tryz.func240.trans (congrArg some (by kernel_rfl))
  f231 := Tryz.func213.trans (congrArg some (by kernel_rfl))
  f233 := Tryz.func214.trans (congrArg some (by kernel_rfl))
  f235 := Tryz.func215.trans (congrArg some (by kernel_rfl))
  f260 := Tryz.func264.trans (congrArg some (by kernel_rfl))
  f266 := Tryz.func189.trans (congrArg some (by kernel_rfl))
  t0 := Tryz.underlying0
  a0 := Tryz.isAgg0
  z0 := Tryz.sizeOf0
  v0 := Tryz.zeroValue0
  t3 := Tryz.underlying3
  a3 := Tryz.isAgg3
  z3 := Tryz.sizeOf3
  v3 := Tryz.zeroValue3
  t4 := Tryz.underlying4
  a4 := Tryz.isAgg4
  z4 := Tryz.sizeOf4
  v4 := Tryz.zeroValue4
  t5 := Tryz.underlying5
  a5 := Tryz.isAgg5
  z5 := Tryz.sizeOf5
  v5 := Tryz.zeroValue5
  t9 := Tryz.underlying9
  a9 := Tryz.isAgg9
  z9 := Tryz.sizeOf9
  v9 := Tryz.zeroValue9
  t21 := Tryz.underlying21
  a21 := Tryz.isAgg21
  z21 := Tryz.sizeOf21
  v21 := Tryz.zeroValue21
  t46 := Tryz.underlying216
  a46 := Tryz.isAgg216
  z46 := Tryz.sizeOf216
  v46 := Tryz.zeroValue216
  t105 := Tryz.underlying254
  a105 := Tryz.isAgg254
  z105 := Tryz.sizeOf254
  v105 := Tryz.zeroValue254
  t116 := Tryz.underlying229
  a116 := Tryz.isAgg229
  z116 := Tryz.sizeOf229
  t117 := Tryz.underlying230
  a117 := Tryz.isAgg230
  z117 := Tryz.sizeOf230
  v117 := Tryz.zeroValue230
  t119 := Tryz.underlying276
  a119 := Tryz.isAgg276
  z119 := Tryz.sizeOf276
  t124 := Tryz.underlying233
  a124 := Tryz.isAgg233
  z124 := Tryz.sizeOf233
  v124 := Tryz.zeroValue233
  t138 := Tryz.underlying278
  a138 := Tryz.isAgg278
  z138 := Tryz.sizeOf278
  v138 := Tryz.zeroValue278
  t139 := Tryz.underlying279
  a139 := Tryz.isAgg279
  z139 := Tryz.sizeOf279
  v139 := Tryz.zeroValue279
  g3 := by kernel_rfl
  g4 := by kernel_rfl }
open Go.RowKit in
theorem Tryz.strings_TrimLeft_one (s : ByteArray) (c : UInt8) (hc : c.toNat < 128) (w : World) :
    Calls Tryz.prog 174 #[.string s, .string ⟨#[c]⟩] w fun e w' => e = .returned (.string ⟨(Lib.trimLeftB s.data.toList c).toArray⟩) ∧ w' = w := Any.strings_TrimLeft_one Tryz.lays161 s c hc w
def Tryz.lays162_ren : Go.Shelf.Ren := ⟨fun | 162 => 169 | 232 => 204 | 227 => 205 | 234 => 206 | 236 => 207 | 228 => 240 | 271 => 241 | 151 => 242 | 120 => 261 | 197 => 247 | 152 => 262 | 260 => 264 | 137 => 64 | 119 => 270 | 224 => 244 | 225 => 243 | 217 => 132 | 266 => 189 | n => n, fun | 9 => 9 | 4 => 4 | 3 => 3 | 5 => 5 | 117 => 230 | 116 => 229 | 0 => 0 | 124 => 233 | 21 => 21 | 105 => 254 | 46 => 216 | 119 => 276 | 139 => 279 | 138 => 278 | n => n, fun | 3 => 2 | 4 => 3 | n => n⟩
theorem Tryz.lays162 : Go.Proofs.Lays.n162 Tryz.prog Tryz.lays162_ren := {
  mixed := by kernel_rfl
  f119 := Tryz.func270.trans (congrArg some (by kernel_rfl))
  f120 := Tryz.func261.trans (congrArg some (by kernel_rfl))
  f137 := Tryz.func64.trans (congrArg some (by kernel_rfl))
  f151 := Tryz.func242.trans (congrArg some (by kernel_rfl))
  f152 := Tryz.func262.trans (congrArg some (by kernel_rfl))
  f162 := Tryz.func169.trans (congrArg some (by kernel_rfl))
  f197 := Tryz.func247.trans (congrArg some (by kernel_rfl))
  f217 := Tryz.func132.trans (congrArg some (by kernel_rfl))
  f224 := Tryz.func244.trans (congrArg some (by kernel_rfl))
  f225 := Tryz.func243.trans (congrArg some (by kernel_rfl))
  f227 := Tryz.func205.trans (congrArg some (by kernel_rfl))
  f228 := Tryz.func240.trans (congrArg some (by kernel_rfl))
  f232 := Tryz.func204.trans (congrArg some (by kernel_rfl))
  f234 := Tryz.func206.trans (congrArg some (by kernel_rfl))
  f236 := Tryz.func207.trans (congrArg some (by kernel_rfl))
  f260 := Tryz.func264.trans (congrArg some (by kernel_rfl))
  f266 := Tryz.func189.trans (congrArg some (by kernel_rfl))
  f271 := Tryz.func241.trans (congrArg some (by kernel_rfl))
  t0 := Tryz.underlying0
  a0 := Tryz.isAgg0
  z0 := Tryz.sizeOf0
  v0 := Tryz.zeroValue0
  t3 := Tryz.underlying3
  a3 := Tryz.isAgg3
  z3 := Tryz.sizeOf3
  v3 := Tryz.zeroValue3
  t4 := Tryz.underlying4
  a4 := Tryz.isAgg4
  z4 := Tryz.sizeOf4
  v4 := Tryz.zeroValue4
  t5 := Tryz.underlying5
  a5 := Tryz.isAgg5
  z5 := Tryz.sizeOf5
  v5 := Tryz.zeroValue5
  t9 := Tryz.underlying9
  a9 := Tryz.isAgg9
  z9 := Tryz.sizeOf9
  v9 := Tryz.zeroValue9
  t21 := Tryz.underlying21
  a21 := Tryz.isAgg21
  z21 := Tryz.sizeOf21
  v21 := Tryz.zeroValue21
  t46 := Tryz.underlying216
  a46 := Tryz.isAgg216
  z46 := Tryz.sizeOf216
  v46 := Tryz.zeroValue216
  t105 := Tryz.underlying254
  a105 := Tryz.isAgg254
  z105 := Tryz.sizeOf254
  v105 := Tryz.zeroValue254
  t116 := Tryz.underlying229
  a116 := Tryz.isAgg229
  z116 := Tryz.sizeOf229
  t117 := Tryz.underlying230
  a117 := Tryz.isAgg230
  z117 := Tryz.sizeOf230
  v117 := Tryz.zeroValue230
  t119 := Tryz.underlying276
  a119 := Tryz.isAgg276
  z119 := Tryz.sizeOf276
  t124 := Tryz.underlying233
  a124 := Tryz.isAgg233
  z124 := Tryz.sizeOf233
  v124 := Tryz.zeroValue233
  t138 := Tryz.underlying278
  a138 := Tryz.isAgg278
  z138 := Tryz.sizeOf278
  v138 := Tryz.zeroValue278
  t139 := Tryz.underlying279
  a139 := Tryz.isAgg279
  z139 := Tryz.sizeOf279
  v139 := Tryz.zeroValue279
  g3 := by kernel_rfl
  g4 := by kernel_rfl }
open Go.RowKit in
theorem Tryz.strings_TrimRight_one (s : ByteArray) (c : UInt8) (hc : c.toNat < 128) (w : World) (hs : s.size ≤ 9223372036854775807) :
    Calls Tryz.prog 169 #[.string s, .string ⟨#[c]⟩] w fun e w' => e = .returned (.string ⟨(Lib.trimRightB s.data.toList c).toArray⟩) ∧ w' = w := Any.strings_TrimRight_one Tryz.lays162 s c hc w hs
def Tryz.laysC172_ren : Go.Shelf.Ren := ⟨fun | 172 => 250 | 244 => 265 | 245 => 266 | 247 => 271 | 279 => 272 | 280 => 273 | 281 => 274 | 282 => 275 | 287 => 276 | 316 => 277 | 171 => 168 | 205 => 278 | 321 => 279 | 322 => 280 | 243 => 203 | 246 => 239 | 283 => 233 | 284 => 234 | 285 => 235 | 286 => 236 | 129 => 231 | 317 => 256 | 318 => 257 | 319 => 258 | 320 => 259 | 337 => 268 | 338 => 269 | n => n, fun | 9 => 9 | 3 => 3 | 75 => 150 | 76 => 151 | 4 => 4 | 5 => 5 | 167 => 280 | 37 => 22 | 0 => 0 | 85 => 281 | 2 => 2 | 168 => 283 | 53 => 77 | 175 => 288 | 46 => 216 | 210 => 292 | 127 => 204 | 145 => 297 | 143 => 295 | 21 => 21 | 171 => 247 | 173 => 249 | 212 => 266 | 51 => 245 | 20 => 20 | 213 => 267 | 232 => 286 | 233 => 287 | 80 => 156 | n => n, fun | 15 => 6 | 16 => 7 | 17 => 1 | 18 => 4 | 19 => 5 | n => n⟩
theorem Tryz.laysC172 : Go.Proofs.LaysC.n172 Tryz.prog Tryz.laysC172_ren := {
  mixed := by kernel_rfl
  f129 := Tryz.func231.trans (congrArg some (by kernel_rfl))
  f171 := Tryz.func168.trans (congrArg some (by kernel_rfl))
  f172 := Tryz.func250.trans (congrArg some (by kernel_rfl))
  f205 := Tryz.func278.trans (congrArg some (by kernel_rfl))
  f243 := Tryz.func203.trans (congrArg some (by kernel_rfl))
  f244 := Tryz.func265.trans (congrArg some (by kernel_rfl))
  f245 := Tryz.func266.trans (congrArg some (by kernel_rfl))
  f246 := Tryz.func239.trans (congrArg some (by kernel_rfl))
  f247 := Tryz.func271.trans (congrArg some (by kernel_rfl))
  f279 := Tryz.func272.trans (congrArg some (by kernel_rfl))
  f280 := Tryz.func273.trans (congrArg some (by kernel_rfl))
  f281 := Tryz.func274.trans (congrArg some (by kernel_rfl))
  f282 := Tryz.func275.trans (congrArg some (by kernel_rfl))
  f283 := Tryz.func233.trans (congrArg some (by kernel_rfl))
  f284 := Tryz.func234.trans (congrArg some (by kernel_rfl))
  f285 := Tryz.func235.trans (congrArg some (by kernel_rfl))
  f286 := Tryz.func236.trans (congrArg some (by kernel_rfl))
  f287 := Tryz.func276.trans (congrArg some (by kernel_rfl))
  f316 := Tryz.func277.trans (congrArg some (by kernel_rfl))
  f317 := Tryz.func256.trans (congrArg some (by kernel_rfl))
  f318 := Tryz.func257.trans (congrArg some (by kernel_rfl))
  f319 := Tryz.func258.trans (congrArg some (by kernel_rfl))
  f320 := Tryz.func259.trans (congrArg some (by kernel_rfl))
  f321 := Tryz.func279.trans (congrArg some (by kernel_rfl))
  f322 := Tryz.func280.trans (congrArg some (by kernel_rfl))
  f337 := Tryz.func268.trans (congrArg some (by kernel_rfl))
  f338 := Tryz.func269.trans (congrArg some (by kernel_rfl))
  t0 := Tryz.underlying0
  a0 := Tryz.isAgg0
  z0 := Tryz.sizeOf0
  v0 := Tryz.zeroValue0
  t2 := Tryz.underlying2
  a2 := Tryz.isAgg2
  z2 := Tryz.sizeOf2
  v2 := Tryz.zeroValue2
  t3 := Tryz.underlying3
  a3 := Tryz.isAgg3
  z3 := Tryz.sizeOf3
  v3 := Tryz.zeroValue3
  t4 := Tryz.underlying4
  a4 := Tryz.isAgg4
  z4 := Tryz.sizeOf4
  v4 := Tryz.zeroValue4
  t5 := Tryz.underlying5
  a5 := Tryz.isAgg5
  z5 := Tryz.sizeOf5
  v5 := Tryz.zeroValue5
  t9 := Tryz.underlying9
  a9 := Tryz.isAgg9
  z9 := Tryz.sizeOf9
  v9 := Tryz.zeroValue9
  t20 := Tryz.underlying20
  a20 := Tryz.isAgg20
  z20 := Tryz.sizeOf20
  v20 := Tryz.zeroValue20
  t21 := Tryz.underlying21
  a21 := Tryz.isAgg21
  z21 := Tryz.sizeOf21
  v21 := Tryz.zeroValue21
  t37 := Tryz.underlying22
  a37 := Tryz.isAgg22
  z37 := Tryz.sizeOf22
  v37 := Tryz.zeroValue22
  t46 := Tryz.underlying216
  a46 := Tryz.isAgg216
  z46 := Tryz.sizeOf216
  v46 := Tryz.zeroValue216
  t51 := Tryz.underlying245
  a51 := Tryz.isAgg245
  z51 := Tryz.sizeOf245
  v51 := Tryz.zeroValue245
  t53 := Tryz.underlying77
  a53 := Tryz.isAgg77
  z53 := Tryz.sizeOf77
  v53 := Tryz.zeroValue77
  t75 := Tryz.underlying150
  a75 := Tryz.isAgg150
  z75 := Tryz.sizeOf150
  v75 := Tryz.zeroValue150
  t76 := Tryz.underlying151
  a76 := Tryz.isAgg151
  z76 := Tryz.sizeOf151
  v76 := Tryz.zeroValue151
  t85 := Tryz.underlying281
  a85 := Tryz.isAgg281
  z85 := Tryz.sizeOf281
  v85 := Tryz.zeroValue281
  t127 := Tryz.underlying204
  a127 := Tryz.isAgg204
  z127 := Tryz.sizeOf204
  v127 := Tryz.zeroValue204
  t143 := Tryz.underlying295
  a143 := Tryz.isAgg295
  z143 := Tryz.sizeOf295
  v143 := Tryz.zeroValue295
  t145 := Tryz.underlying297
  a145 := Tryz.isAgg297
  z145 := Tryz.sizeOf297
  v145 := Tryz.zeroValue297
  t167 := Tryz.underlying280
  a167 := Tryz.isAgg280
  z167 := Tryz.sizeOf280
  v167 := Tryz.zeroValue280
  t168 := Tryz.underlying283
  a168 := Tryz.isAgg283
  z168 := Tryz.sizeOf283
  v168 := Tryz.zeroValue283
  t171 := Tryz.underlying247
  a171 := Tryz.isAgg247
  z171 := Tryz.sizeOf247
  v171 := Tryz.zeroValue247
  t173 := Tryz.underlying249
  a173 := Tryz.isAgg249
  z173 := Tryz.sizeOf249
  v173 := Tryz.zeroValue249
  t175 := Tryz.underlying288
  a175 := Tryz.isAgg288
  z175 := Tryz.sizeOf288
  v175 := Tryz.zeroValue288
  t210 := Tryz.underlying292
  a210 := Tryz.isAgg292
  z210 := Tryz.sizeOf292
  v210 := Tryz.zeroValue292
  t212 := Tryz.underlying266
  a212 := Tryz.isAgg266
  z212 := Tryz.sizeOf266
  v212 := Tryz.zeroValue266
  t213 := Tryz.underlying267
  a213 := Tryz.isAgg267
  z213 := Tryz.sizeOf267
  t232 := Tryz.underlying286
  a232 := Tryz.isAgg286
  z232 := Tryz.sizeOf286
  v232 := Tryz.zeroValue286
  t233 := Tryz.underlying287
  a233 := Tryz.isAgg287
  z233 := Tryz.sizeOf287
  v233 := Tryz.zeroValue287
  g15 := by kernel_rfl
  g16 := by kernel_rfl
  g17 := by kernel_rfl
  g18 := by kernel_rfl
  g19 := by kernel_rfl
  t80 := Tryz.underlying156
  a80 := Tryz.isAgg156
  z80 := Tryz.sizeOf156
  v80 := Tryz.zeroValue156
  i0 := by kernel_rfl
  i2 := by kernel_rfl
  i3 := by kernel_rfl
  i4 := by kernel_rfl
  i5 := by kernel_rfl
  i9 := by kernel_rfl
  i20 := by kernel_rfl
  i21 := by kernel_rfl
  i37 := by kernel_rfl
  i46 := by kernel_rfl
  i51 := by kernel_rfl
  i53 := by kernel_rfl
  i75 := by kernel_rfl
  i76 := by kernel_rfl
  i80 := by kernel_rfl
  i85 := by kernel_rfl
  i127 := by kernel_rfl
  i143 := by kernel_rfl
  i145 := by kernel_rfl
  i167 := by kernel_rfl
  i168 := by kernel_rfl
  i171 := by kernel_rfl
  i173 := by kernel_rfl
  i175 := by kernel_rfl
  i210 := by kernel_rfl
  i212 := by kernel_rfl
  i232 := by kernel_rfl
  i233 := by kernel_rfl
  m15 := by kernel_rfl
  m16 := by kernel_rfl
  m17 := by kernel_rfl
  m18 := by kernel_rfl
  m19 := by kernel_rfl
  c0 := by kernel_rfl
  c2 := by kernel_rfl
  c3 := by kernel_rfl
  c4 := by kernel_rfl
  c5 := by kernel_rfl
  c9 := by kernel_rfl
  c20 := by kernel_rfl
  c21 := by kernel_rfl
  c37 := by kernel_rfl
  c46 := by kernel_rfl
  c51 := by kernel_rfl
  c53 := by kernel_rfl
  c75 := by kernel_rfl
  c76 := by kernel_rfl
  c80 := by kernel_rfl
  c85 := by kernel_rfl
  c127 := by kernel_rfl
  c143 := by kernel_rfl
  c145 := by kernel_rfl
  c167 := by kernel_rfl
  c168 := by kernel_rfl
  c171 := by kernel_rfl
  c173 := by kernel_rfl
  c175 := by kernel_rfl
  c210 := by kernel_rfl
  c212 := by kernel_rfl
  c213 := by kernel_rfl
  c232 := by kernel_rfl
  c233 := by kernel_rfl }
open Go.RowKit in
theorem Tryz.strconv_Atoi_ok (s : ByteArray) (hmax : s.size ≤ 9223372036854775806) (v : Int) (h : Lib.atoiAll s.data.toList = .ok v) (w : World) :
    Calls Tryz.prog 250 #[.string s] w fun e w' => e = .returned (.tuple #[.int .i64 v, .nilIface]) ∧ (w' = w ∨ ∃ t, w' = Lib.bytesWorld w 5 t) := Any.strconv_Atoi_ok Tryz.laysC172 s hmax v h w
def Tryz.lays217_ren : Go.Shelf.Ren := ⟨fun | 217 => 132 | 266 => 189 | n => n, fun | 9 => 9 | 5 => 5 | 3 => 3 | n => n, fun | n => n⟩
theorem Tryz.lays217 : Go.Proofs.Lays.n217 Tryz.prog Tryz.lays217_ren := {
  mixed := by kernel_rfl
  f217 := Tryz.func132.trans (congrArg some (by kernel_rfl))
  f266 := Tryz.func189.trans (congrArg some (by kernel_rfl))
  t3 := Tryz.underlying3
  a3 := Tryz.isAgg3
  z3 := Tryz.sizeOf3
  v3 := Tryz.zeroValue3
  t5 := Tryz.underlying5
  a5 := Tryz.isAgg5
  z5 := Tryz.sizeOf5
  v5 := Tryz.zeroValue5
  t9 := Tryz.underlying9
  a9 := Tryz.isAgg9
  z9 := Tryz.sizeOf9
  v9 := Tryz.zeroValue9 }
open Go.RowKit Go.Lib in
theorem Tryz.stringslite_IndexByte (s : ByteArray) (c : Int) (w : World) :
    Calls Tryz.prog 132 #[.string s, .int .u8 c] w fun e w' => e = .returned (.int .i64 (Lib.indexByte s.data.toList c.toNat.toUInt8)) ∧ w' = w := Any.stringslite_IndexByte Tryz.lays217 s c w
def Tryz.lays219_ren : Go.Shelf.Ren := ⟨fun | 219 => 208 | 217 => 132 | 225 => 243 | 224 => 244 | 267 => 245 | 266 => 189 | 314 => 263 | n => n, fun | 9 => 9 | 3 => 3 | 4 => 4 | 5 => 5 | 46 => 216 | 146 => 251 | 51 => 245 | n => n, fun | 1 => 0 | n => n⟩
theorem Tryz.lays219 : Go.Proofs.Lays.n219 Tryz.prog Tryz.lays219_ren := {
  mixed := by kernel_rfl
  f217 := Tryz.func132.trans (congrArg some (by kernel_rfl))
  f219 := Tryz.func208.trans (congrArg some (by kernel_rfl))
  f224 := Tryz.func244.trans (congrArg some (by kernel_rfl))
  f225 := Tryz.func243.trans (congrArg some (by kernel_rfl))
  f266 := Tryz.func189.trans (congrArg some (by kernel_rfl))
  f267 := Tryz.func245.trans (congrArg some (by kernel_rfl))
  f314 := Tryz.func263.trans (congrArg some (by kernel_rfl))
  t3 := Tryz.underlying3
  a3 := Tryz.isAgg3
  z3 := Tryz.sizeOf3
  v3 := Tryz.zeroValue3
  t4 := Tryz.underlying4
  a4 := Tryz.isAgg4
  z4 := Tryz.sizeOf4
  v4 := Tryz.zeroValue4
  t5 := Tryz.underlying5
  a5 := Tryz.isAgg5
  z5 := Tryz.sizeOf5
  v5 := Tryz.zeroValue5
  t9 := Tryz.underlying9
  a9 := Tryz.isAgg9
  z9 := Tryz.sizeOf9
  v9 := Tryz.zeroValue9
  t46 := Tryz.underlying216
  a46 := Tryz.isAgg216
  z46 := Tryz.sizeOf216
  v46 := Tryz.zeroValue216
  t51 := Tryz.underlying245
  a51 := Tryz.isAgg245
  z51 := Tryz.sizeOf245
  v51 := Tryz.zeroValue245
  t146 := Tryz.underlying251
  a146 := Tryz.isAgg251
  z146 := Tryz.sizeOf251
  v146 := Tryz.zeroValue251
  g1 := by kernel_rfl }
open Go.RowKit Go.Lib in
theorem Tryz.stringslite_Index_one (s : ByteArray) (c : UInt8) (w : World) :
    Calls Tryz.prog 208 #[.string s, .string ⟨#[c]⟩] w fun e w' => e = .returned (.int .i64 (Lib.indexByte s.data.toList c)) ∧ w' = w := Any.stringslite_Index_one Tryz.lays219 s c w
def Tryz.lays143_ren : Go.Shelf.Ren := ⟨fun | 143 => 219 | 219 => 208 | 217 => 132 | 225 => 243 | 224 => 244 | 267 => 245 | 266 => 189 | 314 => 263 | n => n, fun | 9 => 9 | 3 => 3 | 4 => 4 | 5 => 5 | 46 => 216 | 146 => 251 | 51 => 245 | n => n, fun | 1 => 0 | n => n⟩
theorem Tryz.lays143 : Go.Proofs.Lays.n143 Tryz.prog Tryz.lays143_ren := {
  mixed := by kernel_rfl
  f143 := Tryz.func219.trans (congrArg some (by kernel_rfl))
  f217 := Tryz.func132.trans (congrArg some (by kernel_rfl))
  f219 := Tryz.func208.trans (congrArg some (by kernel_rfl))
  f224 := Tryz.func244.trans (congrArg some (by kernel_rfl))
  f225 := Tryz.func243.trans (congrArg some (by kernel_rfl))
  f266 := Tryz.func189.trans (congrArg some (by kernel_rfl))
  f267 := Tryz.func245.trans (congrArg some (by kernel_rfl))
  f314 := Tryz.func263.trans (congrArg some (by kernel_rfl))
  t3 := Tryz.underlying3
  a3 := Tryz.isAgg3
  z3 := Tryz.sizeOf3
  v3 := Tryz.zeroValue3
  t4 := Tryz.underlying4
  a4 := Tryz.isAgg4
  z4 := Tryz.sizeOf4
  v4 := Tryz.zeroValue4
  t5 := Tryz.underlying5
  a5 := Tryz.isAgg5
  z5 := Tryz.sizeOf5
  v5 := Tryz.zeroValue5
  t9 := Tryz.underlying9
  a9 := Tryz.isAgg9
  z9 := Tryz.sizeOf9
  v9 := Tryz.zeroValue9
  t46 := Tryz.underlying216
  a46 := Tryz.isAgg216
  z46 := Tryz.sizeOf216
  v46 := Tryz.zeroValue216
  t51 := Tryz.underlying245
  a51 := Tryz.isAgg245
  z51 := Tryz.sizeOf245
  v51 := Tryz.zeroValue245
  t146 := Tryz.underlying251
  a146 := Tryz.isAgg251
  z146 := Tryz.sizeOf251
  v146 := Tryz.zeroValue251
  g1 := by kernel_rfl }
open Go.RowKit Go.Lib in
theorem Tryz.strings_Index_one (s : ByteArray) (c : UInt8) (w : World) :
    Calls Tryz.prog 219 #[.string s, .string ⟨#[c]⟩] w fun e w' => e = .returned (.int .i64 (Lib.indexByte s.data.toList c)) ∧ w' = w := Any.strings_Index_one Tryz.lays143 s c w
def Tryz.lays138_ren : Go.Shelf.Ren := ⟨fun | 138 => 218 | 195 => 248 | 218 => 249 | 143 => 219 | 219 => 208 | 217 => 132 | 225 => 243 | 224 => 244 | 267 => 245 | 266 => 189 | 314 => 263 | n => n, fun | 9 => 9 | 3 => 3 | 4 => 4 | 5 => 5 | 0 => 0 | 46 => 216 | 146 => 251 | 51 => 245 | n => n, fun | 1 => 0 | n => n⟩
theorem Tryz.lays138 : Go.Proofs.Lays.n138 Tryz.prog Tryz.lays138_ren := {
  mixed := by kernel_rfl
  f138 := Tryz.func218.trans (congrArg some (by kernel_rfl))
  f143 := Tryz.func219.trans (congrArg some (by kernel_rfl))
  f195 := Tryz.func248.trans (congrArg some (by kernel_rfl))
  f217 := Tryz.func132.trans (congrArg some (by kernel_rfl))
  f218 := Tryz.func249.trans (congrArg some (by kernel_rfl))
  f219 := Tryz.func208.trans (congrArg some (by kernel_rfl))
  f224 := Tryz.func244.trans (congrArg some (by kernel_rfl))
  f225 := Tryz.func243.trans (congrArg some (by kernel_rfl))
  f266 := Tryz.func189.trans (congrArg some (by kernel_rfl))
  f267 := Tryz.func245.trans (congrArg some (by kernel_rfl))
  f314 := Tryz.func263.trans (congrArg some (by kernel_rfl))
  t0 := Tryz.underlying0
  a0 := Tryz.isAgg0
  z0 := Tryz.sizeOf0
  v0 := Tryz.zeroValue0
  t3 := Tryz.underlying3
  a3 := Tryz.isAgg3
  z3 := Tryz.sizeOf3
  v3 := Tryz.zeroValue3
  t4 := Tryz.underlying4
  a4 := Tryz.isAgg4
  z4 := Tryz.sizeOf4
  v4 := Tryz.zeroValue4
  t5 := Tryz.underlying5
  a5 := Tryz.isAgg5
  z5 := Tryz.sizeOf5
  v5 := Tryz.zeroValue5
  t9 := Tryz.underlying9
  a9 := Tryz.isAgg9
  z9 := Tryz.sizeOf9
  v9 := Tryz.zeroValue9
  t46 := Tryz.underlying216
  a46 := Tryz.isAgg216
  z46 := Tryz.sizeOf216
  v46 := Tryz.zeroValue216
  t51 := Tryz.underlying245
  a51 := Tryz.isAgg245
  z51 := Tryz.sizeOf245
  v51 := Tryz.zeroValue245
  t146 := Tryz.underlying251
  a146 := Tryz.isAgg251
  z146 := Tryz.sizeOf251
  v146 := Tryz.zeroValue251
  g1 := by kernel_rfl }
open Go.RowKit Go.Lib in
theorem Tryz.strings_Count_one (s : ByteArray) (c : UInt8) (w : World) :
    Calls Tryz.prog 218 #[.string s, .string ⟨#[c]⟩] w fun e w' => e = .returned (.int .i64 (Lib.countByte s.data.toList c)) ∧ w' = w := Any.strings_Count_one Tryz.lays138 s c w
def Tryz.lays221_ren : Go.Shelf.Ren := ⟨fun | 221 => 181 | 268 => 217 | 138 => 218 | 143 => 219 | 195 => 248 | 197 => 247 | 218 => 249 | 219 => 208 | 260 => 264 | 217 => 132 | 225 => 243 | 224 => 244 | 267 => 245 | 266 => 189 | 314 => 263 | n => n, fun | 9 => 9 | 3 => 3 | 31 => 52 | 4 => 4 | 0 => 0 | 105 => 254 | 21 => 21 | 5 => 5 | 46 => 216 | 119 => 276 | 139 => 279 | 138 => 278 | 146 => 251 | 51 => 245 | n => n, fun | 1 => 0 | 3 => 2 | 4 => 3 | n => n⟩
theorem Tryz.lays221 : Go.Proofs.Lays.n221 Tryz.prog Tryz.lays221_ren := {
  mixed := by kernel_rfl
  f138 := Tryz.func218.trans (congrArg some (by kernel_rfl))
  f143 := Tryz.func219.trans (congrArg some (by kernel_rfl))
  f195 := Tryz.func248.trans (congrArg some (by kernel_rfl))
  f197 := Tryz.func247.trans (congrArg some (by kernel_rfl))
  f217 := Tryz.func132.trans (congrArg some (by kernel_rfl))
  f218 := Tryz.func249.trans (congrArg some (by kernel_rfl))
  f219 := Tryz.func208.trans (congrArg some (by kernel_rfl))
  f221 := Tryz.func181.trans (congrArg some (by kernel_rfl))
  f224 := Tryz.func244.trans (congrArg some (by kernel_rfl))
  f225 := Tryz.func243.trans (congrArg some (by kernel_rfl))
  f260 := Tryz.func264.trans (congrArg some (by kernel_rfl))
  f266 := Tryz.func189.trans (congrArg some (by kernel_rfl))
  f267 := Tryz.func245.trans (congrArg some (by kernel_rfl))
  f268 := Tryz.func217.trans (congrArg some (by kernel_rfl))
  f314 := Tryz.func263.trans (congrArg some (by kernel_rfl))
  t0 := Tryz.underlying0
  a0 := Tryz.isAgg0
  z0 := Tryz.sizeOf0
  v0 := Tryz.zeroValue0
  t3 := Tryz.underlying3
  a3 := Tryz.isAgg3
  z3 := Tryz.sizeOf3
  v3 := Tryz.zeroValue3
  t4 := Tryz.underlying4
  a4 := Tryz.isAgg4
  z4 := Tryz.sizeOf4
  v4 := Tryz.zeroValue4
  t5 := Tryz.underlying5
  a5 := Tryz.isAgg5
  z5 := Tryz.sizeOf5
  v5 := Tryz.zeroValue5
  t9 := Tryz.underlying9
  a9 := Tryz.isAgg9
  z9 := Tryz.sizeOf9
  v9 := Tryz.zeroValue9
  t21 := Tryz.underlying21
  a21 := Tryz.isAgg21
  z21 := Tryz.sizeOf21
  v21 := Tryz.zeroValue21
  t31 := Tryz.underlying52
  a31 := Tryz.isAgg52
  z31 := Tryz.sizeOf52
  v31 := Tryz.zeroValue52
  t46 := Tryz.underlying216
  a46 := Tryz.isAgg216
  z46 := Tryz.sizeOf216
  v46 := Tryz.zeroValue216
  t51 := Tryz.underlying245
  a51 := Tryz.isAgg245
  z51 := Tryz.sizeOf245
  v51 := Tryz.zeroValue245
  t105 := Tryz.underlying254
  a105 := Tryz.isAgg254
  z105 := Tryz.sizeOf254
  v105 := Tryz.zeroValue254
  t119 := Tryz.underlying276
  a119 := Tryz.isAgg276
  z119 := Tryz.sizeOf276
  t138 := Tryz.underlying278
  a138 := Tryz.isAgg278
  z138 := Tryz.sizeOf278
  v138 := Tryz.zeroValue278
  t139 := Tryz.underlying279
  a139 := Tryz.isAgg279
  z139 := Tryz.sizeOf279
  v139 := Tryz.zeroValue279
  t146 := Tryz.underlying251
  a146 := Tryz.isAgg251
  z146 := Tryz.sizeOf251
  v146 := Tryz.zeroValue251
  g1 := by kernel_rfl
  g3 := by kernel_rfl
  g4 := by kernel_rfl }
def Tryz.lays264_ren : Go.Shelf.Ren := ⟨fun | 264 => 190 | n => n, fun | 53 => 77 | 46 => 216 | n => n, fun | n => n⟩
theorem Tryz.lays264 : Go.Proofs.Lays.n264 Tryz.prog Tryz.lays264_ren := {
  mixed := by kernel_rfl
  f264 := Tryz.func190.trans (congrArg some (by kernel_rfl))
  t46 := Tryz.underlying216
  a46 := Tryz.isAgg216
  z46 := Tryz.sizeOf216
  v46 := Tryz.zeroValue216
  t53 := Tryz.underlying77
  a53 := Tryz.isAgg77
  z53 := Tryz.sizeOf77
  v53 := Tryz.zeroValue77 }
open Go.RowKit Go.Lib in
theorem Tryz.bits_Mul64 (x y : Nat) (hx : x < 18446744073709551616) (hy : y < 18446744073709551616) (w : World) :
    Calls Tryz.prog 190 #[.int .u64 x, .int .u64 y] w fun e w' => e = .returned (.tuple #[.int .u64 ((x * y / 18446744073709551616 : Nat) : Int), .int .u64 ((x * y % 18446744073709551616 : Nat) : Int)]) ∧ w' = w := Any.bits_Mul64 Tryz.lays264 x y hx hy w
def Tryz.laySort_ren : Go.Shelf.Ren := ⟨fun | 6 => 136 | 15 => 193 | 14 => 192 | 28 => 230 | 29 => 231 | 20 => 222 | 21 => 223 | 22 => 224 | 23 => 225 | 24 => 226 | 25 => 227 | 26 => 228 | 27 => 229 | 46 => 251 | 47 => 252 | 48 => 253 | 49 => 254 | 50 => 255 | 57 => 267 | n => n, fun | 22 => 34 | 24 => 76 | 25 => 174 | 3 => 3 | 39 => 216 | 0 => 0 | 53 => 245 | 55 => 77 | 4 => 4 | 46 => 239 | 45 => 238 | 50 => 177 | 5 => 5 | 9 => 9 | 66 => 259 | 70 => 263 | 76 => 272 | 77 => 273 | n => n, fun | n => n⟩
theorem Tryz.laySort : Go.Proofs.SlLaysF0.n6 Tryz.prog Tryz.laySort_ren := {
  mixed := by kernel_rfl
  f6 := ⟨Tryz.f136.name, by decide, Tryz.func136.trans (congrArg some (by kernel_rfl))⟩
  f14 := ⟨Tryz.f192.name, by decide, Tryz.func192.trans (congrArg some (by kernel_rfl))⟩
  f15 := Tryz.func193.trans (congrArg some (by kernel_rfl))
  f20 := ⟨Tryz.f222.name, by decide, Tryz.func222.trans (congrArg some (by kernel_rfl))⟩
  f21 := ⟨Tryz.f223.name, by decide, Tryz.func223.trans (congrArg some (by kernel_rfl))⟩
  f22 := ⟨Tryz.f224.name, by decide, Tryz.func224.trans (congrArg some (by kernel_rfl))⟩
  f23 := ⟨Tryz.f225.name, by decide, Tryz.func225.trans (congrArg some (by kernel_rfl))⟩
  f24 := ⟨Tryz.f226.name, by decide, Tryz.func226.trans (congrArg some (by kernel_rfl))⟩
  f25 := ⟨Tryz.f227.name, by decide, Tryz.func227.trans (congrArg some (by kernel_rfl))⟩
  f26 := ⟨Tryz.f228.name, by decide, Tryz.func228.trans (congrArg some (by kernel_rfl))⟩
  f27 := ⟨Tryz.f229.name, by decide, Tryz.func229.trans (congrArg some (by kernel_rfl))⟩
  f28 := Tryz.func230.trans (congrArg some (by kernel_rfl))
  f29 := Tryz.func231.trans (congrArg some (by kernel_rfl))
  f46 := ⟨Tryz.f251.name, by decide, Tryz.func251.trans (congrArg some (by kernel_rfl))⟩
  f47 := Tryz.func252.trans (congrArg some (by kernel_rfl))
  f48 := Tryz.func253.trans (congrArg some (by kernel_rfl))
  f49 := ⟨Tryz.f254.name, by decide, Tryz.func254.trans (congrArg some (by kernel_rfl))⟩
  f50 := ⟨Tryz.f255.name, by decide, Tryz.func255.trans (congrArg some (by kernel_rfl))⟩
  f57 := ⟨Tryz.f267.name, by decide, Tryz.func267.trans (congrArg some (by kernel_rfl))⟩
  t0 := Tryz.underlying0
  a0 := Tryz.isAgg0
  z0 := Tryz.sizeOf0
  v0 := Tryz.zeroValue0
  t3 := Tryz.underlying3
  a3 := Tryz.isAgg3
  z3 := Tryz.sizeOf3
  v3 := Tryz.zeroValue3
  t4 := Tryz.underlying4
  a4 := Tryz.isAgg4
  z4 := Tryz.sizeOf4
  v4 := Tryz.zeroValue4
  t5 := Tryz.underlying5
  a5 := Tryz.isAgg5
  z5 := Tryz.sizeOf5
  v5 := Tryz.zeroValue5
  t9 := Tryz.underlying9
  a9 := Tryz.isAgg9
  z9 := Tryz.sizeOf9
  v9 := Tryz.zeroValue9
  t22 := Tryz.underlying34
  a22 := Tryz.isAgg34
  z22 := Tryz.sizeOf34
  v22 := Tryz.zeroValue34
  t25 := Tryz.underlying174
  a25 := Tryz.isAgg174
  z25 := Tryz.sizeOf174
  v25 := Tryz.zeroValue174
  t39 := Tryz.underlying216
  a39 := Tryz.isAgg216
  z39 := Tryz.sizeOf216
  v39 := Tryz.zeroValue216
  t45 := Tryz.underlying238
  a45 := Tryz.isAgg238
  z45 := Tryz.sizeOf238
  v45 := Tryz.zeroValue238
  t46 := Tryz.underlying239
  a46 := Tryz.isAgg239
  z46 := Tryz.sizeOf239
  v46 := Tryz.zeroValue239
  t50 := Tryz.underlying177
  a50 := Tryz.isAgg177
  z50 := Tryz.sizeOf177
  v50 := Tryz.zeroValue177
  t53 := Tryz.underlying245
  a53 := Tryz.isAgg245
  z53 := Tryz.sizeOf245
  v53 := Tryz.zeroValue245
  t55 := Tryz.underlying77
  a55 := Tryz.isAgg77
  z55 := Tryz.sizeOf77
  v55 := Tryz.zeroValue77
  t66 := Tryz.underlying259
  a66 := Tryz.isAgg259
  z66 := Tryz.sizeOf259
  v66 := Tryz.zeroValue259
  t70 := Tryz.underlying263
  a70 := Tryz.isAgg263
  z70 := Tryz.sizeOf263
  v70 := Tryz.zeroValue263
  t76 := Tryz.underlying272
  a76 := Tryz.isAgg272
  z76 := Tryz.sizeOf272
  v76 := Tryz.zeroValue272
  t77 := Tryz.underlying273
  a77 := Tryz.isAgg273
  z77 := Tryz.sizeOf273
  v77 := Tryz.zeroValue273 }
end Go.Proofs
set_option linter.unusedVariables false
set_option linter.unusedSimpArgs false
namespace Go.Proofs
open Go.Shelf Go.RowKit Go.Lib
set_option maxHeartbeats 1000000 in
theorem Tryz.strings_Split_one (s : ByteArray) (c : UInt8) (w : World) (hs : s.size < 4294967281) :
    Calls Tryz.prog 126 #[.string s, .string ⟨#[c]⟩] w fun e w' => ∃ (l : List ByteArray) (t : TypeId), e = .returned (.slice (some ⟨w.heap.size, 0, none⟩) l.length l.length) ∧ w' = w.alloc (.cells (l.map Value.string).toArray t) ∧ l.map (·.data.toList) = AM.splitL c s.data.toList := by
  have mixed : Tryz.prog.follows .mixedOrders := by kernel_rfl
  have h1 : 1 ≤ (⟨#[c]⟩ : ByteArray).size := Nat.le_refl 1
  have hle := Lib.countB_le ⟨#[c]⟩ h1 s.size s (Nat.le_refl _)
  have hlen := Lib.splitB_all ⟨#[c]⟩ h1 0 _ s rfl
  have hcb : Lib.countB s ⟨#[c]⟩ = s.data.toList.count c := Lib.count_one c s.data.toList
  have hI : ∀ (x : ByteArray) (cs : Array Value), x.size ≤ s.size → Calls Tryz.prog 219 #[.string x, .string ⟨#[c]⟩] (w.alloc (.cells cs 9)) fun e w' => e = .returned (.int .i64 (Lib.indexB x ⟨#[c]⟩)) ∧ w' = w.alloc (.cells cs 9) :=
    fun x cs hx => (Tryz.strings_Index_one x c _).mono fun e w' ⟨he, hw⟩ => ⟨by rw [he, ← Lib.index_one]; try rfl, hw⟩
  have hC : Calls Tryz.prog 218 #[.string s, .string ⟨#[c]⟩] w fun e w' => e = .returned (.int .i64 (Lib.countB s ⟨#[c]⟩)) ∧ w' = w :=
    (Tryz.strings_Count_one s c w).mono fun e w' ⟨he, hw⟩ => ⟨by rw [he, hcb]; rfl, hw⟩
  have h := Any.strings_genSplit_core Tryz.lays221 (by kernel_rfl) s ⟨#[c]⟩ 0 (-1) (Lib.countB s ⟨#[c]⟩ + 1) w hs h1 (Nat.zero_le _) hI hC (by decide) (by decide) (by rw [if_pos (by decide)]; omega)
  rw [Nat.add_sub_cancel, hlen] at h
  have e2 : Lib.cellsOf (Lib.splitB ⟨#[c]⟩ 0 (Lib.countB s ⟨#[c]⟩) s) (Lib.countB s ⟨#[c]⟩ + 1) = ((Lib.splitB ⟨#[c]⟩ 0 (Lib.countB s ⟨#[c]⟩) s).map Value.string).toArray := by rw [← hlen]; exact Lib.cellsOf_full _
  rw [e2] at h
  have hd : (Lib.splitB ⟨#[c]⟩ 0 (Lib.countB s ⟨#[c]⟩) s).map (·.data.toList) = AM.splitL c s.data.toList := by
    rw [Lib.splitB_data, hcb]
    exact AM.splitK_one c _ _ rfl
  change Calls Tryz.prog 181 _ _ _ at h
  generalize Lib.splitB ⟨#[c]⟩ 0 (Lib.countB s ⟨#[c]⟩) s = l at h hd hlen
  rw [← hlen] at h
  clear e2 hI hC hle hlen hcb
  go_enter Tryz.func126, Tryz.ntmps126
  go_wp2_with (go_at_call 181; refine h.mono ?_; rintro e w' ⟨rfl, hw⟩; rw [hw])
  go_ret
  exact ⟨l, _, rfl, rfl, hd⟩
end Go.Proofs
set_option linter.unusedVariables false
set_option linter.unusedSimpArgs false
namespace Go.Proofs
open Go.Shelf Go.RowKit Go.Sort
set_option maxHeartbeats 1000000 in
theorem Tryz.isNaN_str (s : ByteArray) (w : World) : Calls Tryz.prog 194 #[.string s] w fun e w' => e = .returned (.bool false) ∧ w' = w := by
  have mixed : Tryz.prog.follows .mixedOrders := by kernel_rfl
  go_enter Tryz.func194, Tryz.ntmps194
  go_wp2
  go_ret
  exact ⟨rfl, rfl⟩
theorem Tryz.gtr_str (x y : ByteArray) (w : World) : (Go.binOp .gtr 9 (.string x) (.string y)).run Tryz.prog w = .ok (.bool (!(Op.bytesLess x.toList y.toList || x.toList == y.toList))) w := by simp [Go.binOp, Op.stringOp]
set_option maxHeartbeats 2000000 in
theorem Tryz.compare_str (x y : ByteArray) (w : World) : Calls Tryz.prog 139 #[.string x, .string y] w fun e w' => e = .returned (.int .i64 (if Op.bytesLess x.toList y.toList then -1 else if Op.bytesLess x.toList y.toList || x.toList == y.toList then 0 else 1)) ∧ w' = w := by
  have mixed : Tryz.prog.follows .mixedOrders := by kernel_rfl
  go_enter Tryz.func139, Tryz.ntmps139
  go_wp2_with (go_at_call 194; refine (Tryz.isNaN_str _ _).mono ?_; rintro e w' ⟨rfl, rfl⟩)
  all_goals try (
    rw [Tryz.gtr_str]
    simp only [Result.andThen]
    rw [Oper.upon_value]
    generalize hq : (Op.bytesLess x.toList y.toList || x.toList == y.toList) = q
    cases q
    all_goals (simp only [Bool.not_true, Bool.not_false]; go_wp2))
  all_goals (go_ret; refine ⟨?_, rfl⟩; simp_all)
set_option maxHeartbeats 4000000 in
theorem Tryz.or_ints (b : Nat) (p q : Int) (w : World) (h0 : w.cell? ⟨b, 0, none⟩ = some (.int .i64 p)) (h1 : w.cell? ⟨b, 1, none⟩ = some (.int .i64 q)) : Calls Tryz.prog 138 #[.slice (some ⟨b, 0, none⟩) 2 2] w fun e w' => e = .returned (.int .i64 (if p = 0 then q else p)) ∧ w' = w := by
  have mixed : Tryz.prog.follows .mixedOrders := by kernel_rfl
  go_enter Tryz.func138, Tryz.ntmps138
  go_wp2
  refine wp_loop_rounds 3 ?_
  rw [rounds_succ]
  by_cases hp : p = 0
  · subst hp
    go_wp2
    rw [rounds_succ]
    by_cases hq : q = 0
    · subst hq
      go_wp2
      rw [rounds_succ]
      go_wp2
      go_ret
      exact ⟨rfl, rfl⟩
    · go_wp2
      all_goals first | (go_ret; refine ⟨?_, rfl⟩; simp_all) | (exfalso; simp_all)
  · go_wp2
    all_goals first | (go_ret; refine ⟨?_, rfl⟩; simp_all) | (exfalso; simp_all)
set_option maxHeartbeats 8000000 in
set_option maxRecDepth 100000 in
theorem Tryz.cmpTag (x y : AM.TagD) (w : World) : Calls Tryz.prog 137 #[.agg (AM.encT x).toArray, .agg (AM.encT y).toArray] w fun e w' => e = .returned (.int .i64 (AM.cmpL x y)) ∧ ∃ q os, w' = grow (w.drewN q) os := by
  have mixed : Tryz.prog.follows .mixedOrders := by kernel_rfl
  obtain ⟨k1, v1⟩ := x
  obtain ⟨k2, v2⟩ := y
  show Calls Tryz.prog 137 #[.agg #[.string ⟨k1.toArray⟩, .string ⟨v1.toArray⟩], .agg #[.string ⟨k2.toArray⟩, .string ⟨v2.toArray⟩]] w _
  have hb : ∀ l : List UInt8, (⟨l.toArray⟩ : ByteArray).toList = l := fun l => by rw [AM.ba_toList]
  have c1 : ∀ W, Calls Tryz.prog 139 #[.string ⟨k1.toArray⟩, .string ⟨k2.toArray⟩] W fun e w' => e = .returned (.int .i64 (AM.cmpS k1 k2)) ∧ w' = W := fun W => by
    have h := Tryz.compare_str ⟨k1.toArray⟩ ⟨k2.toArray⟩ W
    simp only [hb] at h
    exact h
  have c2 : ∀ W, Calls Tryz.prog 139 #[.string ⟨v1.toArray⟩, .string ⟨v2.toArray⟩] W fun e w' => e = .returned (.int .i64 (AM.cmpS v1 v2)) ∧ w' = W := fun W => by
    have h := Tryz.compare_str ⟨v1.toArray⟩ ⟨v2.toArray⟩ W
    simp only [hb] at h
    exact h
  unfold AM.cmpL
  simp only
  clear hb
  generalize AM.cmpS k1 k2 = r1 at c1 ⊢
  generalize AM.cmpS v1 v2 = r2 at c2 ⊢
  generalize (⟨k1.toArray⟩ : ByteArray) = k1 at c1 ⊢
  generalize (⟨k2.toArray⟩ : ByteArray) = k2 at c1 ⊢
  generalize (⟨v1.toArray⟩ : ByteArray) = v1 at c2 ⊢
  generalize (⟨v2.toArray⟩ : ByteArray) = v2 at c2 ⊢
  have c3 : ∀ (W : World) (b : Nat), W.heap.size = b → Calls Tryz.prog 138 #[.slice (some ⟨b, 0, none⟩) 2 2] (W.alloc (.cells #[.int .i64 r1, .int .i64 r2] 3)).drew fun e w' => e = .returned (.int .i64 (if r1 = 0 then r2 else r1)) ∧ w' = (W.alloc (.cells #[.int .i64 r1, .int .i64 r2] 3)).drew := by
    rintro W b rfl
    have hh : (W.alloc (.cells #[.int .i64 r1, .int .i64 r2] 3)).drew.heap[W.heap.size]? = some (.cells #[.int .i64 r1, .int .i64 r2] 3 (0, 0)) := World.alloc_heap_new W _
    exact Tryz.or_ints _ r1 r2 _ (by rw [Lib.cell_of_heap hh]; rfl) (by rw [Lib.cell_of_heap hh]; rfl)
  generalize (if r1 = 0 then r2 else r1) = rr at c3 ⊢
  go_enter Tryz.func137, Tryz.ntmps137
  go_wp2
  go_region_held2 (fun W => W.cell? ⟨w.heap.size, 0, none⟩ = some (.string k1) ∧ W.cell? ⟨w.heap.size, 1, none⟩ = some (.string v1) ∧ W.cell? ⟨w.heap.size + 1, 0, none⟩ = some (.string k2) ∧ W.cell? ⟨w.heap.size + 1, 1, none⟩ = some (.string v2)) (go_keep) (first
    | (go_at_call_of 139 (Value.string k1); refine (c1 _).mono ?_; rintro e w' ⟨rfl, rfl⟩)
    | (go_at_call_of 139 (Value.string v1); refine (c2 _).mono ?_; rintro e w' ⟨rfl, rfl⟩)
    | (go_at_call 138; refine (c3 _ _ (by simp)).mono ?_; rintro e w' ⟨rfl, rfl⟩))
  go_wp2
  go_ret
  exact ⟨rfl, 1, _, by rw [alloc_eq_grow, alloc_eq_grow, alloc_eq_grow, grow_grow, grow_grow]; rfl⟩
set_option maxHeartbeats 4000000 in
set_option maxRecDepth 100000 in
theorem Tryz.sort_none (A : Option Addr) (w : World) : Calls Tryz.prog 136 #[.slice A 0 0, .func (.func 137) #[] #[]] w fun e w' => e = .returned (.tuple #[]) ∧ w.grownBy w' none := by
  have mixed : Tryz.prog.follows .mixedOrders := by kernel_rfl
  go_enter Tryz.func136, Tryz.ntmps136
  go_wp2
  refine wp_loop_rounds 1 ?_
  rw [rounds_succ]
  go_wp2
  refine wp_loop_rounds 1 ?_
  rw [rounds_succ]
  go_wp2
  go_end0
  all_goals try simp only []
  go_wp2
  try simp only [Exit.inBlock, Exit.then]
  refine bodyPost_ret (results_none rfl _ _ _) rfl ?_
  try simp only []
  go_at_K
  go_wp2
  go_end0
  exact ⟨rfl, ⟨rfl, rfl, rfl, Nat.le_refl _, fun _ _ _ => rfl⟩⟩
theorem sortTags_ok : AM.PrOK Tryz.prog (fun _ => True) 136 (.sort AM.TyTag 137 AM.sortTags) := by
  refine AM.sort_ok (AM.enters Tryz.func136 (by kernel_rfl) (by decide)) (fun q cap d w hH hq hd => ?_) Tryz.sort_none
  have eg : ∀ args w, (callFunc 137 args).run Tryz.prog w = .ok (.enter 137 args) w := enters_of Tryz.func137 (by kernel_rfl) rfl
  exact AnyQ.slices_SortFunc Tryz.laySort 2 Tryz.isAgg76 Tryz.sizeOf76 AM.encT (fun _ => rfl) (fun x v hv => by simp [AM.encT] at hv; rcases hv with rfl | rfl <;> rfl) AM.cmpL AM.swoT 137 #[] q 0 cap d w eg (fun _ _ _ _ x y => Tryz.cmpTag x y _) hH hq hd
end Go.Proofs
set_option linter.unusedVariables false
set_option linter.unusedSimpArgs false
namespace Go.Proofs
open Go.RowKit Go.AM
set_option maxHeartbeats 6400000 in
set_option maxRecDepth 100000 in
theorem Tryz.words_call (w : World) : Calls Tryz.prog 165 #[] w fun e w' => e = .returned (.map (some w.heap.size)) ∧ w' = w.alloc (.map wordsMap 4) := by
  have mixed : Tryz.prog.follows .mixedOrders := by kernel_rfl
  have h0 : (Instr.makeMap 192 none).run Tryz.prog w = .ok (.map (some w.heap.size)) (w.alloc (.map #[] 0)) := rfl
  have up := fun es c key v h => mapUpdate_int (P := Tryz.prog) (t := 192) (k := 3) (e := 9) Tryz.underlying192 Tryz.underlying3 w es c key v h
  have h1 := up #[] 0 1 (.string ⟨#[99]⟩) (by simp)
  have h2 := up #[⟨.int .i64 1, .string ⟨#[99]⟩, 0⟩] 1 2 (.string ⟨#[103]⟩) (by simp)
  have h3 := up #[⟨.int .i64 1, .string ⟨#[99]⟩, 0⟩, ⟨.int .i64 2, .string ⟨#[103]⟩, 1⟩] 2 3 (.string ⟨#[109, 115]⟩) (by simp)
  have h4 := up #[⟨.int .i64 1, .string ⟨#[99]⟩, 0⟩, ⟨.int .i64 2, .string ⟨#[103]⟩, 1⟩, ⟨.int .i64 3, .string ⟨#[109, 115]⟩, 2⟩] 3 4 (.string ⟨#[104]⟩) (by simp)
  clear up
  simp only [List.push_toArray, List.nil_append, List.cons_append] at h1 h2 h3 h4
  go_enter Tryz.func165, Tryz.ntmps165
  go_wp2
  go_ret
  exact ⟨rfl, rfl⟩
set_option maxHeartbeats 6400000 in
set_option maxRecDepth 100000 in
theorem Tryz.statsd_Word (k : Int) (w : World) : Calls Tryz.prog 109 #[.int .i64 k] w fun e w' => e = .returned (.tuple #[.string ⟨(wordL k).toArray⟩, .int .i64 (wordE k)]) ∧ Below w.heap.size w w' := by
  have mixed : Tryz.prog.follows .mixedOrders := by kernel_rfl
  have e1 : ∀ args w, (callFunc 165 args).run Tryz.prog w = .ok (.enter 165 args) w := enters_of Tryz.func165 (by kernel_rfl) rfl
  have hz : ∀ w', (zeroValue 9).run Tryz.prog w' = .ok (.string ⟨#[]⟩) w' := fun w' => by rfl
  obtain ⟨v, b, hv, hb, hvb, hl⟩ : ∃ (v : List UInt8) (b : Bool), v = wordL k ∧ b = decide (k = 1 ∨ k = 2 ∨ k = 3 ∨ k = 4) ∧ (b = false → v = []) ∧ (Instr.lookup 192 (.map (some w.heap.size)) (.int .i64 k) true).run Tryz.prog (w.alloc (.map wordsMap 4)) = .ok (.tuple #[.string ⟨v.toArray⟩, .bool b]) (w.alloc (.map wordsMap 4)) := by
    by_cases h1 : k = 1
    · subst h1; exact ⟨[99], true, rfl, rfl, (fun h => by cases h), lookup_int (P := Tryz.prog) (k := 3) (e := 9) Tryz.underlying192 Tryz.underlying3 w wordsMap 4 1 (i := 0) rfl rfl⟩
    by_cases h2 : k = 2
    · subst h2; exact ⟨[103], true, rfl, rfl, (fun h => by cases h), lookup_int (P := Tryz.prog) (k := 3) (e := 9) Tryz.underlying192 Tryz.underlying3 w wordsMap 4 2 (i := 1) rfl rfl⟩
    by_cases h3 : k = 3
    · subst h3; exact ⟨[109, 115], true, rfl, rfl, (fun h => by cases h), lookup_int (P := Tryz.prog) (k := 3) (e := 9) Tryz.underlying192 Tryz.underlying3 w wordsMap 4 3 (i := 2) rfl rfl⟩
    by_cases h4 : k = 4
    · subst h4; exact ⟨[104], true, rfl, rfl, (fun h => by cases h), lookup_int (P := Tryz.prog) (k := 3) (e := 9) Tryz.underlying192 Tryz.underlying3 w wordsMap 4 4 (i := 3) rfl rfl⟩
    refine ⟨[], false, ?_, ?_, (fun _ => rfl), lookup_int_no (P := Tryz.prog) (k := 3) (e := 9) Tryz.underlying192 Tryz.underlying3 w wordsMap 4 k ?_ hz⟩
    · unfold wordL; rw [if_neg h1, if_neg h2, if_neg h3, if_neg h4]
    · simp [h1, h2, h3, h4]
    · intro x hx
      simp only [wordsMap, List.mem_cons, List.mem_nil_iff, or_false] at hx
      rcases hx with rfl | rfl | rfl | rfl
      · exact ⟨1, rfl, Ne.symm h1⟩
      · exact ⟨2, rfl, Ne.symm h2⟩
      · exact ⟨3, rfl, Ne.symm h3⟩
      · exact ⟨4, rfl, Ne.symm h4⟩
  have hE : wordE k = if b then 0 else 16 := by subst hb; unfold wordE; simp
  rw [← hv, hE]
  clear hv hE hb hz
  cases b
  · obtain rfl := hvb rfl
    go_enter Tryz.func109, Tryz.ntmps109
    go_wp2_with (go_at_fn 165; refine (Tryz.words_call _).mono ?_; rintro e w' ⟨rfl, rfl⟩)
    all_goals go_ret2
    all_goals exact ⟨rfl, below_new _⟩
  · go_enter Tryz.func109, Tryz.ntmps109
    go_wp2_with (go_at_fn 165; refine (Tryz.words_call _).mono ?_; rintro e w' ⟨rfl, rfl⟩)
    all_goals go_ret2
    all_goals exact ⟨rfl, below_new _⟩
end Go.Proofs
set_option linter.unusedVariables false
set_option maxRecDepth 100000
namespace Go.AM
open Go.Proofs Go.RowKit
open Go.Proofs.YtonhplejlfnkoaaGreatDoor
def SI : World → Prop := LaidI Tryz.prog Rows.textManyRow.laid
def SW : World → Prop := WOf SI
theorem swErrS {w : World} (h : SW w) : ∃ ev, w.cell? ⟨6, 0, none⟩ = some ev ∧ (ev = .nilIface ∨ ∃ te pe, ev = .iface te pe) := by
  obtain ⟨w0, h1, h2, h3⟩ := h
  obtain ⟨ev, a, b⟩ := laid_iface h1 (by kernel_rfl) 5 rfl (g := 6) (by kernel_rfl) (by kernel_rfl) Tryz.underlying150
  exact ⟨ev, cell_on a h3, b⟩
theorem swErrR {w : World} (h : SW w) : ∃ ev, w.cell? ⟨7, 0, none⟩ = some ev ∧ (ev = .nilIface ∨ ∃ te pe, ev = .iface te pe) := by
  obtain ⟨w0, h1, h2, h3⟩ := h
  obtain ⟨ev, a, b⟩ := laid_iface h1 (by kernel_rfl) 4 rfl (g := 7) (by kernel_rfl) (by kernel_rfl) Tryz.underlying150
  exact ⟨ev, cell_on a h3, b⟩
theorem mixed : Tryz.prog.follows .mixedOrders = true := by kernel_rfl
abbrev V0 : SV := .int .i64
abbrev V1 : SV := .int .u8
abbrev V2 : SV := .agg [V0, V0]
abbrev Y0 : Ty := .int .u64
abbrev Y1 : Ty := .int .i64
abbrev Y2 : Ty := .agg [.bool, Y0, Y1]
abbrev V3 : SV := .sl Y2 .unk
abbrev Y3 : Ty := .agg [.str, .str]
abbrev V4 : SV := .sl Y3 .unk
abbrev V5 : SV := .agg [.str, V0, V3, V0, V4, V0]
abbrev V6 : SV := .int .u64
abbrev V7 : SV := .agg [.bool, V6, V0]
abbrev V8 : SV := .agg [V1, V1]
abbrev V9 : SV := .sl .str .unk
abbrev V10 : SV := .agg [.str, .str, .str, .str, .str, .str]
abbrev V11 : SV := .agg [.str, .str]
abbrev V12 : SV := .agg [.str, (.const (.fn 184 [(.ref 2 0)] [])), .str, (.const (.fn 185 [(.ref 2 0)] [])), .str, (.const (.fn 186 [(.ref 2 0)] []))]
abbrev Y4 : Ty := .sl Y2
abbrev Y5 : Ty := .sl Y3
abbrev Y6 : Ty := .agg [.str, Y1, Y4, Y1, Y5, Y1]
abbrev V13 : SV := .sl .u8 .unk
abbrev V14 : SV := .sl Y6 .unk
abbrev Y7 : Ty := .sl Y6
abbrev Y8 : Ty := .agg [Y1, Y1]
abbrev Y9 : Ty := .agg [Y6, Y1, Y1]
abbrev Y10 : Ty := .agg [Y1, .str, .bool]
abbrev Y11 : Ty := .agg [.u8, .u8]
abbrev Y12 : Ty := .agg [.str, .str, .str, .str, .str, .str]
def tab : Tree TI := .node 80 (.node 38 (.node 24 (.node 9 (.node 4 (.one 3 ⟨.int .i64, 1, 8, false, [(.int .i64 (0 : Int))], some Y1, false⟩) (.node 5 (.one 4 ⟨.bool, 1, 1, false, [(.bool false)], some .bool, false⟩) (.one 5 ⟨.int .u8, 1, 1, false, [(.int .u8 (0 : Int))], some .u8, false⟩))) (.node 22 (.one 9 ⟨.str, 1, 16, false, [(.str [])], some .str, false⟩) (.node 23 (.one 22 ⟨.slice 5, 1, 24, false, [.sl .u8 [] .full], some (.sl .u8), false⟩) (.one 23 ⟨.func, 1, 8, false, [.nilfn], none, false⟩)))) (.node 28 (.node 25 (.one 24 ⟨.slice 36, 1, 24, false, [.sl Y6 [] .full], some Y7, false⟩) (.node 27 (.one 25 ⟨.int .i64, 1, 8, false, [(.int .i64 (0 : Int))], some Y1, false⟩) (.one 27 ⟨.struct [(0, 25), (1, 3)], 2, 16, true, [(.int .i64 (0 : Int)), (.int .i64 (0 : Int))], some Y8, true⟩))) (.node 34 (.node 33 (.one 28 ⟨.other, 1, 0, false, [.any], none, false⟩) (.one 33 ⟨.slice 79, 1, 24, false, [.sl Y2 [] .full], some Y4, false⟩)) (.node 36 (.one 34 ⟨.slice 76, 1, 24, false, [.sl Y3 [] .full], some Y5, false⟩) (.one 36 ⟨.struct [(0, 9), (1, 3), (2, 33), (3, 3), (4, 34), (5, 3)], 6, 88, true, [(.str []), (.int .i64 (0 : Int)), .sl Y2 [] .full, (.int .i64 (0 : Int)), .sl Y3 [] .full, (.int .i64 (0 : Int))], some Y6, false⟩))))) (.node 67 (.node 61 (.node 40 (.one 38 ⟨.other, 1, 0, false, [.any], none, false⟩) (.node 52 (.one 40 ⟨.other, 1, 0, false, [.any], none, false⟩) (.one 52 ⟨.slice 9, 1, 24, false, [.sl .str [] .full], some (.sl .str), false⟩))) (.node 64 (.one 61 ⟨.other, 1, 0, false, [.any], none, false⟩) (.node 65 (.one 64 ⟨.func, 1, 8, false, [.nilfn], none, false⟩) (.one 65 ⟨.func, 1, 8, false, [.nilfn], none, false⟩)))) (.node 73 (.node 68 (.one 67 ⟨.struct [(0, 64), (1, 65)], 2, 16, true, [.nilfn, .nilfn], none, false⟩) (.node 71 (.one 68 ⟨.other, 1, 0, false, [.any], none, false⟩) (.one 71 ⟨.func, 1, 8, false, [.nilfn], none, false⟩))) (.node 77 (.node 76 (.one 73 ⟨.other, 1, 0, false, [.any], none, false⟩) (.one 76 ⟨.struct [(0, 9), (1, 9)], 2, 32, true, [(.str []), (.str [])], some Y3, true⟩)) (.node 79 (.one 77 ⟨.int .u64, 1, 8, false, [(.int .u64 (0 : Int))], some Y0, false⟩) (.one 79 ⟨.struct [(0, 4), (1, 77), (2, 3)], 3, 24, true, [(.bool false), (.int .u64 (0 : Int)), (.int .i64 (0 : Int))], some Y2, true⟩)))))) (.node 162 (.node 141 (.node 105 (.node 97 (.one 80 ⟨.other, 1, 0, false, [.any], none, false⟩) (.node 102 (.one 97 ⟨.func, 1, 8, false, [.nilfn], none, false⟩) (.one 102 ⟨.other, 1, 0, false, [.any], none, false⟩))) (.node 112 (.one 105 ⟨.other, 1, 0, false, [.any], none, false⟩) (.node 139 (.one 112 ⟨.ptr, 1, 8, false, [.nilp], none, false⟩) (.one 139 ⟨.other, 1, 0, false, [.any], none, false⟩)))) (.node 151 (.node 142 (.one 141 ⟨.func, 1, 8, false, [.nilfn], none, false⟩) (.node 150 (.one 142 ⟨.other, 1, 0, false, [.any], none, false⟩) (.one 150 ⟨.iface, 1, 16, false, [(.err false)], none, false⟩))) (.node 159 (.node 157 (.one 151 ⟨.other, 1, 0, false, [.any], none, false⟩) (.one 157 ⟨.ptr, 1, 8, false, [.nilp], none, false⟩)) (.node 161 (.one 159 ⟨.struct [(0, 36), (6, 3), (7, 3)], 8, 104, true, [(.str []), (.int .i64 (0 : Int)), .sl Y2 [] .full, (.int .i64 (0 : Int)), .sl Y3 [] .full, (.int .i64 (0 : Int)), (.int .i64 (0 : Int)), (.int .i64 (0 : Int))], some Y9, false⟩) (.one 161 ⟨.func, 1, 8, false, [.nilfn], none, false⟩))))) (.node 200 (.node 169 (.node 164 (.one 162 ⟨.slice 161, 1, 24, false, [.nils], none, false⟩) (.node 167 (.one 164 ⟨.func, 1, 8, false, [.nilfn], none, false⟩) (.one 167 ⟨.struct [(0, 3), (1, 9), (2, 4)], 3, 32, true, [(.int .i64 (0 : Int)), (.str []), (.bool false)], some Y10, true⟩))) (.node 179 (.node 174 (.one 169 ⟨.other, 1, 0, false, [.any], none, false⟩) (.one 174 ⟨.func, 1, 8, false, [.nilfn], none, false⟩)) (.node 198 (.one 179 ⟨.other, 1, 0, false, [.any], none, false⟩) (.one 198 ⟨.arr 2 5, 2, 2, true, [(.int .u8 (0 : Int)), (.int .u8 (0 : Int))], some Y11, false⟩)))) (.node 208 (.node 201 (.one 200 ⟨.func, 1, 8, false, [.nilfn], none, false⟩) (.node 207 (.one 201 ⟨.arr 6 9, 6, 96, true, [(.str []), (.str []), (.str []), (.str []), (.str []), (.str [])], some Y12, false⟩) (.one 207 ⟨.func, 1, 8, false, [.nilfn], none, false⟩))) (.node 210 (.node 209 (.one 208 ⟨.struct [(0, 9), (1, 207)], 2, 24, true, [(.str []), .nilfn], none, false⟩) (.one 209 ⟨.arr 3 208, 6, 72, true, [(.str []), .nilfn, (.str []), .nilfn, (.str []), .nilfn], none, false⟩)) (.node 211 (.one 210 ⟨.func, 1, 8, false, [.nilfn], none, false⟩) (.one 211 ⟨.other, 1, 0, false, [.any], none, false⟩))))))
theorem tab_ok : tab.all (tiOK Tryz.prog) = true := by kernel_rfl
abbrev FO (g : Nat) (ps : List SV) (rv : RV) (f : arrL ps (Option rv.den)) : Prop := FnOK Tryz.prog SW g ps rv (appL ps f)
theorem mx {X : Type} {fns : List (Nat × Func)} {C : List (Nat × (List AV → Option Entry))} {loops : List (Nat × Nat × List (LoopI X))} {rfs : List (Nat × Nat × Func × List Nat × Nat)}
    {conf : List (Nat × Nat × List (Nat × Nat))} {unroll : List (Nat × Nat × Nat)} {cuts : List (Nat × Nat × List (CutI X))} {rows : List (Nat × Ty)} {pr : List (Nat × Pr)} {bt : Option (Nat × Nat)} {keep : List Nat} (hf : AllT (fun p => Tryz.prog.funcs[p.1]? = some p.2 ∧ p.2.name ≠ "runtime.NumGoroutine") fns)
    (hC : AllT (fun p => OrcOK Tryz.prog SW p.1 p.2) C) (hc : AllT (fun p => okC (mkCx tab.get fns C loops rfs conf unroll cuts rows pr bt keep) p.1 p.2.ntmps (p.2.body.getD .skip)) fns) (hr : AllT (fun q => Tryz.prog.funcs[q.1]? = some q.2.2.1 ∧ lkp fns q.1 = some q.2.2.1) rfs)
    (hp : AllT (fun p => PrOK Tryz.prog SW p.1 p.2) pr := by exact trivial) : CxOK Tryz.prog SW (mkCx tab.get fns C loops rfs conf unroll cuts rows pr bt keep) := mkCx_ok mixed (tabOK tab_ok) hf hC hc hr hp
abbrev P208 : List SV := [.str, .str]
abbrev R208 : RV := .one V0
theorem ok208 (n : Nat) : FO 208 P208 R208 (O.index1 n) := index1_ok (enters Tryz.func208 (by kernel_rfl) (by decide)) Tryz.stringslite_Index_one n
noncomputable def o208 (n : Nat) := oc 208 P208 R208 (O.index1 n)
noncomputable def cx170 (X : Type) (n : Nat) : Cx X := mkCx tab.get [(170, Tryz.f170)] [o208 n] [] [] [] []
theorem cx170_ok (X : Type) (n : Nat) : CxOK Tryz.prog SW (cx170 X n) := mx (T1 (J Tryz.func170 (by decide))) (T1 (orcOf_ok (ok208 n))) (T1 (okc trivial trivial)) trivial
abbrev P170 : List SV := [.str, .str]
abbrev R170 : RV := .many [.str, .str, .bool]
theorem ok170 (n : Nat) : FO 170 P170 R170 (F.stringslite_Cut n) := fnOK_of WOf.st (cx170_ok _ n) (d := 8) fun _ => by kernel_rfl
noncomputable def o170 (n : Nat) := oc 170 P170 R170 (F.stringslite_Cut n)
noncomputable def cx113 (X : Type) (n : Nat) : Cx X := mkCx tab.get [(113, Tryz.f113)] [o170 n] [] [] [] []
theorem cx113_ok (X : Type) (n : Nat) : CxOK Tryz.prog SW (cx113 X n) := mx (T1 (J Tryz.func113 (by decide))) (T1 (orcOf_ok (ok170 n))) (T1 (okc trivial trivial)) trivial
abbrev P113 : List SV := [.str, .str]
abbrev R113 : RV := .many [.str, .str, .bool]
theorem ok113 (n : Nat) : FO 113 P113 R113 (F.strings_Cut n) := fnOK_of WOf.st (cx113_ok _ n) (d := 8) fun _ => by kernel_rfl
noncomputable def o113 (n : Nat) := oc 113 P113 R113 (F.strings_Cut n)
noncomputable def cx209 (X : Type) (n : Nat) : Cx X := mkCx tab.get [(209, Tryz.f209)] [] [] [] [] []
theorem cx209_ok (X : Type) (n : Nat) : CxOK Tryz.prog SW (cx209 X n) := mx (T1 (J Tryz.func209 (by decide))) trivial (T1 (okc trivial trivial)) trivial
abbrev P209 : List SV := [V0]
abbrev R209 : RV := .one .bool
theorem ok209 (n : Nat) : FO 209 P209 R209 (F.class_may n) := fnOK_of WOf.st (cx209_ok _ n) (d := 8) fun _ => by kernel_rfl
noncomputable def o209 (n : Nat) := oc 209 P209 R209 (F.class_may n)
noncomputable def cx246 (X : Type) (n : Nat) : Cx X := mkCx tab.get [(246, Tryz.f246)] [] [] [] [] []
theorem cx246_ok (X : Type) (n : Nat) : CxOK Tryz.prog SW (cx246 X n) := mx (T1 (J Tryz.func246 (by decide))) trivial (T1 (okc trivial trivial)) trivial
abbrev P246 : List SV := [V1, V1, V1]
abbrev R246 : RV := .one .bool
theorem ok246 (n : Nat) : FO 246 P246 R246 (F.class_between n) := fnOK_of WOf.st (cx246_ok _ n) (d := 8) fun _ => by kernel_rfl
noncomputable def o246 (n : Nat) := oc 246 P246 R246 (F.class_between n)
noncomputable def cx210 (X : Type) (n : Nat) : Cx X := mkCx tab.get [(210, Tryz.f210)] [o246 n] [] [] [] []
theorem cx210_ok (X : Type) (n : Nat) : CxOK Tryz.prog SW (cx210 X n) := mx (T1 (J Tryz.func210 (by decide))) (T1 (orcOf_ok (ok246 n))) (T1 (okc trivial trivial)) trivial
abbrev P210 : List SV := [V0, V1]
abbrev R210 : RV := .one .bool
theorem ok210 (n : Nat) : FO 210 P210 R210 (F.class_Is n) := fnOK_of WOf.st (cx210_ok _ n) (d := 8) fun _ => by kernel_rfl
noncomputable def o210 (n : Nat) := oc 210 P210 R210 (F.class_Is n)
def qh1 : Shape := ⟨[(0, V0), (1, .str), (11, V0), (12, V0)], [], [], [], [], 0, 0, 0⟩
def qe1_0 : Shape := ⟨[], [], [], [], [], 0, 0, 0⟩
def qe1_r : Shape := ⟨[(4, V0), (5, V0)], [], [], [], [], 0, 0, 0⟩
noncomputable def ql1 (X : Type) (n : Nat) : LoopI X := mkLi 8 0 0 0 qh1 [(0, qe1_0)] [qe1_r] n fun m ks => F.class_Bad.L4 n (fun _ => xe qe1_0 ks 0) (xr qe1_r ks) m
noncomputable def cx171 (X : Type) (n : Nat) : Cx X := mkCx tab.get [(171, Tryz.f171)] [o209 n, o210 n] [(171, 4, [ql1 X n])] [] [] []
theorem qo1 (X : Type) (n : Nat) : LO (cx171 X n) 171 Tryz.f171 0 (ql1 X n) := lok
theorem cx171_ok (X : Type) (n : Nat) : CxOK Tryz.prog SW (cx171 X n) := mx (T1 (J Tryz.func171 (by decide))) (J (orcOf_ok (ok209 n)) (T1 (orcOf_ok (ok210 n)))) (T1 (okc (T1 (T1 (qo1 X n))) trivial)) trivial
abbrev P171 : List SV := [V0, .str]
abbrev R171 : RV := .many [V0, V0]
theorem ok171 (n : Nat) : FO 171 P171 R171 (F.class_Bad n) := fnOK_of WOf.st (cx171_ok _ n) (d := 8) fun _ => by kernel_rfl
noncomputable def o171 (n : Nat) := oc 171 P171 R171 (F.class_Bad n)
noncomputable def cx114 (X : Type) (n : Nat) : Cx X := mkCx tab.get [(114, Tryz.f114)] [o171 n] [] [] [] []
theorem cx114_ok (X : Type) (n : Nat) : CxOK Tryz.prog SW (cx114 X n) := mx (T1 (J Tryz.func114 (by decide))) (T1 (orcOf_ok (ok171 n))) (T1 (okc trivial trivial)) trivial
abbrev P114 : List SV := [V0, .str, V0, V0]
abbrev R114 : RV := .one V2
theorem ok114 (n : Nat) : FO 114 P114 R114 (F.class_Text n) := fnOK_of WOf.st (cx114_ok _ n) (d := 8) fun _ => by kernel_rfl
noncomputable def o114 (n : Nat) := oc 114 P114 R114 (F.class_Text n)
noncomputable def cx115 (X : Type) (n : Nat) : Cx X := mkCx tab.get [(115, Tryz.f115)] [] [] [] [] []
theorem cx115_ok (X : Type) (n : Nat) : CxOK Tryz.prog SW (cx115 X n) := mx (T1 (J Tryz.func115 (by decide))) trivial (T1 (okc trivial trivial)) trivial
abbrev P115 : List SV := [V0, V0]
abbrev R115 : RV := .many [V5, V2]
theorem ok115 (n : Nat) : FO 115 P115 R115 (F.statsd_fault n) := fnOK_of WOf.st (cx115_ok _ n) (d := 8) fun _ => by kernel_rfl
noncomputable def o115 (n : Nat) := oc 115 P115 R115 (F.statsd_fault n)
abbrev P190 : List SV := [V6, V6]
abbrev R190 : RV := .many [V6, V6]
theorem ok190 (n : Nat) : FO 190 P190 R190 (O.mul64 n) := mul64_ok (enters Tryz.func190 (by kernel_rfl) (by decide)) Tryz.bits_Mul64 n
noncomputable def o190 (n : Nat) := oc 190 P190 R190 (O.mul64 n)
abbrev P191 : List SV := [V6, V6, V6]
abbrev R191 : RV := .many [V6, V6]
theorem ok191 (n : Nat) : FO 191 P191 R191 (O.add64 n) := add64_ok (fun x y c hx hy hc w => by rw [run_callFunc_extern Tryz.func191 (by kernel_rfl) (by kernel_rfl) (by kernel_rfl) (e := Go.add64Entry) (by kernel_rfl), Go.run_add64 x y c (by omega) (by omega) (by omega) (by omega)]; simp only [Result.andThen]; congr 5 <;> omega) n
noncomputable def o191 (n : Nat) := oc 191 P191 R191 (O.add64 n)
noncomputable def cx134 (X : Type) (n : Nat) : Cx X := mkCx tab.get [(134, Tryz.f134)] [o190 n, o191 n] [] [] [] []
theorem cx134_ok (X : Type) (n : Nat) : CxOK Tryz.prog SW (cx134 X n) := mx (T1 (J Tryz.func134 (by decide))) (J (orcOf_ok (ok190 n)) (T1 (orcOf_ok (ok191 n)))) (T1 (okc trivial trivial)) trivial
abbrev P134 : List SV := [V6, V6]
abbrev R134 : RV := .many [V6, .bool]
theorem ok134 (n : Nat) : FO 134 P134 R134 (F.dec_times n) := fnOK_of WOf.st (cx134_ok _ n) (d := 8) fun _ => by kernel_rfl
noncomputable def o134 (n : Nat) := oc 134 P134 R134 (F.dec_times n)
def qh2 : Shape := ⟨[(1, (.const (.ref 0 0))), (2, (.const (.ref 1 0)))], [[.bool, V6, V0], [.bool, V6, V0]], [], [], [], 2, 0, 0⟩
def qe2_0 : Shape := ⟨[(1, (.const (.ref 0 0))), (2, (.const (.ref 1 0)))], [[.bool, V6, V0], [.bool, V6, V0]], [], [], [], 2, 0, 0⟩
noncomputable def ql2 (X : Type) (n : Nat) : LoopI X := mkLi 8 0 0 0 qh2 [(0, qe2_0)] [] n fun m ks => F.dec_Normal.L3 n (xe qe2_0 ks 0) m
def qh3 : Shape := ⟨[(1, (.const (.ref 0 0))), (2, (.const (.ref 1 0)))], [[.bool, V6, V0], [.bool, V6, V0]], [], [], [], 2, 0, 0⟩
def qe3_2 : Shape := ⟨[(1, (.const (.ref 0 0))), (2, (.const (.ref 1 0)))], [[.bool, V6, V0], [.bool, V6, V0]], [], [], [], 2, 0, 0⟩
def qe3_r : Shape := ⟨[(2, (.const (.ref 1 0))), (3, V0)], [[.bool, V6, V0], [.bool, V6, V0]], [], [], [], 2, 0, 0⟩
noncomputable def ql3 (X : Type) (n : Nat) : LoopI X := mkLi 8 0 0 0 qh3 [(2, qe3_2)] [qe3_r] n fun m ks => F.dec_Normal.L5 n (xe qe3_2 ks 2) (xr qe3_r ks) m
noncomputable def cx67 (X : Type) (n : Nat) : Cx X := mkCx tab.get [(67, Tryz.f67)] [o134 n] [(67, 3, [ql2 X n]), (67, 5, [ql3 X n])] [] [] []
theorem qo2 (X : Type) (n : Nat) : LO (cx67 X n) 67 Tryz.f67 0 (ql2 X n) := lok
theorem qo3 (X : Type) (n : Nat) : LO (cx67 X n) 67 Tryz.f67 1 (ql3 X n) := lok
theorem cx67_ok (X : Type) (n : Nat) : CxOK Tryz.prog SW (cx67 X n) := mx (T1 (J Tryz.func67 (by decide))) (T1 (orcOf_ok (ok134 n))) (T1 (okc (J (T1 (qo2 X n)) (T1 (T1 (qo3 X n)))) trivial)) trivial
abbrev P67 : List SV := [V7]
abbrev R67 : RV := .many [V7, V0]
theorem ok67 (n : Nat) : FO 67 P67 R67 (F.dec_Normal n) := fnOK_of WOf.st (cx67_ok _ n) (d := 8) fun _ => by kernel_rfl
noncomputable def o67 (n : Nat) := oc 67 P67 R67 (F.dec_Normal n)
abbrev P169 : List SV := [.str, .str]
abbrev R169 : RV := .one .str
theorem ok169 (n : Nat) : FO 169 P169 R169 (O.trimR n) := trimR_ok (enters Tryz.func169 (by kernel_rfl) (by decide)) Tryz.strings_TrimRight_one n
noncomputable def o169 (n : Nat) := oc 169 P169 R169 (O.trimR n)
noncomputable def cx175 (X : Type) (n : Nat) : Cx X := mkCx tab.get [(175, Tryz.f175)] [] [] [] [] []
theorem cx175_ok (X : Type) (n : Nat) : CxOK Tryz.prog SW (cx175 X n) := mx (T1 (J Tryz.func175 (by decide))) trivial (T1 (okc trivial trivial)) trivial
abbrev P175 : List SV := [.str, .str]
abbrev R175 : RV := .one .bool
theorem ok175 (n : Nat) : FO 175 P175 R175 (F.stringslite_HasPrefix n) := fnOK_of WOf.st (cx175_ok _ n) (d := 8) fun _ => by kernel_rfl
noncomputable def o175 (n : Nat) := oc 175 P175 R175 (F.stringslite_HasPrefix n)
noncomputable def cx118 (X : Type) (n : Nat) : Cx X := mkCx tab.get [(118, Tryz.f118)] [o175 n] [] [] [] []
theorem cx118_ok (X : Type) (n : Nat) : CxOK Tryz.prog SW (cx118 X n) := mx (T1 (J Tryz.func118 (by decide))) (T1 (orcOf_ok (ok175 n))) (T1 (okc trivial trivial)) trivial
abbrev P118 : List SV := [.str, .str]
abbrev R118 : RV := .one .bool
theorem ok118 (n : Nat) : FO 118 P118 R118 (F.strings_HasPrefix n) := fnOK_of WOf.st (cx118_ok _ n) (d := 8) fun _ => by kernel_rfl
noncomputable def o118 (n : Nat) := oc 118 P118 R118 (F.strings_HasPrefix n)
def qh4 : Shape := ⟨[(0, (.const (.ref 2 0))), (1, (.const (.ref 0 0))), (3, V0)], [[.str], [V0, V0], [V0]], [], [], [], 3, 0, 0⟩
def qe4_0 : Shape := ⟨[(0, (.const (.ref 2 0))), (3, V0)], [[.str], [V0, V0], [V0]], [], [], [], 3, 0, 0⟩
noncomputable def ql4 (X : Type) (n : Nat) : LoopI X := mkLi 7 3 0 0 qh4 [(0, qe4_0)] [] n fun m ks => F.dec_look.L2_dec_look_1 n (xe qe4_0 ks 0) m
noncomputable def cx172 (X : Type) (n : Nat) : Cx X := mkCx tab.get [(172, Tryz.f172), (211, Tryz.f211)] [o118 n] [(211, 2, [ql4 X n])] [] [] []
theorem qo4 (X : Type) (n : Nat) : LO (cx172 X n) 211 Tryz.f211 0 (ql4 X n) := lok
theorem cx172_ok (X : Type) (n : Nat) : CxOK Tryz.prog SW (cx172 X n) := mx (J (J Tryz.func172 (by decide)) (T1 (J Tryz.func211 (by decide)))) (T1 (orcOf_ok (ok118 n))) (J (okc trivial trivial) (T1 (okc (T1 (T1 (qo4 X n))) trivial))) trivial
abbrev P172 : List SV := [.str]
abbrev R172 : RV := .one V2
theorem ok172 (n : Nat) : FO 172 P172 R172 (F.dec_look n) := fnOK_of WOf.st (cx172_ok _ n) (d := 8) fun _ => by kernel_rfl
noncomputable def o172 (n : Nat) := oc 172 P172 R172 (F.dec_look n)
noncomputable def cx212 (X : Type) (n : Nat) : Cx X := mkCx tab.get [(212, Tryz.f212)] [o175 n] [] [] [] []
theorem cx212_ok (X : Type) (n : Nat) : CxOK Tryz.prog SW (cx212 X n) := mx (T1 (J Tryz.func212 (by decide))) (T1 (orcOf_ok (ok175 n))) (T1 (okc trivial trivial)) trivial
abbrev P212 : List SV := [.str, .str]
abbrev R212 : RV := .many [.str, .bool]
theorem ok212 (n : Nat) : FO 212 P212 R212 (F.stringslite_CutPrefix n) := fnOK_of WOf.st (cx212_ok _ n) (d := 8) fun _ => by kernel_rfl
noncomputable def o212 (n : Nat) := oc 212 P212 R212 (F.stringslite_CutPrefix n)
noncomputable def cx173 (X : Type) (n : Nat) : Cx X := mkCx tab.get [(173, Tryz.f173)] [o212 n] [] [] [] []
theorem cx173_ok (X : Type) (n : Nat) : CxOK Tryz.prog SW (cx173 X n) := mx (T1 (J Tryz.func173 (by decide))) (T1 (orcOf_ok (ok212 n))) (T1 (okc trivial trivial)) trivial
abbrev P173 : List SV := [.str, .str]
abbrev R173 : RV := .many [.str, .bool]
theorem ok173 (n : Nat) : FO 173 P173 R173 (F.strings_CutPrefix n) := fnOK_of WOf.st (cx173_ok _ n) (d := 8) fun _ => by kernel_rfl
noncomputable def o173 (n : Nat) := oc 173 P173 R173 (F.strings_CutPrefix n)
abbrev P174 : List SV := [.str, .str]
abbrev R174 : RV := .one .str
theorem ok174 (n : Nat) : FO 174 P174 R174 (O.trimL n) := trimL_ok (enters Tryz.func174 (by kernel_rfl) (by decide)) Tryz.strings_TrimLeft_one n
noncomputable def o174 (n : Nat) := oc 174 P174 R174 (O.trimL n)
def qh5 : Shape := ⟨[(2, (.const (.ref 0 0))), (3, (.const (.ref 1 0))), (10, .str), (11, (.const (.ref 3 0))), (66, V0), (67, V0)], [[.bool, V6, V0], [V0, V0], [V0, V0], [.bool, V6, V0]], [], [], [], 4, 0, 0⟩
def qe5_0 : Shape := ⟨[(2, (.const (.ref 0 0))), (3, (.const (.ref 1 0))), (11, (.const (.ref 3 0)))], [[.bool, V6, V0], [V0, V0], [V0, V0], [.bool, V6, V0]], [], [], [], 4, 0, 0⟩
noncomputable def ql5 (X : Type) (n : Nat) : LoopI X := mkLi 8 0 0 0 qh5 [(0, qe5_0)] [] n fun m ks => F.dec_Parse.L14 n (xe qe5_0 ks 0) m
noncomputable def cx116 (X : Type) (n : Nat) : Cx X := mkCx tab.get [(116, Tryz.f116)] [o67 n, o113 n, o134 n, o169 n, o172 n, o173 n, o174 n] [(116, 14, [ql5 X n])] [] [(116, 3, [(1, 2)])] []
theorem qo5 (X : Type) (n : Nat) : LO (cx116 X n) 116 Tryz.f116 0 (ql5 X n) := lok
theorem cx116_ok (X : Type) (n : Nat) : CxOK Tryz.prog SW (cx116 X n) := mx (T1 (J Tryz.func116 (by decide))) (J (orcOf_ok (ok67 n)) (J (orcOf_ok (ok113 n)) (J (orcOf_ok (ok134 n)) (J (orcOf_ok (ok169 n)) (J (orcOf_ok (ok172 n)) (J (orcOf_ok (ok173 n)) (T1 (orcOf_ok (ok174 n))))))))) (T1 (okc (T1 (T1 (qo5 X n))) trivial)) trivial
abbrev P116 : List SV := [.str]
abbrev R116 : RV := .many [V7, V2]
theorem ok116 (n : Nat) : FO 116 P116 R116 (F.dec_Parse n) := fnOK_of WOf.st (cx116_ok _ n) (d := 8) fun _ => by kernel_rfl
noncomputable def o116 (n : Nat) := oc 116 P116 R116 (F.dec_Parse n)
abbrev P109 : List SV := [V0]
abbrev R109 : RV := .many [.str, V0]
theorem ok109 (n : Nat) : FO 109 P109 R109 (O.word n) := word_ok (enters Tryz.func109 (by kernel_rfl) (by decide)) Tryz.statsd_Word n
noncomputable def o109 (n : Nat) := oc 109 P109 R109 (O.word n)
def qh6 : Shape := ⟨[(0, .str), (4, V0)], [], [], [], [], 0, 0, 0⟩
def qe6_0 : Shape := ⟨[], [], [], [], [], 0, 0, 0⟩
def qe6_r : Shape := ⟨[(2, V0), (3, V0)], [], [], [], [], 0, 0, 0⟩
noncomputable def ql6 (X : Type) (n : Nat) : LoopI X := mkLi 8 0 0 0 qh6 [(0, qe6_0)] [qe6_r] n fun m ks => F.statsd_Kind.L2 n (fun _ => xe qe6_0 ks 0) (xr qe6_r ks) m
noncomputable def cx117 (X : Type) (n : Nat) : Cx X := mkCx tab.get [(117, Tryz.f117)] [o109 n] [(117, 2, [ql6 X n])] [] [] []
theorem qo6 (X : Type) (n : Nat) : LO (cx117 X n) 117 Tryz.f117 0 (ql6 X n) := lok
theorem cx117_ok (X : Type) (n : Nat) : CxOK Tryz.prog SW (cx117 X n) := mx (T1 (J Tryz.func117 (by decide))) (T1 (orcOf_ok (ok109 n))) (T1 (okc (T1 (T1 (qo6 X n))) trivial)) trivial
abbrev P117 : List SV := [.str]
abbrev R117 : RV := .many [V0, V0]
theorem ok117 (n : Nat) : FO 117 P117 R117 (F.statsd_Kind n) := fnOK_of WOf.st (cx117_ok _ n) (d := 8) fun _ => by kernel_rfl
noncomputable def o117 (n : Nat) := oc 117 P117 R117 (F.statsd_Kind n)
noncomputable def cx176 (X : Type) (n : Nat) : Cx X := mkCx tab.get [(176, Tryz.f176)] [] [] [] [] []
theorem cx176_ok (X : Type) (n : Nat) : CxOK Tryz.prog SW (cx176 X n) := mx (T1 (J Tryz.func176 (by decide))) trivial (T1 (okc trivial trivial)) trivial
abbrev P176 : List SV := [V0, V0]
abbrev R176 : RV := .many [V0, V2]
theorem ok176 (n : Nat) : FO 176 P176 R176 (F.num_fault n) := fnOK_of WOf.st (cx176_ok _ n) (d := 8) fun _ => by kernel_rfl
noncomputable def o176 (n : Nat) := oc 176 P176 R176 (F.num_fault n)
def qh7 : Shape := ⟨[(0, .str), (3, (.const (.ref 0 0))), (4, (.const (.ref 1 0))), (16, V8), (17, V0)], [[V0, V0], [V0, V0]], [], [], [], 2, 0, 0⟩
def qe7_0 : Shape := ⟨[(0, .str), (3, (.const (.ref 0 0))), (4, (.const (.ref 1 0)))], [[V0, V0], [V0, V0]], [], [], [], 2, 0, 0⟩
noncomputable def ql7 (X : Type) (n : Nat) : LoopI X := mkLi 8 0 0 0 qh7 [(0, qe7_0)] [] n fun m ks => F.num_Rate.L5 n (xe qe7_0 ks 0) m
def qh8 : Shape := ⟨[(3, (.const (.ref 0 0))), (7, .str), (9, (.const (.ref 3 0))), (10, (.const (.fn 177 [] [(.ref 3 0)]))), (81, V0)], [[V0, V0], [V0, V0], [V0, V0], [V0]], [], [], [], 4, 0, 0⟩
def qe8_3 : Shape := ⟨[(3, (.const (.ref 0 0))), (9, (.const (.ref 3 0)))], [[V0, V0], [V0, V0], [V0, V0], [V0]], [], [], [], 4, 0, 0⟩
noncomputable def ql8 (X : Type) (n : Nat) : LoopI X := mkLi 8 0 0 0 qh8 [(3, qe8_3)] [] n fun m ks => F.num_Rate.L23 n (xe qe8_3 ks 3) m
noncomputable def cx119 (X : Type) (n : Nat) : Cx X := mkCx tab.get [(119, Tryz.f119), (177, Tryz.f177)] [o114 n, o176 n] [(119, 5, [ql7 X n]), (119, 23, [ql8 X n])] [] [] []
theorem qo7 (X : Type) (n : Nat) : LO (cx119 X n) 119 Tryz.f119 0 (ql7 X n) := lok
theorem qo8 (X : Type) (n : Nat) : LO (cx119 X n) 119 Tryz.f119 1 (ql8 X n) := lok
theorem cx119_ok (X : Type) (n : Nat) : CxOK Tryz.prog SW (cx119 X n) := mx (J (J Tryz.func119 (by decide)) (T1 (J Tryz.func177 (by decide)))) (J (orcOf_ok (ok114 n)) (T1 (orcOf_ok (ok176 n)))) (J (okc (J (T1 (qo7 X n)) (T1 (T1 (qo8 X n)))) trivial) (T1 (okc trivial trivial))) trivial
abbrev P119 : List SV := [.str]
abbrev R119 : RV := .many [V0, V2]
theorem ok119 (n : Nat) : FO 119 P119 R119 (F.num_Rate n) := fnOK_of WOf.st (cx119_ok _ n) (d := 8) fun _ => by kernel_rfl
noncomputable def o119 (n : Nat) := oc 119 P119 R119 (F.num_Rate n)
def qh9 : Shape := ⟨[(2, (.const (.ref 1 0))), (3, (.const (.ref 2 0))), (4, (.const (.ref 3 0))), (6, (.const (.ref 4 0))), (9, .bool), (19, V0), (141, .bool)], [[.str], [.str, V0, (.sl Y2 (.own 0)), V0, (.sl Y3 (.own 1)), V0], [V0, V0], [V0], [.str, V0, (.sl Y2 (.own 2)), V0, (.sl Y3 (.own 3)), V0]], [true, true, true, true], [], [], 5, 0, 0⟩
def qe9_r : Shape := ⟨[(2, (.const (.ref 1 0))), (3, (.const (.ref 2 0)))], [[.str], [.str, V0, V3, V0, V4, V0], [V0, V0]], [], [], [], 3, 0, 0⟩
def qe9_n : Shape := ⟨[(2, (.const (.ref 1 0))), (3, (.const (.ref 2 0))), (4, (.const (.ref 3 0))), (6, (.const (.ref 4 0))), (9, .bool)], [[.str], [.str, V0, (.sl Y2 (.own 0)), V0, (.sl Y3 (.own 1)), V0], [V0, V0], [V0], [.str, V0, (.sl Y2 (.own 2)), V0, (.sl Y3 (.own 3)), V0]], [true, true, true, true], [], [], 5, 0, 0⟩
noncomputable def ql9 (X : Type) (n : Nat) : CutI X := mkCi 8 0 0 0 qh9 [qe9_n] [] [qe9_r] fun ks => F.statsd_Parse.C30 n (xr qe9_r ks) (xn qe9_n ks)
def qh10 : Shape := ⟨[(2, (.const (.ref 1 0))), (3, (.const (.ref 2 0))), (4, (.const (.ref 3 0))), (6, (.const (.ref 4 0))), (9, .bool)], [[.str], [.str, V0, (.sl Y2 (.own 0)), V0, (.sl Y3 (.own 1)), V0], [V0, V0], [V0], [.str, V0, (.sl Y2 (.own 2)), V0, (.sl Y3 (.own 3)), V0]], [true, true, true, true], [], [], 5, 0, 0⟩
def qe10_r : Shape := ⟨[(2, (.const (.ref 1 0))), (3, (.const (.ref 2 0)))], [[.str], [.str, V0, V3, V0, V4, V0], [V0, V0]], [], [], [], 3, 0, 0⟩
noncomputable def ql10 (X : Type) (n : Nat) : CutI X := mkCi 8 0 0 0 qh10 [] [] [qe10_r] fun ks => F.statsd_Parse.C31 n (xr qe10_r ks)
def qh11 : Shape := ⟨[(2, (.const (.ref 1 0))), (3, (.const (.ref 2 0))), (4, (.const (.ref 3 0))), (6, (.const (.ref 4 0))), (9, .bool), (13, (.const (.ref 6 0))), (16, V0), (18, .str), (19, V0)], [[.str], [.str, V0, (.sl Y2 (.own 0)), V0, (.sl Y3 (.own 1)), V0], [V0, V0], [V0], [.str, V0, (.sl Y2 (.own 2)), V0, (.sl Y3 (.own 3)), V0], [.bool, V6, V0], [V0, V0]], [true, true, true, true], [], [], 7, 0, 0⟩
def qe11_r : Shape := ⟨[(2, (.const (.ref 1 0))), (3, (.const (.ref 2 0)))], [[.str], [.str, V0, V3, V0, V4, V0], [V0, V0]], [], [], [], 3, 0, 0⟩
noncomputable def ql11 (X : Type) (n : Nat) : CutI X := mkCi 8 0 0 0 qh11 [] [] [qe11_r] fun ks => F.statsd_Parse.C28 n (xr qe11_r ks)
def qh12 : Shape := ⟨[(1, (.const (.ref 0 0))), (2, (.const (.ref 1 0))), (3, (.const (.ref 2 0))), (4, (.const (.ref 3 0))), (5, (.const (.fn 112 [] [(.ref 3 0), (.ref 0 0)]))), (6, (.const (.ref 4 0))), (7, .str), (9, .bool), (12, (.const (.ref 5 0))), (13, (.const (.ref 6 0))), (16, V0)], [[.str], [.str, V0, (.sl Y2 (.own 0)), V0, (.sl Y3 (.own 1)), V0], [V0, V0], [V0], [.str, V0, (.sl Y2 (.own 2)), V0, (.sl Y3 (.own 3)), V0], [.bool, V6, V0], [V0, V0]], [true, true, true, true], [], [], 7, 0, 0⟩
def qe12_r : Shape := ⟨[(2, (.const (.ref 1 0))), (3, (.const (.ref 2 0)))], [[.str], [.str, V0, V3, V0, V4, V0], [V0, V0]], [], [], [], 3, 0, 0⟩
noncomputable def ql12 (X : Type) (n : Nat) : CutI X := mkCi 8 0 0 0 qh12 [] [] [qe12_r] fun ks => F.statsd_Parse.C21 n (xr qe12_r ks)
def qh13 : Shape := ⟨[(1, (.const (.ref 0 0))), (2, (.const (.ref 1 0))), (3, (.const (.ref 2 0))), (4, (.const (.ref 3 0))), (5, (.const (.fn 112 [] [(.ref 3 0), (.ref 0 0)]))), (6, (.const (.ref 4 0))), (7, .str), (9, .bool), (10, .str), (11, V0), (12, (.const (.ref 5 0))), (13, (.const (.ref 6 0))), (14, .str), (15, V0)], [[.str], [.str, V0, (.sl Y2 (.own 0)), V0, (.sl Y3 (.own 1)), V0], [V0, V0], [V0], [.str, V0, (.sl Y2 (.own 2)), V0, (.sl Y3 (.own 3)), V0], [.bool, V6, V0], [V0, V0]], [true, true, true, true], [], [], 7, 0, 0⟩
def qe13_r : Shape := ⟨[(2, (.const (.ref 1 0))), (3, (.const (.ref 2 0)))], [[.str], [.str, V0, V3, V0, V4, V0], [V0, V0]], [], [], [], 3, 0, 0⟩
noncomputable def ql13 (X : Type) (n : Nat) : CutI X := mkCi 8 0 0 0 qh13 [] [] [qe13_r] fun ks => F.statsd_Parse.C16 n (xr qe13_r ks)
def qh14 : Shape := ⟨[(1, (.const (.ref 0 0))), (2, (.const (.ref 1 0))), (3, (.const (.ref 2 0))), (4, (.const (.ref 3 0))), (5, (.const (.fn 112 [] [(.ref 3 0), (.ref 0 0)]))), (6, (.const (.ref 4 0))), (7, .str), (9, .bool), (10, .str), (11, V0)], [[.str], [.str, V0, (.sl Y2 (.own 0)), V0, (.sl Y3 (.own 1)), V0], [V0, V0], [V0], [.str, V0, (.sl Y2 (.own 2)), V0, (.sl Y3 (.own 3)), V0]], [true, true, true, true], [], [], 5, 0, 0⟩
def qe14_r : Shape := ⟨[(2, (.const (.ref 1 0))), (3, (.const (.ref 2 0)))], [[.str], [.str, V0, V3, V0, V4, V0], [V0, V0]], [], [], [], 3, 0, 0⟩
noncomputable def ql14 (X : Type) (n : Nat) : CutI X := mkCi 8 0 0 0 qh14 [] [] [qe14_r] fun ks => F.statsd_Parse.C10 n (xr qe14_r ks)
def qh15 : Shape := ⟨[(1, (.const (.ref 0 0))), (2, (.const (.ref 1 0))), (3, (.const (.ref 2 0))), (4, (.const (.ref 3 0))), (5, (.const (.fn 112 [] [(.ref 3 0), (.ref 0 0)]))), (6, (.const (.ref 4 0))), (7, .str), (9, .bool)], [[.str], [.str, V0, (.sl Y2 (.own 0)), V0, (.sl Y3 (.own 1)), V0], [V0, V0], [V0], [.str, V0, (.sl Y2 (.own 2)), V0, (.sl Y3 (.own 3)), V0]], [true, true, true, true], [], [], 5, 0, 0⟩
def qe15_r : Shape := ⟨[(2, (.const (.ref 1 0))), (3, (.const (.ref 2 0)))], [[.str], [.str, V0, V3, V0, V4, V0], [V0, V0]], [], [], [], 3, 0, 0⟩
noncomputable def ql15 (X : Type) (n : Nat) : CutI X := mkCi 8 0 0 0 qh15 [] [] [qe15_r] fun ks => F.statsd_Parse.C5 n (xr qe15_r ks)
noncomputable def cx58 (X : Type) (n : Nat) : Cx X := mkCx tab.get [(58, Tryz.f58), (112, Tryz.f112)] [o113 n, o114 n, o115 n, o116 n, o117 n, o118 n, o119 n] [] [] [(58, 21, [(2, 5), (2, 7)])] [] [(58, 5, [ql15 X n]), (58, 10, [ql14 X n]), (58, 16, [ql13 X n]), (58, 21, [ql12 X n]), (58, 28, [ql11 X n]), (58, 30, [ql9 X n]), (58, 31, [ql10 X n])]
theorem qo9 (X : Type) (n : Nat) : CO (cx58 X n) 58 Tryz.f58 37 (ql9 X n) := fun _ _ => by kernel_rfl
theorem qo10 (X : Type) (n : Nat) : CO (cx58 X n) 58 Tryz.f58 36 (ql10 X n) := fun _ _ => by kernel_rfl
theorem qo11 (X : Type) (n : Nat) : CO (cx58 X n) 58 Tryz.f58 34 (ql11 X n) := fun _ _ => by kernel_rfl
theorem qo12 (X : Type) (n : Nat) : CO (cx58 X n) 58 Tryz.f58 21 (ql12 X n) := fun _ _ => by kernel_rfl
theorem qo13 (X : Type) (n : Nat) : CO (cx58 X n) 58 Tryz.f58 19 (ql13 X n) := fun _ _ => by kernel_rfl
theorem qo14 (X : Type) (n : Nat) : CO (cx58 X n) 58 Tryz.f58 11 (ql14 X n) := fun _ _ => by kernel_rfl
theorem qo15 (X : Type) (n : Nat) : CO (cx58 X n) 58 Tryz.f58 4 (ql15 X n) := fun _ _ => by kernel_rfl
theorem cx58_ok (X : Type) (n : Nat) : CxOK Tryz.prog SW (cx58 X n) := mx (J (J Tryz.func58 (by decide)) (T1 (J Tryz.func112 (by decide)))) (J (orcOf_ok (ok113 n)) (J (orcOf_ok (ok114 n)) (J (orcOf_ok (ok115 n)) (J (orcOf_ok (ok116 n)) (J (orcOf_ok (ok117 n)) (J (orcOf_ok (ok118 n)) (T1 (orcOf_ok (ok119 n))))))))) (J (okk (J trivial (J trivial (J trivial (J trivial (J (T1 (qo15 X n)) (J trivial (J trivial (J trivial (J trivial (J trivial (J trivial (J (T1 (qo14 X n)) (J trivial (J trivial (J trivial (J trivial (J trivial (J trivial (J trivial (J (T1 (qo13 X n)) (J trivial (J (T1 (qo12 X n)) (J trivial (J trivial (J trivial (J trivial (J trivial (J trivial (J trivial (J trivial (J trivial (J trivial (J trivial (J trivial (J (T1 (qo11 X n)) (J trivial (J (T1 (qo10 X n)) (J (T1 (qo9 X n)) (J trivial (J trivial (J trivial (J trivial (T1 trivial))))))))))))))))))))))))))))))))))))))))))) trivial trivial) (T1 (okc trivial trivial))) trivial
abbrev P58 : List SV := [.str]
abbrev R58 : RV := .many [V5, V2]
theorem ok58 (n : Nat) : FO 58 P58 R58 (F.statsd_Parse n) := fnOK_of WOf.st (cx58_ok _ n) (d := 8) fun _ => by kernel_rfl
noncomputable def o58 (n : Nat) := oc 58 P58 R58 (F.statsd_Parse n)
noncomputable def cx140 (X : Type) (n : Nat) : Cx X := mkCx tab.get [(140, Tryz.f140)] [] [] [] [] []
theorem cx140_ok (X : Type) (n : Nat) : CxOK Tryz.prog SW (cx140 X n) := mx (T1 (J Tryz.func140 (by decide))) trivial (T1 (okc trivial trivial)) trivial
abbrev P140 : List SV := [V4]
abbrev R140 : RV := .one V4
theorem ok140 (n : Nat) : FO 140 P140 R140 (F.slices_Clip_api_Tag_api_Tag n) := fnOK_of WOf.st (cx140_ok _ n) (d := 8) fun _ => by kernel_rfl
noncomputable def o140 (n : Nat) := oc 140 P140 R140 (F.slices_Clip_api_Tag_api_Tag n)
def qh16 : Shape := ⟨[(3, (.ms 2 Y3)), (4, V0), (11, (.ms 2 Y3)), (12, V0), (13, V0)], [[(.row Y3)], [(.row Y3)], [(.row Y3)]], [], [], [], 3, 0, 0⟩
def qe16_0 : Shape := ⟨[(3, (.ms 2 Y3)), (4, V0)], [[(.row Y3)], [(.row Y3)], [(.row Y3)]], [], [], [], 3, 0, 0⟩
noncomputable def ql16 (X : Type) (n : Nat) : LoopI X := mkLi 8 0 0 0 qh16 [(0, qe16_0)] [] n fun m ks => F.tag_Normal.L5 n (xe qe16_0 ks 0) m
noncomputable def cx68 (X : Type) (n : Nat) : Cx X := mkCx tab.get [(68, Tryz.f68), (135, Tryz.f135)] [o140 n] [(68, 5, [ql16 X n])] [] [] [] [] [(34, Y3)] [(136, .sort Y3 137 sortTags)] none [135]
theorem qo16 (X : Type) (n : Nat) : LO (cx68 X n) 68 Tryz.f68 0 (ql16 X n) := lok
theorem cx68_ok (X : Type) (n : Nat) : CxOK Tryz.prog SW (cx68 X n) := mx (J (J Tryz.func68 (by decide)) (T1 (J Tryz.func135 (by decide)))) (T1 (orcOf_ok (ok140 n))) (J (okc (T1 (T1 (qo16 X n))) trivial) (T1 (okc trivial trivial))) trivial (T1 (sortTags_ok.mono (fun _ _ => trivial)))
abbrev P68 : List SV := [V4]
abbrev R68 : RV := .one V4
theorem ok68 (n : Nat) : FO 68 P68 R68 (F.tag_Normal n) := fnOK_of WOf.st (cx68_ok _ n) (d := 8) fun _ => by kernel_rfl
noncomputable def o68 (n : Nat) := oc 68 P68 R68 (F.tag_Normal n)
abbrev P126 : List SV := [.str, .str]
abbrev R126 : RV := .one V9
theorem ok126 (n : Nat) : FO 126 P126 R126 (O.split1 n) := split1_ok (enters Tryz.func126 (by kernel_rfl) (by decide)) Tryz.strings_Split_one n
noncomputable def o126 (n : Nat) := oc 126 P126 R126 (O.split1 n)
noncomputable def cx179 (X : Type) (n : Nat) : Cx X := mkCx tab.get [(179, Tryz.f179)] [] [] [] [] []
theorem cx179_ok (X : Type) (n : Nat) : CxOK Tryz.prog SW (cx179 X n) := mx (T1 (J Tryz.func179 (by decide))) trivial (T1 (okc trivial trivial)) trivial
abbrev P179 : List SV := []
abbrev R179 : RV := .one V10
theorem ok179 (n : Nat) : FO 179 P179 R179 (F.dog_words n) := fnOK_of WOf.st (cx179_ok _ n) (d := 8) fun _ => by kernel_rfl
noncomputable def o179 (n : Nat) := oc 179 P179 R179 (F.dog_words n)
def qh17 : Shape := ⟨[(0, .str), (6, V10), (7, V0)], [], [], [], [], 0, 0, 0⟩
def qe17_0 : Shape := ⟨[], [], [], [], [], 0, 0, 0⟩
def qe17_r : Shape := ⟨[(2, V0), (3, V0)], [], [], [], [], 0, 0, 0⟩
noncomputable def ql17 (X : Type) (n : Nat) : LoopI X := mkLi 8 0 0 0 qh17 [(0, qe17_0)] [qe17_r] n fun m ks => F.dog_Kind.L2 n (fun _ => xe qe17_0 ks 0) (xr qe17_r ks) m
noncomputable def cx183 (X : Type) (n : Nat) : Cx X := mkCx tab.get [(183, Tryz.f183)] [o179 n] [(183, 2, [ql17 X n])] [] [] []
theorem qo17 (X : Type) (n : Nat) : LO (cx183 X n) 183 Tryz.f183 0 (ql17 X n) := lok
theorem cx183_ok (X : Type) (n : Nat) : CxOK Tryz.prog SW (cx183 X n) := mx (T1 (J Tryz.func183 (by decide))) (T1 (orcOf_ok (ok179 n))) (T1 (okc (T1 (T1 (qo17 X n))) trivial)) trivial
abbrev P183 : List SV := [.str]
abbrev R183 : RV := .many [V0, V0]
theorem ok183 (n : Nat) : FO 183 P183 R183 (F.dog_Kind n) := fnOK_of WOf.st (cx183_ok _ n) (d := 8) fun _ => by kernel_rfl
noncomputable def o183 (n : Nat) := oc 183 P183 R183 (F.dog_Kind n)
abbrev P250 : List SV := [.str]
abbrev R250 : RV := .many [V0, .err]
theorem ok250 (n : Nat) : FO 250 P250 R250 (O.atoi n) := atoi_ok (enters Tryz.func250 (by kernel_rfl) (by decide)) (fun s hs v hv w hw => (Tryz.strconv_Atoi_ok s (by omega) v hv w).mono fun e w' ⟨a, b⟩ => ⟨a, by rcases b with rfl | ⟨t, rfl⟩; exact Below.refl _ _; exact below_bytes⟩)
  (fun s hs n1 n2 w hw => by obtain ⟨ev, hv, hev⟩ := swErrS hw; exact (Any.strconv_Atoi_syntax Tryz.laysC172 s (by omega) (by cases hq : Lib.atoiAll s.data.toList with | ok v => exact absurd hq (n1 v) | range => exact absurd hq n2 | _ => rfl) ev w hv hev).mono fun e w' ⟨N, a, _, _, b⟩ => ⟨⟨_, _, a⟩, b⟩)
  (fun s hs hq w hw => by obtain ⟨ev, hv, hev⟩ := swErrR hw; exact (Any.strconv_Atoi_range Tryz.laysC172 s (by omega) hq ev w hv hev).mono fun e w' ⟨N, a, _, _, b⟩ => ⟨⟨_, _, a⟩, b⟩) n
noncomputable def o250 (n : Nat) := oc 250 P250 R250 (O.atoi n)
noncomputable def cx221 (X : Type) (n : Nat) : Cx X := mkCx tab.get [(221, Tryz.f221)] [o114 n, o176 n, o250 n] [] [] [] []
theorem cx221_ok (X : Type) (n : Nat) : CxOK Tryz.prog SW (cx221 X n) := mx (T1 (J Tryz.func221 (by decide))) (J (orcOf_ok (ok114 n)) (J (orcOf_ok (ok176 n)) (T1 (orcOf_ok (ok250 n))))) (T1 (okc trivial trivial)) trivial
abbrev P221 : List SV := [.str, V0, V0]
abbrev R221 : RV := .many [V0, V2]
theorem ok221 (n : Nat) : FO 221 P221 R221 (F.num_Parse n) := fnOK_of WOf.st (cx221_ok _ n) (d := 8) fun _ => by kernel_rfl
noncomputable def o221 (n : Nat) := oc 221 P221 R221 (F.num_Parse n)
noncomputable def cx188 (X : Type) (n : Nat) : Cx X := mkCx tab.get [(188, Tryz.f188)] [o221 n] [] [] [] []
theorem cx188_ok (X : Type) (n : Nat) : CxOK Tryz.prog SW (cx188 X n) := mx (T1 (J Tryz.func188 (by decide))) (T1 (orcOf_ok (ok221 n))) (T1 (okc trivial trivial)) trivial
abbrev P188 : List SV := [.str]
abbrev R188 : RV := .many [V0, V2]
theorem ok188 (n : Nat) : FO 188 P188 R188 (F.num_Time n) := fnOK_of WOf.st (cx188_ok _ n) (d := 8) fun _ => by kernel_rfl
noncomputable def o188 (n : Nat) := oc 188 P188 R188 (F.num_Time n)
noncomputable def cx162 (X : Type) (n : Nat) : Cx X := mkCx tab.get [(162, Tryz.f162)] [o114 n] [] [] [] []
theorem cx162_ok (X : Type) (n : Nat) : CxOK Tryz.prog SW (cx162 X n) := mx (T1 (J Tryz.func162 (by decide))) (T1 (orcOf_ok (ok114 n))) (T1 (okc trivial trivial)) trivial
abbrev P162 : List SV := [V11]
abbrev R162 : RV := .one V0
theorem ok162 (n : Nat) : FO 162 P162 R162 (F.tag_Check n) := fnOK_of WOf.st (cx162_ok _ n) (d := 8) fun _ => by kernel_rfl
noncomputable def o162 (n : Nat) := oc 162 P162 R162 (F.tag_Check n)
def qh18 : Shape := ⟨[(3, (.const (.ref 0 0))), (4, (.sl Y3 (.own 0))), (5, V0), (13, V9), (14, V0), (15, V0)], [[V0, V0]], [true], [], [], 1, 0, 0⟩
def qe18_0 : Shape := ⟨[(3, (.const (.ref 0 0))), (4, (.sl Y3 (.own 0)))], [[V0, V0]], [true], [], [], 1, 0, 0⟩
def qe18_r : Shape := ⟨[(2, (.sl Y3 (.own 0))), (3, (.const (.ref 0 0)))], [[V0, V0]], [true], [], [], 1, 0, 0⟩
noncomputable def ql18 (X : Type) (n : Nat) : LoopI X := mkLi 8 0 0 0 qh18 [(0, qe18_0)] [qe18_r] n fun m ks => F.tag_Parse.L4 n (xe qe18_0 ks 0) (xr qe18_r ks) m
noncomputable def cx220 (X : Type) (n : Nat) : Cx X := mkCx tab.get [(220, Tryz.f220)] [o113 n, o126 n, o162 n] [(220, 4, [ql18 X n])] [] [] []
theorem qo18 (X : Type) (n : Nat) : LO (cx220 X n) 220 Tryz.f220 0 (ql18 X n) := lok
theorem cx220_ok (X : Type) (n : Nat) : CxOK Tryz.prog SW (cx220 X n) := mx (T1 (J Tryz.func220 (by decide))) (J (orcOf_ok (ok113 n)) (J (orcOf_ok (ok126 n)) (T1 (orcOf_ok (ok162 n))))) (T1 (okc (T1 (T1 (qo18 X n))) trivial)) trivial
abbrev P220 : List SV := [.str]
abbrev R220 : RV := .many [V4, V2]
theorem ok220 (n : Nat) : FO 220 P220 R220 (F.tag_Parse n) := fnOK_of WOf.st (cx220_ok _ n) (d := 8) fun _ => by kernel_rfl
noncomputable def o220 (n : Nat) := oc 220 P220 R220 (F.tag_Parse n)
def qh19 : Shape := ⟨[(0, (.const (.ref 2 0))), (4, (.const (.ref 4 0))), (8, V0), (42, V9), (43, V0), (44, V0)], [[.str, V0, (.sl Y2 (.own 0)), V0, (.sl Y3 (.own 1)), V0], [V0, V0], [.str, V0, (.sl Y2 (.own 2)), V0, V4, V0, V0, V0], [V0, V0], [V0, V0]], [true, true, true], [], [], 5, 3, 0⟩
def qe19_1 : Shape := ⟨[(4, (.const (.ref 4 0)))], [[.str, V0, (.sl Y2 (.own 0)), V0, (.sl Y3 (.own 1)), V0], [V0, V0], [.str, V0, (.sl Y2 (.own 2)), V0, V4, V0, V0, V0], [V0, V0], [V0, V0]], [true, true, true], [], [], 5, 3, 0⟩
def qe19_r : Shape := ⟨[(4, (.const (.ref 4 0)))], [[.str, V0, (.sl Y2 (.own 0)), V0, (.sl Y3 (.own 1)), V0], [V0, V0], [.str, V0, (.sl Y2 (.own 2)), V0, V4, V0, V0, V0], [V0, V0], [V0, V0]], [true, true, true], [], [], 5, 3, 0⟩
noncomputable def ql19 (X : Type) (n : Nat) : LoopI X := mkLi 7 4 3 0 qh19 [(1, qe19_1)] [qe19_r] n fun m ks => F.dog_Parse.L9_dog_reader_first n (xe qe19_1 ks 1) (xr qe19_r ks) m
def qh20 : Shape := ⟨[(0, (.const (.ref 2 0))), (1, .str), (4, (.const (.ref 4 0))), (19, V12), (20, V0)], [[.str, V0, (.sl Y2 (.own 0)), V0, (.sl Y3 (.own 1)), V0], [V0, V0], [.str, V0, (.sl Y2 (.own 2)), V0, V4, V0, V0, V0], [V0, V0], [V0, V0]], [true, true, true], [], [], 5, 3, 0⟩
def qe20_0 : Shape := ⟨[(0, (.const (.ref 2 0))), (4, (.const (.ref 4 0)))], [[.str, V0, (.sl Y2 (.own 0)), V0, (.sl Y3 (.own 1)), V0], [V0, V0], [.str, V0, (.sl Y2 (.own 2)), V0, V4, V0, V0, V0], [V0, V0], [V0, V0]], [true, true, true], [], [], 5, 3, 0⟩
def qe20_r : Shape := ⟨[(4, (.const (.ref 4 0)))], [[.str, V0, (.sl Y2 (.own 0)), V0, (.sl Y3 (.own 1)), V0], [V0, V0], [.str, V0, (.sl Y2 (.own 2)), V0, V4, V0, V0, V0], [V0, V0], [V0, V0]], [true, true, true], [], [], 5, 3, 0⟩
noncomputable def ql20 (X : Type) (n : Nat) : LoopI X := mkLi 7 4 3 0 qh20 [(0, qe20_0)] [qe20_r] n fun m ks => F.dog_Parse.L2_dog_reader_more n (xe qe20_0 ks 0) (xr qe20_r ks) m
def qh21 : Shape := ⟨[(0, .str), (2, (.const (.ref 0 0))), (3, (.const (.ref 1 0))), (4, (.const (.ref 2 0))), (5, V9), (6, (.const (.imms 2 [(.fn 127 [(.ref 2 0)] []), (.fn 128 [(.ref 2 0)] [])]))), (7, (.const (.ref 3 0))), (26, V9), (27, V0), (28, V0)], [[.str, V0, (.sl Y2 (.own 0)), V0, (.sl Y3 (.own 1)), V0], [V0, V0], [.str, V0, (.sl Y2 (.own 2)), V0, V4, V0, V0, V0], [V0, V0]], [true, true, true], [], [], 4, 0, 0⟩
def qe21_0 : Shape := ⟨[(0, .str), (2, (.const (.ref 0 0))), (3, (.const (.ref 1 0))), (4, (.const (.ref 2 0))), (5, V9), (6, (.const (.imms 2 [(.fn 127 [(.ref 2 0)] []), (.fn 128 [(.ref 2 0)] [])]))), (7, (.const (.ref 3 0)))], [[.str, V0, (.sl Y2 (.own 0)), V0, (.sl Y3 (.own 1)), V0], [V0, V0], [.str, V0, (.sl Y2 (.own 2)), V0, V4, V0, V0, V0], [V0, V0]], [true, true, true], [], [], 4, 0, 0⟩
noncomputable def ql21 (X : Type) (n : Nat) : LoopI X := mkLi 8 0 0 0 qh21 [(0, qe21_0)] [] n fun m ks => F.dog_Parse.L8 n (xe qe21_0 ks 0) m
noncomputable def cx60 (X : Type) (n : Nat) : Cx X := mkCx tab.get [(60, Tryz.f60), (127, Tryz.f127), (128, Tryz.f128), (129, Tryz.f129), (182, Tryz.f182), (184, Tryz.f184), (185, Tryz.f185), (186, Tryz.f186)] [o68 n, o113 n, o114 n, o116 n, o119 n, o126 n, o173 n, o183 n, o188 n, o220 n] [(60, 8, [ql21 X n]), (127, 9, [ql19 X n]), (129, 2, [ql20 X n])] [] [(60, 20, [(1, 2)]), (60, 21, [(4, 5)])] []
theorem qo19 (X : Type) (n : Nat) : LO (cx60 X n) 127 Tryz.f127 0 (ql19 X n) := lok
theorem qo20 (X : Type) (n : Nat) : LO (cx60 X n) 129 Tryz.f129 0 (ql20 X n) := lok
theorem qo21 (X : Type) (n : Nat) : LO (cx60 X n) 60 Tryz.f60 0 (ql21 X n) := lok
theorem cx60_ok (X : Type) (n : Nat) : CxOK Tryz.prog SW (cx60 X n) := mx (J (J Tryz.func60 (by decide)) (J (J Tryz.func127 (by decide)) (J (J Tryz.func128 (by decide)) (J (J Tryz.func129 (by decide)) (J (J Tryz.func182 (by decide)) (J (J Tryz.func184 (by decide)) (J (J Tryz.func185 (by decide)) (T1 (J Tryz.func186 (by decide)))))))))) (J (orcOf_ok (ok68 n)) (J (orcOf_ok (ok113 n)) (J (orcOf_ok (ok114 n)) (J (orcOf_ok (ok116 n)) (J (orcOf_ok (ok119 n)) (J (orcOf_ok (ok126 n)) (J (orcOf_ok (ok173 n)) (J (orcOf_ok (ok183 n)) (J (orcOf_ok (ok188 n)) (T1 (orcOf_ok (ok220 n)))))))))))) (J (okc (T1 (T1 (qo21 X n))) trivial) (J (okc (T1 (T1 (qo19 X n))) trivial) (J (okc trivial trivial) (J (okc (T1 (T1 (qo20 X n))) trivial) (J (okc trivial trivial) (J (okc trivial trivial) (J (okc trivial trivial) (T1 (okc trivial trivial))))))))) trivial
abbrev P60 : List SV := [.str]
abbrev R60 : RV := .many [V5, V2]
theorem ok60 (n : Nat) : FO 60 P60 R60 (F.dog_Parse n) := fnOK_of WOf.st (cx60_ok _ n) (d := 8) fun _ => by kernel_rfl
noncomputable def o60 (n : Nat) := oc 60 P60 R60 (F.dog_Parse n)
def qh22 : Shape := ⟨[(0, (.const (.yield 0))), (1, (.const (.ref 4 0))), (3, V0), (4, V0), (5, .bool)], [[.str, V0, (.sl Y2 (.own 0)), V0, (.sl Y3 (.own 1)), V0], [V0, V0], [.str, V0, (.sl Y2 (.own 2)), V0, (.sl Y3 (.own 3)), V0], [V0, V0], [.str]], [true, true, true, true], [.ready], [(0, 62, 4, [(4, (.const (.ref 2 0))), (5, (.const (.ref 3 0)))])], 5, 0, 1⟩
def qe22_0 : Shape := ⟨[], [[.str, V0, (.sl Y2 (.own 0)), V0, (.sl Y3 (.own 1)), V0], [V0, V0], [.str, V0, (.sl Y2 (.own 2)), V0, (.sl Y3 (.own 3)), V0], [V0, V0], [.str]], [true, true, true, true], [.ready], [], 5, 0, 1⟩
def qe22_r : Shape := ⟨[], [[.str, V0, (.sl Y2 (.own 0)), V0, (.sl Y3 (.own 1)), V0], [V0, V0], [.str, V0, (.sl Y2 (.own 2)), V0, (.sl Y3 (.own 3)), V0], [V0, V0], [.str]], [true, true, true, true], [.done (.ex 0)], [], 5, 0, 1⟩
noncomputable def ql22 (X : Type) (n : Nat) : LoopI X := mkLi 7 5 0 1 qh22 [(0, qe22_0)] [qe22_r] n fun m ks => F.graphite_Parse.L2_graphite_cut_1 n (xe qe22_0 ks 0) (xr qe22_r ks) m
noncomputable def cx62 (X : Type) (n : Nat) : Cx X := mkCx tab.get [(62, Tryz.f62), (130, Tryz.f130), (131, Tryz.f131), (187, Tryz.f187)] [o113 n, o114 n, o116 n, o188 n] [(187, 2, [ql22 X n])] [(62, 4, Tryz.f62, [4, 5], 0)] [(62, 13, [(1, 2)]), (62, 14, [(1, 2)])] []
theorem qo22 (X : Type) (n : Nat) : LO (cx62 X n) 187 Tryz.f187 0 (ql22 X n) := lok
theorem cx62_ok (X : Type) (n : Nat) : CxOK Tryz.prog SW (cx62 X n) := mx (J (J Tryz.func62 (by decide)) (J (J Tryz.func130 (by decide)) (J (J Tryz.func131 (by decide)) (T1 (J Tryz.func187 (by decide)))))) (J (orcOf_ok (ok113 n)) (J (orcOf_ok (ok114 n)) (J (orcOf_ok (ok116 n)) (T1 (orcOf_ok (ok188 n)))))) (J (okc trivial (T1 (rfo (cx := cx62 X n) (g := 62) (i := 4) (lv := [4, 5]) (show _ = some (Tryz.f62.ntmps, _, rfNo Tryz.f62 0) by kernel_rfl)))) (J (okc trivial trivial) (J (okc trivial trivial) (T1 (okc (T1 (T1 (qo22 X n))) trivial))))) (T1 (J Tryz.func62 rfl))
abbrev P62 : List SV := [.str]
abbrev R62 : RV := .many [V5, V2]
theorem ok62 (n : Nat) : FO 62 P62 R62 (F.graphite_Parse n) := fnOK_of WOf.st (cx62_ok _ n) (d := 8) fun _ => by kernel_rfl
noncomputable def o62 (n : Nat) := oc 62 P62 R62 (F.graphite_Parse n)
noncomputable def cx15 (X : Type) (n : Nat) : Cx X := mkCx tab.get [(15, Tryz.f15), (32, Tryz.f32)] [o58 n, o60 n, o62 n] [] [] [] []
theorem cx15_ok (X : Type) (n : Nat) : CxOK Tryz.prog SW (cx15 X n) := mx (J (J Tryz.func15 (by decide)) (T1 (J Tryz.func32 (by decide)))) (J (orcOf_ok (ok58 n)) (J (orcOf_ok (ok60 n)) (T1 (orcOf_ok (ok62 n))))) (J (okc trivial trivial) (T1 (okc trivial trivial))) trivial
abbrev P15 : List SV := [.str, V0]
abbrev R15 : RV := .many [V5, V2]
theorem ok15 (n : Nat) : FO 15 P15 R15 (F.text_Parse n) := fnOK_of WOf.st (cx15_ok _ n) (d := 8) fun _ => by kernel_rfl
noncomputable def o15 (n : Nat) := oc 15 P15 R15 (F.text_Parse n)
noncomputable def cx133 (X : Type) (n : Nat) : Cx X := mkCx tab.get [(133, Tryz.f133)] [] [] [] [] []
theorem cx133_ok (X : Type) (n : Nat) : CxOK Tryz.prog SW (cx133 X n) := mx (T1 (J Tryz.func133 (by decide))) trivial (T1 (okc trivial trivial)) trivial
abbrev P133 : List SV := [.str, .str]
abbrev R133 : RV := .one .bool
theorem ok133 (n : Nat) : FO 133 P133 R133 (F.stringslite_HasSuffix n) := fnOK_of WOf.st (cx133_ok _ n) (d := 8) fun _ => by kernel_rfl
noncomputable def o133 (n : Nat) := oc 133 P133 R133 (F.stringslite_HasSuffix n)
noncomputable def cx65 (X : Type) (n : Nat) : Cx X := mkCx tab.get [(65, Tryz.f65)] [o133 n] [] [] [] []
theorem cx65_ok (X : Type) (n : Nat) : CxOK Tryz.prog SW (cx65 X n) := mx (T1 (J Tryz.func65 (by decide))) (T1 (orcOf_ok (ok133 n))) (T1 (okc trivial trivial)) trivial
abbrev P65 : List SV := [.str, .str]
abbrev R65 : RV := .many [.str, .bool]
theorem ok65 (n : Nat) : FO 65 P65 R65 (F.stringslite_CutSuffix n) := fnOK_of WOf.st (cx65_ok _ n) (d := 8) fun _ => by kernel_rfl
noncomputable def o65 (n : Nat) := oc 65 P65 R65 (F.stringslite_CutSuffix n)
noncomputable def cx34 (X : Type) (n : Nat) : Cx X := mkCx tab.get [(34, Tryz.f34)] [o65 n] [] [] [] []
theorem cx34_ok (X : Type) (n : Nat) : CxOK Tryz.prog SW (cx34 X n) := mx (T1 (J Tryz.func34 (by decide))) (T1 (orcOf_ok (ok65 n))) (T1 (okc trivial trivial)) trivial
abbrev P34 : List SV := [.str, .str]
abbrev R34 : RV := .many [.str, .bool]
theorem ok34 (n : Nat) : FO 34 P34 R34 (F.strings_CutSuffix n) := fnOK_of WOf.st (cx34_ok _ n) (d := 8) fun _ => by kernel_rfl
noncomputable def o34 (n : Nat) := oc 34 P34 R34 (F.strings_CutSuffix n)
abbrev P132 : List SV := [.str, V1]
abbrev R132 : RV := .one V0
theorem ok132 (n : Nat) : FO 132 P132 R132 (O.indexB n) := indexB_ok (enters Tryz.func132 (by kernel_rfl) (by decide)) Tryz.stringslite_IndexByte n
noncomputable def o132 (n : Nat) := oc 132 P132 R132 (O.indexB n)
noncomputable def cx64 (X : Type) (n : Nat) : Cx X := mkCx tab.get [(64, Tryz.f64)] [o132 n] [] [] [] []
theorem cx64_ok (X : Type) (n : Nat) : CxOK Tryz.prog SW (cx64 X n) := mx (T1 (J Tryz.func64 (by decide))) (T1 (orcOf_ok (ok132 n))) (T1 (okc trivial trivial)) trivial
abbrev P64 : List SV := [.str, V1]
abbrev R64 : RV := .one V0
theorem ok64 (n : Nat) : FO 64 P64 R64 (F.strings_IndexByte n) := fnOK_of WOf.st (cx64_ok _ n) (d := 8) fun _ => by kernel_rfl
noncomputable def o64 (n : Nat) := oc 64 P64 R64 (F.strings_IndexByte n)
def qh23 : Shape := ⟨[(0, (.const (.yield 0))), (1, (.const (.ref 7 0)))], [[V0], [(.sl Y6 (.own 0))], [V0, V0], [(.const (.fn 57 [] [])), (.const (.fn 58 [] []))], [(.const (.fn 57 [] [])), (.const (.fn 58 [] []))], [(.sl Y6 (.own 1))], [V0], [.str]], [true, true], [.ready], [(0, 10, 7, [(3, (.const (.ref 0 0))), (4, (.const (.ref 1 0))), (5, (.const (.ref 2 0))), (8, (.const (.ref 5 0))), (9, (.const (.ref 6 0)))])], 8, 0, 1⟩
def qe23_0 : Shape := ⟨[], [[V0], [(.sl Y6 (.own 0))], [V0, V0], [(.const (.fn 57 [] [])), (.const (.fn 58 [] []))], [(.const (.fn 57 [] [])), (.const (.fn 58 [] []))], [(.sl Y6 (.own 1))], [V0], [.str]], [true, true], [.ready], [], 8, 0, 1⟩
def qe23_r : Shape := ⟨[], [[V0], [(.sl Y6 (.own 0))], [V0, V0], [(.const (.fn 57 [] [])), (.const (.fn 58 [] []))], [(.const (.fn 57 [] [])), (.const (.fn 58 [] []))], [(.sl Y6 (.own 1))], [V0], [.str]], [true, true], [.done .ret], [], 8, 0, 1⟩
noncomputable def ql23 (X : Type) (n : Nat) : LoopI X := mkLi 7 8 0 1 qh23 [(0, qe23_0)] [qe23_r] n fun m ks => F.text_Decode.L0_strings_Lines_1 n (xe qe23_0 ks 0) (xr qe23_r ks) m
def qh24 : Shape := ⟨[(0, (.const (.yield 0))), (1, (.const (.ref 7 0)))], [[V0], [(.sl Y6 (.own 0))], [V0, V0], [(.const (.fn 59 [] [])), (.const (.fn 60 [] []))], [(.const (.fn 59 [] [])), (.const (.fn 60 [] []))], [(.sl Y6 (.own 1))], [V0], [.str]], [true, true], [.ready], [(0, 10, 7, [(3, (.const (.ref 0 0))), (4, (.const (.ref 1 0))), (5, (.const (.ref 2 0))), (8, (.const (.ref 5 0))), (9, (.const (.ref 6 0)))])], 8, 0, 1⟩
def qe24_0 : Shape := ⟨[], [[V0], [(.sl Y6 (.own 0))], [V0, V0], [(.const (.fn 59 [] [])), (.const (.fn 60 [] []))], [(.const (.fn 59 [] [])), (.const (.fn 60 [] []))], [(.sl Y6 (.own 1))], [V0], [.str]], [true, true], [.ready], [], 8, 0, 1⟩
def qe24_r : Shape := ⟨[], [[V0], [(.sl Y6 (.own 0))], [V0, V0], [(.const (.fn 59 [] [])), (.const (.fn 60 [] []))], [(.const (.fn 59 [] [])), (.const (.fn 60 [] []))], [(.sl Y6 (.own 1))], [V0], [.str]], [true, true], [.done .ret], [], 8, 0, 1⟩
noncomputable def ql24 (X : Type) (n : Nat) : LoopI X := mkLi 7 8 0 1 qh24 [(0, qe24_0)] [qe24_r] n fun m ks => F.text_Decode.L0_strings_Lines_1 n (xe qe24_0 ks 0) (xr qe24_r ks) m
def qh25 : Shape := ⟨[(0, (.const (.yield 0))), (1, (.const (.ref 7 0)))], [[V0], [(.sl Y6 (.own 0))], [V0, V0], [(.const (.fn 61 [] [])), (.const (.fn 62 [] []))], [(.const (.fn 61 [] [])), (.const (.fn 62 [] []))], [(.sl Y6 (.own 1))], [V0], [.str]], [true, true], [.ready], [(0, 10, 7, [(3, (.const (.ref 0 0))), (4, (.const (.ref 1 0))), (5, (.const (.ref 2 0))), (8, (.const (.ref 5 0))), (9, (.const (.ref 6 0)))])], 8, 0, 1⟩
def qe25_0 : Shape := ⟨[], [[V0], [(.sl Y6 (.own 0))], [V0, V0], [(.const (.fn 61 [] [])), (.const (.fn 62 [] []))], [(.const (.fn 61 [] [])), (.const (.fn 62 [] []))], [(.sl Y6 (.own 1))], [V0], [.str]], [true, true], [.ready], [], 8, 0, 1⟩
def qe25_r : Shape := ⟨[], [[V0], [(.sl Y6 (.own 0))], [V0, V0], [(.const (.fn 61 [] [])), (.const (.fn 62 [] []))], [(.const (.fn 61 [] [])), (.const (.fn 62 [] []))], [(.sl Y6 (.own 1))], [V0], [.str]], [true, true], [.done .ret], [], 8, 0, 1⟩
noncomputable def ql25 (X : Type) (n : Nat) : LoopI X := mkLi 7 8 0 1 qh25 [(0, qe25_0)] [qe25_r] n fun m ks => F.text_Decode.L0_strings_Lines_1 n (xe qe25_0 ks 0) (xr qe25_r ks) m
noncomputable def cx10 (X : Type) (n : Nat) : Cx X := mkCx tab.get [(10, Tryz.f10), (32, Tryz.f32), (33, Tryz.f33), (63, Tryz.f63)] [o15 n, o34 n, o64 n] [(63, 0, [ql23 X n, ql24 X n, ql25 X n])] [(10, 7, Tryz.f10, [3, 4, 5, 8, 9], 0)] [(10, 17, [(1, 7), (2, 7), (4, 7)])] []
theorem qo23 (X : Type) (n : Nat) : LO (cx10 X n) 63 Tryz.f63 0 (ql23 X n) := lok
theorem qo24 (X : Type) (n : Nat) : LO (cx10 X n) 63 Tryz.f63 0 (ql24 X n) := lok
theorem qo25 (X : Type) (n : Nat) : LO (cx10 X n) 63 Tryz.f63 0 (ql25 X n) := lok
theorem cx10_ok (X : Type) (n : Nat) : CxOK Tryz.prog SW (cx10 X n) := mx (J (J Tryz.func10 (by decide)) (J (J Tryz.func32 (by decide)) (J (J Tryz.func33 (by decide)) (T1 (J Tryz.func63 (by decide)))))) (J (orcOf_ok (ok15 n)) (J (orcOf_ok (ok34 n)) (T1 (orcOf_ok (ok64 n))))) (J (okc trivial (T1 (rfo (cx := cx10 X n) (g := 10) (i := 7) (lv := [3, 4, 5, 8, 9]) (show _ = some (Tryz.f10.ntmps, _, rfNo Tryz.f10 0) by kernel_rfl)))) (J (okc trivial trivial) (J (okc trivial trivial) (T1 (okc (T1 (J (qo23 X n) (J (qo24 X n) (T1 (qo25 X n))))) trivial))))) (T1 (J Tryz.func10 rfl))
abbrev P10 : List SV := [V13, V0]
abbrev R10 : RV := .many [V14, V2]
theorem ok10 (n : Nat) : FO 10 P10 R10 (F.text_Decode n) := fnOK_of WOf.st (cx10_ok _ n) (d := 8) fun _ => by kernel_rfl
noncomputable def o10 (n : Nat) := oc 10 P10 R10 (F.text_Decode n)
noncomputable def cx9 (X : Type) (n : Nat) : Cx X := mkCx tab.get [(9, Tryz.f9)] [o10 n] [] [] [] [] [] [(22, .u8)]
theorem cx9_ok (X : Type) (n : Nat) : CxOK Tryz.prog SW (cx9 X n) := mx (T1 (J Tryz.func9 (by decide))) (T1 (orcOf_ok (ok10 n))) (T1 (okc trivial trivial)) trivial
abbrev P9 : List SV := []
abbrev R9 : RV := .one .bool
theorem ok9 (n : Nat) : FO 9 P9 R9 (F.law13_awake n) := fnOK_of WOf.st (cx9_ok _ n) (d := 8) fun _ => by kernel_rfl
noncomputable def o9 (n : Nat) := oc 9 P9 R9 (F.law13_awake n)
def qh26 : Shape := ⟨[(0, V0), (1, V0), (2, V0), (7, .str), (8, (.ms 0 .u8)), (9, V0)], [[(.row .u8)]], [], [], [], 1, 0, 0⟩
def qe26_0 : Shape := ⟨[(0, V0), (1, V0), (2, V0), (7, .str), (8, (.ms 0 .u8))], [[(.row .u8)]], [], [], [], 1, 0, 0⟩
noncomputable def ql26 (X : Type) (n : Nat) : LoopI X := mkLi 8 0 0 0 qh26 [(0, qe26_0)] [] n fun m ks => F.law13_TextMany.L8 n (xe qe26_0 ks 0) m
def qh27 : Shape := ⟨[(1, V0), (2, V0), (7, .str), (12, (.sl .u8 (.own 0)))], [], [true], [], [], 0, 0, 0⟩
def qe27_2 : Shape := ⟨[(1, V0), (2, V0), (7, .str), (12, (.sl .u8 (.own 0)))], [], [true], [], [], 0, 0, 0⟩
noncomputable def ql27 (X : Type) (n : Nat) : LoopI X := mkLi 8 0 0 0 qh27 [(2, qe27_2)] [] n fun m ks => F.law13_TextMany.L21 n (xe qe27_2 ks 2) m
def qh28 : Shape := ⟨[(1, V0), (2, V0), (7, .str), (12, (.sl .u8 (.own 0)))], [], [true], [], [], 0, 0, 0⟩
def qe28_r : Shape := ⟨[(6, .bool)], [], [], [], [], 0, 0, 0⟩
noncomputable def ql28 (X : Type) (n : Nat) : CutI X := mkCi 8 0 0 0 qh28 [] [] [qe28_r] fun ks => F.law13_TextMany.C21 n (xr qe28_r ks)
def qh29 : Shape := ⟨[(0, V0), (1, V0), (2, V0), (7, .str)], [], [], [], [], 0, 0, 0⟩
def qe29_r : Shape := ⟨[(6, .bool)], [], [], [], [], 0, 0, 0⟩
noncomputable def ql29 (X : Type) (n : Nat) : CutI X := mkCi 8 0 0 0 qh29 [] [] [qe29_r] fun ks => F.law13_TextMany.C6 n (xr qe29_r ks)
noncomputable def cx4 (X : Type) (n : Nat) : Cx X := mkCx tab.get [(4, Tryz.f4)] [o9 n, o10 n] [(4, 8, [ql26 X n]), (4, 21, [ql27 X n])] [] [] [] [(4, 6, [ql29 X n]), (4, 21, [ql28 X n])] [(22, .u8)]
theorem qo28 (X : Type) (n : Nat) : CO (cx4 X n) 4 Tryz.f4 24 (ql28 X n) := fun _ _ => by kernel_rfl
theorem qo29 (X : Type) (n : Nat) : CO (cx4 X n) 4 Tryz.f4 5 (ql29 X n) := fun _ _ => by kernel_rfl
theorem qo26 (X : Type) (n : Nat) : LO (cx4 X n) 4 Tryz.f4 0 (ql26 X n) := lok
theorem qo27 (X : Type) (n : Nat) : LO (cx4 X n) 4 Tryz.f4 1 (ql27 X n) := lok
theorem cx4_ok (X : Type) (n : Nat) : CxOK Tryz.prog SW (cx4 X n) := mx (T1 (J Tryz.func4 (by decide))) (J (orcOf_ok (ok9 n)) (T1 (orcOf_ok (ok10 n)))) (T1 (okk (J trivial (J trivial (J trivial (J trivial (J trivial (J (T1 (qo29 X n)) (J trivial (J trivial (J trivial (J trivial (J trivial (J trivial (J trivial (J trivial (J trivial (J trivial (J trivial (J trivial (J trivial (J trivial (J trivial (J trivial (J trivial (J trivial (J (T1 (qo28 X n)) (J trivial (J trivial (J trivial (J trivial (J trivial (J trivial (J trivial (J trivial (J trivial (T1 trivial))))))))))))))))))))))))))))))))))) (J (T1 (qo26 X n)) (T1 (T1 (qo27 X n)))) trivial)) trivial
abbrev P4 : List SV := [V0, V0, V0]
abbrev R4 : RV := .one .bool
theorem ok4 (n : Nat) : FO 4 P4 R4 (F.law13_TextMany n) := fnOK_of WOf.st (cx4_ok _ n) (d := 8) fun _ => by kernel_rfl
end Go.AM
set_option linter.unusedVariables false
set_option linter.unusedSimpArgs false
namespace Go.AM
def isDig (b : UInt8) : Bool := decide (48 ≤ b.toNat) && decide (b.toNat ≤ 57)
def dv (b : UInt8) : Nat := b.toNat - 48
def valF (a : Nat) (l : List UInt8) : Nat := l.foldl (fun a b => a * 10 + dv b) a
theorem valF_nil (a : Nat) : valF a [] = a := rfl
theorem valF_cons (a : Nat) (b : UInt8) (l : List UInt8) : valF a (b :: l) = valF (a * 10 + dv b) l := by unfold valF; rw [List.foldl_cons]
def val (l : List UInt8) : Nat := valF 0 l
def Digs (l : List UInt8) : Prop := l.all isDig = true
theorem isDig_iff {b : UInt8} : isDig b = true ↔ 48 ≤ b.toNat ∧ b.toNat ≤ 57 := by simp [isDig]
theorem digs_cons {b : UInt8} {l : List UInt8} : Digs (b :: l) ↔ isDig b = true ∧ Digs l := by simp [Digs]
theorem digs_append {l m : List UInt8} : Digs (l ++ m) ↔ Digs l ∧ Digs m := by simp [Digs]
theorem digs_rep (k : Nat) : Digs (List.replicate k 48) := by
  unfold Digs
  rw [List.all_eq_true]
  intro x hx
  rw [List.eq_of_mem_replicate hx]
  rfl
theorem digs_take {l : List UInt8} (k : Nat) (h : Digs l) : Digs (l.take k) := by
  unfold Digs at h ⊢
  rw [List.all_eq_true] at h ⊢
  exact fun x hx => h x (List.mem_of_mem_take hx)
theorem dv_lt {b : UInt8} (h : isDig b = true) : dv b < 10 := by
  have := isDig_iff.1 h
  unfold dv
  omega
theorem u8_ext {a b : UInt8} (h : a.toNat = b.toNat) : a = b := UInt8.toNat_inj.1 h
theorem dv_inj {a b : UInt8} (ha : isDig a = true) (hb : isDig b = true) (h : dv a = dv b) : a = b := by
  have h1 := isDig_iff.1 ha
  have h2 := isDig_iff.1 hb
  unfold dv at h
  exact u8_ext (by omega)
theorem valF_eq (a : Nat) (l : List UInt8) : valF a l = a * 10 ^ l.length + val l := by
  unfold val
  induction l generalizing a with
  | nil => rw [valF_nil, valF_nil]; simp
  | cons b l ih =>
    simp only [valF_cons, List.length_cons]
    rw [ih (a * 10 + dv b), ih (0 * 10 + dv b), Nat.pow_succ, Nat.add_mul, Nat.zero_mul, Nat.zero_add, Nat.mul_assoc, Nat.mul_comm 10, Nat.add_assoc]
theorem val_nil : val [] = 0 := rfl
theorem val_cons (b : UInt8) (l : List UInt8) : val (b :: l) = dv b * 10 ^ l.length + val l := by
  show valF (0 * 10 + dv b) l = _
  rw [valF_eq, Nat.zero_mul, Nat.zero_add]
theorem val_append (l m : List UInt8) : val (l ++ m) = val l * 10 ^ m.length + val m := by
  induction l with
  | nil => simp [val_nil]
  | cons b l ih => rw [List.cons_append, val_cons, val_cons, ih, List.length_append, Nat.pow_add, Nat.add_mul, Nat.mul_assoc, Nat.add_assoc]
theorem val_snoc (l : List UInt8) (b : UInt8) : val (l ++ [b]) = val l * 10 + dv b := by rw [val_append, val_cons]; simp [val_nil]
theorem val_lt {l : List UInt8} (h : Digs l) : val l < 10 ^ l.length := by
  induction l with
  | nil => simp [val_nil]
  | cons b l ih =>
    obtain ⟨h1, h2⟩ := digs_cons.1 h
    have := ih h2
    have hd := dv_lt h1
    rw [val_cons, List.length_cons, Nat.pow_succ, Nat.mul_comm (10 ^ l.length)]
    have h3 : dv b * 10 ^ l.length ≤ 9 * 10 ^ l.length := Nat.mul_le_mul_right _ (by omega)
    omega
theorem dv_48 : dv 48 = 0 := rfl
theorem val_rep (k : Nat) : val (List.replicate k 48) = 0 := by
  induction k with
  | zero => rfl
  | succ k ih => rw [List.replicate_succ, val_cons, ih, dv_48]; simp
theorem val_zeros_left (k : Nat) (l : List UInt8) : val (List.replicate k 48 ++ l) = val l := by rw [val_append, val_rep]; simp
theorem val_zeros_right (k : Nat) (l : List UInt8) : val (l ++ List.replicate k 48) = val l * 10 ^ k := by rw [val_append, val_rep]; simp
theorem val_eq_zero {l : List UInt8} (hd : Digs l) (h : val l = 0) : l = List.replicate l.length 48 := by
  induction l with
  | nil => rfl
  | cons b l ih =>
    obtain ⟨h1, h2⟩ := digs_cons.1 hd
    rw [val_cons] at h
    have hp : 0 < 10 ^ l.length := Nat.pow_pos (by omega)
    have h3 : dv b = 0 := by
      cases hb : dv b with
      | zero => rfl
      | succ k => rw [hb, Nat.succ_mul] at h; omega
    rw [List.length_cons, List.replicate_succ, ← ih h2 (by omega)]
    rw [dv_inj (a := b) (b := 48) h1 rfl h3]
theorem val_inj {l m : List UInt8} (hl : Digs l) (hm : Digs m) (hlen : l.length = m.length) (h : val l = val m) : l = m := by
  induction l generalizing m with
  | nil => cases m with
    | nil => rfl
    | cons => simp at hlen
  | cons b l ih => cases m with
    | nil => simp at hlen
    | cons c m =>
      obtain ⟨h1, h2⟩ := digs_cons.1 hl
      obtain ⟨h3, h4⟩ := digs_cons.1 hm
      have hlen : l.length = m.length := by simpa using hlen
      rw [val_cons, val_cons, hlen] at h
      have b1 := val_lt h2
      have b2 := val_lt h4
      rw [hlen] at b1
      have hp : 0 < 10 ^ m.length := Nat.pow_pos (by omega)
      have e : dv b = dv c := by
        have q1 := congrArg (· / 10 ^ m.length) h
        simp only [Nat.mul_comm (dv b), Nat.mul_comm (dv c), Nat.mul_add_div hp, Nat.div_eq_of_lt b1, Nat.div_eq_of_lt b2] at q1
        omega
      rw [e] at h
      rw [dv_inj h1 h3 e, ih h2 h4 hlen (by omega)]
theorem dig_of (k : Nat) (h : k < 10) : (UInt8.ofNat (48 + k)).toNat = 48 + k := by simp [UInt8.toNat_ofNat']; omega
theorem isDig_of (k : Nat) (h : k < 10) : isDig (UInt8.ofNat (48 + k)) = true := by rw [isDig_iff, dig_of k h]; omega
theorem dv_of (k : Nat) (h : k < 10) : dv (UInt8.ofNat (48 + k)) = k := by unfold dv; rw [dig_of k h]; omega
theorem dd_small {u : Nat} (h : u < 10) : Lib.decDigits u = [UInt8.ofNat (48 + u)] := Lib.decDigits_one h
theorem dd_big {u : Nat} (h : ¬ u < 10) : Lib.decDigits u = Lib.decDigits (u / 10) ++ [UInt8.ofNat (48 + u % 10)] := by rw [Lib.decDigits, dif_neg h]
theorem dd_digs (u : Nat) : Digs (Lib.decDigits u) := by
  induction u using Nat.strongRecOn with
  | _ u ih =>
    by_cases h : u < 10
    · rw [dd_small h, digs_cons]; exact ⟨isDig_of u h, rfl⟩
    · rw [dd_big h, digs_append, digs_cons]
      exact ⟨ih _ (by omega), isDig_of _ (by omega), rfl⟩
theorem dd_val (u : Nat) : val (Lib.decDigits u) = u := by
  induction u using Nat.strongRecOn with
  | _ u ih =>
    by_cases h : u < 10
    · rw [dd_small h, val_cons, dv_of u h]; simp [val_nil]
    · rw [dd_big h, val_snoc, ih _ (by omega), dv_of _ (by omega)]; omega
theorem dd_length (u : Nat) : (Lib.decDigits u).length = Lib.nDigits u := Lib.decDigits_length u
def Norm (l : List UInt8) : Prop := l ≠ [] ∧ (l.head? = some 48 → l.length = 1)
theorem pu10 (acc : Nat) (l : List UInt8) (hd : Digs l) (ha : acc < 18446744073709551616) : Lib.parseUint10 acc l = if valF acc l < 18446744073709551616 then .ok (valF acc l) else .range := by
  induction l generalizing acc with
  | nil => rw [valF_nil, if_pos ha]; rfl
  | cons b l ih =>
    obtain ⟨h1, h2⟩ := digs_cons.1 hd
    have hb := isDig_iff.1 h1
    have hmono : ∀ x, x ≤ valF x l := fun x => by
      rw [valF_eq]
      have : 0 < 10 ^ l.length := Nat.pow_pos (by omega)
      have := Nat.le_mul_of_pos_right x this
      omega
    have hm := hmono (acc * 10 + dv b)
    simp only [Lib.parseUint10, hb, and_self, if_true]
    rw [valF_cons]
    generalize hV : valF (acc * 10 + dv b) l = V at hm ⊢
    unfold dv at hm
    by_cases h3 : 1844674407370955162 ≤ acc
    · rw [if_pos h3, if_neg (by omega)]
    · rw [if_neg h3]
      by_cases h4 : 18446744073709551616 ≤ acc * 10 + (b.toNat - 48)
      · rw [if_pos h4, if_neg (by omega)]
      · rw [if_neg h4, ih _ h2 (by omega)]
        have : valF (acc * 10 + (b.toNat - 48)) l = V := hV
        rw [this]
theorem atoi_digs {l : List UInt8} (hd : Digs l) (hn : l ≠ []) : Lib.atoiAll l = if val l < 9223372036854775808 then .ok (val l : Int) else .range := by
  cases l with
  | nil => exact absurd rfl hn
  | cons b r =>
    have hb := isDig_iff.1 (digs_cons.1 hd).1
    simp only [Lib.atoiAll]
    rw [if_neg (by omega)]
    unfold Lib.parseMag
    rw [if_neg (by simp), pu10 0 _ hd (by omega)]
    have e : valF 0 (b :: r) = val (b :: r) := rfl
    rw [e]
    by_cases h1 : val (b :: r) < 18446744073709551616
    · rw [if_pos h1]
      simp only []
      by_cases h2 : val (b :: r) < 9223372036854775808
      · rw [if_pos h2, if_neg (by omega), if_neg (by omega), if_neg (by omega)]
      · rw [if_neg h2, if_pos (by omega)]
    · rw [if_neg h1, if_neg (by omega)]
def trz : List UInt8 → List UInt8
  | [] => []
  | b :: l => if trz l = [] then (if b = 48 then [] else [b]) else b :: trz l
theorem trimR_rep (l : List UInt8) (c : UInt8) : ∃ k, l = Lib.trimRightB l c ++ List.replicate k c ∧ (∀ x, (Lib.trimRightB l c).getLast? = some x → x ≠ c) := by
  have h := List.takeWhile_append_dropWhile (p := fun b : UInt8 => b == c) (l := l.reverse)
  refine ⟨(l.reverse.takeWhile (· == c)).length, ?_, ?_⟩
  · unfold Lib.trimRightB
    have h2 := congrArg List.reverse h
    rw [List.reverse_append, List.reverse_reverse] at h2
    have h3 : (l.reverse.takeWhile (· == c)).reverse = List.replicate (l.reverse.takeWhile (· == c)).length c := by
      rw [List.eq_replicate_iff]
      refine ⟨by simp, fun b hb => ?_⟩
      have := List.all_eq_true.1 (List.all_takeWhile (p := fun b : UInt8 => b == c) (l := l.reverse)) b (List.mem_reverse.1 hb)
      simpa using this
    rw [h3] at h2
    exact h2.symm
  · intro x hx
    unfold Lib.trimRightB at hx
    rw [List.getLast?_reverse] at hx
    have := List.head?_dropWhile_not (p := fun b : UInt8 => b == c) (l := l.reverse)
    rw [hx] at this
    simpa using this
theorem trz_rep (l : List UInt8) : ∃ k, l = trz l ++ List.replicate k 48 ∧ (∀ x, (trz l).getLast? = some x → x ≠ 48) := by
  induction l with
  | nil => exact ⟨0, rfl, by simp [trz]⟩
  | cons b l ih =>
    obtain ⟨k, h1, h2⟩ := ih
    unfold trz
    by_cases h : trz l = []
    · rw [if_pos h]
      rw [h, List.nil_append] at h1
      by_cases hb : b = 48
      · rw [if_pos hb]
        exact ⟨k + 1, by rw [List.replicate_succ, ← h1, hb]; rfl, by simp⟩
      · rw [if_neg hb]
        exact ⟨k, by rw [← h1]; rfl, by simp [hb]⟩
    · rw [if_neg h]
      refine ⟨k, by rw [List.cons_append, ← h1], ?_⟩
      intro x hx
      rw [List.getLast?_cons] at hx
      cases e : (trz l).getLast? with
      | none => simp at e; exact absurd e h
      | some y =>
        rw [e] at hx
        have hy := h2 y e
        simp at hx
        rw [← hx]; exact hy
theorem rep_uniq {a b : List UInt8} {c : UInt8} {i j : Nat} (h : a ++ List.replicate i c = b ++ List.replicate j c) (ha : ∀ x, a.getLast? = some x → x ≠ c) (hb : ∀ x, b.getLast? = some x → x ≠ c) : a = b := by
  induction i generalizing j with
  | zero =>
    cases j with
    | zero => simpa using h
    | succ j =>
      rw [List.replicate_succ', ← List.append_assoc] at h
      simp only [List.replicate_zero, List.append_nil] at h
      exact absurd rfl (ha c (by rw [h]; simp))
  | succ i ih =>
    cases j with
    | zero =>
      rw [List.replicate_succ', ← List.append_assoc] at h
      simp only [List.replicate_zero, List.append_nil] at h
      exact absurd rfl (hb c (by rw [← h]; simp))
    | succ j =>
      rw [List.replicate_succ', List.replicate_succ', ← List.append_assoc, ← List.append_assoc] at h
      exact ih (List.append_inj_left' h rfl)
theorem trimR_trz (l : List UInt8) : Lib.trimRightB l 48 = trz l := by
  obtain ⟨i, h1, h2⟩ := trimR_rep l 48
  obtain ⟨j, h3, h4⟩ := trz_rep l
  exact rep_uniq (h1.symm.trans h3) h2 h4
theorem trz_zeros (l : List UInt8) (k : Nat) : trz (l ++ List.replicate k 48) = trz l := by
  obtain ⟨i, h1, h2⟩ := trz_rep (l ++ List.replicate k 48)
  obtain ⟨j, h3, h4⟩ := trz_rep l
  refine rep_uniq (i := i) (j := j + k) (c := 48) ?_ h2 h4
  rw [← h1]
  conv => lhs; rw [h3]
  rw [List.append_assoc, List.replicate_append_replicate]
theorem trz_self {l : List UInt8} (h : ∀ x, l.getLast? = some x → x ≠ 48) : trz l = l := by
  obtain ⟨j, h3, h4⟩ := trz_rep l
  exact (rep_uniq (i := 0) (j := j) (c := 48) (by rw [← h3]; simp) h h4).symm
theorem trz_le (l : List UInt8) : (trz l).length ≤ l.length := by
  obtain ⟨k, h1, _⟩ := trz_rep l
  have := congrArg List.length h1
  simp at this
  omega
theorem trz_digs {l : List UInt8} (h : Digs l) : Digs (trz l) := by
  obtain ⟨k, h1, _⟩ := trz_rep l
  rw [h1, digs_append] at h
  exact h.1
theorem trz_pad (l : List UInt8) : l = trz l ++ List.replicate (l.length - (trz l).length) 48 := by
  obtain ⟨k, h1, _⟩ := trz_rep l
  have := congrArg List.length h1
  simp at this
  rw [show l.length - (trz l).length = k from by omega]
  exact h1
theorem trz_last {l : List UInt8} {x : UInt8} (h : (trz l).getLast? = some x) : x ≠ 48 := by
  obtain ⟨k, _, h2⟩ := trz_rep l
  exact h2 x h
theorem trz_nil {l : List UInt8} (hd : Digs l) : trz l = [] ↔ val l = 0 := by
  constructor
  · intro h
    have := trz_pad l
    rw [h, List.nil_append] at this
    rw [this, val_rep]
  · intro h
    have := val_eq_zero hd h
    obtain ⟨k, h1, h2⟩ := trz_rep l
    rw [this] at h1 ⊢
    have := trz_zeros [] l.length
    simpa [trz] using this
end Go.AM
set_option linter.unusedVariables false
set_option linter.unusedSimpArgs false
namespace Go.AM
abbrev DecD := Bool × Int × Int × Unit
abbrev DecR := DecD × Int × Unit
def two64 : Nat := 18446744073709551616
theorem two64_eq : two64 = 18446744073709551616 := rfl
def normR (neg : Bool) (c0 : Nat) (E : Int) : DecR :=
  if E < -18 then ((false, 0, 0, ()), 10, ()) else if c0 * 10 ^ (E - 18).toNat < two64 then ((neg, ((c0 * 10 ^ (E - 18).toNat : Nat) : Int), (if E ≤ 18 then E else 18), ()), 0, ()) else ((false, 0, 0, ()), 10, ())
def zeroD : DecR := ((false, 0, 0, ()), 0, ())
def valR (neg : Bool) (d : List UInt8) (e : Int) : DecR :=
  if val d = 0 then zeroD else normR neg (val (trz d)) (e + ((d.length - (trz d).length : Nat) : Int))
theorem val_trz (d : List UInt8) : val d = val (trz d) * 10 ^ (d.length - (trz d).length) := by
  have := congrArg val (trz_pad d)
  rw [val_zeros_right] at this
  exact this
theorem core_trz {d : List UInt8} (hd : Digs d) (h : val d ≠ 0) : val (trz d) % 10 ≠ 0 := by
  have hne : trz d ≠ [] := fun hh => h ((trz_nil hd).1 hh)
  obtain ⟨x, hx⟩ : ∃ x, (trz d).getLast? = some x := by
    cases e : (trz d).getLast? with
    | none => simp at e; exact absurd e hne
    | some x => exact ⟨x, rfl⟩
  have hx48 := trz_last hx
  obtain ⟨ys, hys⟩ := List.getLast?_eq_some_iff.1 hx
  have hdig := trz_digs hd
  rw [hys] at hdig ⊢
  obtain ⟨_, h2⟩ := digs_append.1 hdig
  obtain ⟨h3, _⟩ := digs_cons.1 h2
  rw [val_snoc]
  have := dv_lt h3
  have h0 : dv x ≠ 0 := fun h0 => hx48 (dv_inj h3 (b := 48) rfl h0)
  omega
theorem core_unique {a b i j : Nat} (ha : a % 10 ≠ 0) (hb : b % 10 ≠ 0) (h : a * 10 ^ i = b * 10 ^ j) : a = b ∧ i = j := by
  induction i generalizing j with
  | zero =>
    cases j with
    | zero => simpa using h
    | succ j => rw [Nat.pow_zero, Nat.mul_one, Nat.pow_succ, ← Nat.mul_assoc] at h; omega
  | succ i ih =>
    cases j with
    | zero => rw [Nat.pow_zero, Nat.mul_one, Nat.pow_succ, ← Nat.mul_assoc] at h; omega
    | succ j =>
      rw [Nat.pow_succ, Nat.pow_succ, ← Nat.mul_assoc, ← Nat.mul_assoc] at h
      obtain ⟨h1, h2⟩ := ih (Nat.eq_of_mul_eq_mul_right (by omega) h)
      exact ⟨h1, by omega⟩
theorem valR_core {d : List UInt8} (hd : Digs d) {c0 z : Nat} (h0 : c0 % 10 ≠ 0) (hv : val d = c0 * 10 ^ z) (neg : Bool) (e : Int) : valR neg d e = normR neg c0 (e + z) := by
  have hne : val d ≠ 0 := by
    rw [hv]
    have := Nat.mul_pos (show 0 < c0 by omega) (Nat.pow_pos (n := z) (show 0 < 10 by omega))
    omega
  unfold valR
  rw [if_neg hne]
  obtain ⟨h1, h2⟩ := core_unique (core_trz hd hne) h0 ((val_trz d).symm.trans hv)
  rw [h1, h2]
theorem ten_split (c : Nat) (h : 0 < c) : ∃ c0 z, c = c0 * 10 ^ z ∧ c0 % 10 ≠ 0 := by
  induction c using Nat.strongRecOn with
  | _ c ih =>
    by_cases h1 : c % 10 = 0
    · obtain ⟨c0, z, h2, h3⟩ := ih (c / 10) (by omega) (by omega)
      exact ⟨c0, z + 1, by rw [Nat.pow_succ, ← Nat.mul_assoc, ← h2]; omega, h3⟩
    · exact ⟨c, 0, by simp, h1⟩
theorem valR_zeros_right (neg : Bool) {d : List UInt8} (hd : Digs d) (k : Nat) (e : Int) : valR neg (d ++ List.replicate k 48) e = valR neg d (e + k) := by
  have hD : Digs (d ++ List.replicate k 48) := digs_append.2 ⟨hd, digs_rep _⟩
  by_cases h : val d = 0
  · have : val (d ++ List.replicate k 48) = 0 := by rw [val_zeros_right, h]; simp
    unfold valR
    rw [if_pos h, if_pos this]
  · obtain ⟨c0, z, h1, h2⟩ := ten_split (val d) (by omega)
    rw [valR_core hd h2 h1, valR_core hD h2 (z := z + k) (by rw [val_zeros_right, h1, Nat.pow_add, Nat.mul_assoc])]
    congr 1
    omega
theorem times_eq (n : Nat) (c d : Nat) (hc : c < two64) (hd : d < two64) : F.dec_times n (c : Int) (d : Int) = some ((((c * 10 + d) % two64 : Nat) : Int), decide (c * 10 + d < two64), ()) := by
  unfold F.dec_times O.mul64
  rw [two64_eq] at *
  rw [bif_pos (by omega), some_bind']
  unfold O.add64
  rw [show (c : Int).toNat = c from rfl, show (10 : Int).toNat = 10 from rfl]
  dsimp only
  rw [bif_pos (by omega), some_bind']
  simp only [Int.toNat_natCast, show (0 : Int).toNat = 0 from rfl, Nat.add_zero]
  by_cases h : c * 10 < 18446744073709551616
  · have e1 : ((((c * 10 / 18446744073709551616 : Nat) : Int)) == 0) = true := by simp; omega
    rw [e1, cond_true]
    have e2 : c * 10 % 18446744073709551616 = c * 10 := Nat.mod_eq_of_lt h
    rw [e2]
    congr 2
    congr 1
    by_cases h2 : c * 10 + d < 18446744073709551616
    · have : (c * 10 + d) / 18446744073709551616 = 0 := Nat.div_eq_of_lt h2
      simp [h2, this]
    · have : ¬ (c * 10 + d) / 18446744073709551616 = 0 := by omega
      have e : ((((c * 10 + d) / 18446744073709551616 : Nat) : Int) == 0) = false := by simp; omega
      rw [e]; simp [h2]
  · have e1 : ((((c * 10 / 18446744073709551616 : Nat) : Int)) == 0) = false := by simp; omega
    rw [e1, cond_false]
    have : ¬ c * 10 + d < 18446744073709551616 := by omega
    simp only [this, decide_false]
    congr 2
    omega
theorem strip_norm (n : Nat) (X : Type) (k0 : Bool → Int → Int → Bool → Int → Int → Option X) (neg b : Bool) (x y : Int) (c0 : Nat) (h0 : c0 % 10 ≠ 0) : ∀ (z m : Nat) (e : Int), c0 * 10 ^ z < two64 → -9223372036854775808 ≤ e → e + z ≤ 9223372036854775807 → z < m →
    ∃ j, j ≤ z ∧ F.dec_Normal.L3 n k0 m neg ((c0 * 10 ^ z : Nat) : Int) e b x y = k0 neg ((c0 * 10 ^ j : Nat) : Int) (e + z - j) b x y ∧ (j = 0 ∨ 18 ≤ e + z - j) ∧ (e + z - j ≤ 18 ∨ j = z) := by
  intro z
  induction z with
  | zero =>
    intro m e hc he1 he2 hm
    obtain ⟨m, rfl⟩ : ∃ q, m = q + 1 := ⟨m - 1, by omega⟩
    refine ⟨0, Nat.le_refl _, ?_, Or.inl rfl, Or.inr rfl⟩
    show F.dec_Normal.L3.step n _ k0 _ _ _ _ _ _ = _
    unfold F.dec_Normal.L3.step
    have e1 : ((((c0 * 10 ^ 0 : Nat) : Int).tmod 10) == 0) = false := by
      rw [Nat.pow_zero, Nat.mul_one]
      have : ¬ ((c0 : Int).tmod 10) = 0 := by
        rw [show ((c0 : Int).tmod 10) = ((c0 % 10 : Nat) : Int) from rfl]; omega
      simpa using this
    rw [e1, cond_false]
    congr 1
    omega
  | succ z ih =>
    intro m e hc he1 he2 hm
    obtain ⟨m, rfl⟩ : ∃ q, m = q + 1 := ⟨m - 1, by omega⟩
    have hstep : F.dec_Normal.L3 n k0 (m + 1) neg ((c0 * 10 ^ (z + 1) : Nat) : Int) e b x y = F.dec_Normal.L3.step n (F.dec_Normal.L3 n k0 m) k0 neg ((c0 * 10 ^ (z + 1) : Nat) : Int) e b x y := rfl
    have hmul : c0 * 10 ^ (z + 1) = c0 * 10 ^ z * 10 := by rw [Nat.pow_succ, Nat.mul_assoc]
    have e1 : ((((c0 * 10 ^ (z + 1) : Nat) : Int).tmod 10) == 0) = true := by
      have : ((c0 * 10 ^ (z + 1) : Nat) : Int).tmod 10 = 0 := by
        rw [show (((c0 * 10 ^ (z + 1) : Nat) : Int).tmod 10) = ((c0 * 10 ^ (z + 1) % 10 : Nat) : Int) from rfl]; omega
      simpa using this
    have e2 : ((c0 * 10 ^ (z + 1) : Nat) : Int).tdiv 10 = ((c0 * 10 ^ z : Nat) : Int) := by
      rw [show (((c0 * 10 ^ (z + 1) : Nat) : Int).tdiv 10) = ((c0 * 10 ^ (z + 1) / 10 : Nat) : Int) from rfl]; omega
    rw [hstep]
    unfold F.dec_Normal.L3.step
    rw [e1, cond_true]
    by_cases h18 : e < 18
    · rw [bif_pos h18, e2, IntWalk.u64_in _ (by rw [two64_eq] at hc; omega), wrap_in (by omega)]
      obtain ⟨j, j1, j2, j3, j4⟩ := ih m (e + 1) (by omega) (by omega) (by omega) (by omega)
      refine ⟨j, by omega, ?_, ?_, ?_⟩
      · rw [j2]
        congr 1
        omega
      · rcases j3 with j3 | j3
        · exact Or.inl j3
        · exact Or.inr (by omega)
      · rcases j4 with j4 | j4
        · exact Or.inl (by omega)
        · exact Or.inl (by omega)
    · rw [bif_neg h18]
      refine ⟨z + 1, Nat.le_refl _, ?_, Or.inr (by omega), Or.inr rfl⟩
      congr 1
      omega
theorem grow_norm (n : Nat) (X : Type) (k2 : Bool → Int → Int → Bool → Int → Int → Option X) (K : Int → Bool → Int → Int → Option X) (neg b : Bool) (x y : Int) : ∀ (m c d : Nat), 0 < c → c < two64 → two64 ≤ c * 10 ^ m → 18 + (d : Int) ≤ 9223372036854775807 →
    F.dec_Normal.L5 n k2 (fun q _ _ _ u v w => K q u v w) (m + 1) neg (c : Int) (18 + (d : Int)) b x y = if c * 10 ^ d < two64 then k2 neg ((c * 10 ^ d : Nat) : Int) 18 b x y else K 10 false 0 0 := by
  intro m
  induction m with
  | zero => intro c d h1 h2 h3; rw [Nat.pow_zero, Nat.mul_one] at h3; omega
  | succ m ih =>
    intro c d h1 h2 h3 h4
    have hstep : F.dec_Normal.L5 n k2 (fun q _ _ _ u v w => K q u v w) (m + 1 + 1) neg (c : Int) (18 + (d : Int)) b x y = F.dec_Normal.L5.step n (F.dec_Normal.L5 n k2 (fun q _ _ _ u v w => K q u v w) (m + 1)) k2 (fun q _ _ _ u v w => K q u v w) neg (c : Int) (18 + (d : Int)) b x y := rfl
    rw [hstep]
    unfold F.dec_Normal.L5.step
    cases d with
    | zero =>
      rw [bif_neg (by omega), Nat.pow_zero, Nat.mul_one, if_pos h2]
      rfl
    | succ d =>
      rw [bif_pos (by omega), show (0 : Int) = ((0 : Nat) : Int) from rfl, times_eq n c 0 h2 (by decide), some_bind']
      have hp : c * 10 ≤ c * 10 ^ (d + 1) := by
        rw [Nat.pow_succ, ← Nat.mul_assoc]
        have : 0 < 10 ^ d := Nat.pow_pos (by omega)
        have := Nat.le_mul_of_pos_right c this
        omega
      by_cases hf : c * 10 + 0 < two64
      · simp only [hf, decide_true, Bool.not_true, cond_false]
        rw [wrap_in (by omega), show (18 + ((d + 1 : Nat) : Int) - 1) = 18 + (d : Int) from by omega, Nat.mod_eq_of_lt hf]
        have := ih (c * 10 + 0) d (by omega) hf (by rw [Nat.pow_succ] at h3; rw [Nat.add_zero, Nat.mul_assoc, Nat.mul_comm 10]; exact h3) (by omega)
        rw [show ((0 : Nat) : Int) = (0 : Int) from rfl] at *
        rw [this, Nat.add_zero, Nat.mul_assoc, Nat.mul_comm 10, ← Nat.pow_succ]
      · have : ¬ c * 10 ^ (d + 1) < two64 := by omega
        simp only [hf, decide_false, Bool.not_false, cond_true]
        rw [if_neg this]
theorem normal_core (n : Nat) (hn : 100 ≤ n) (neg : Bool) (c0 z : Nat) (h0 : c0 % 10 ≠ 0) (hc : c0 * 10 ^ z < two64) (e : Int) (he : -9223372036854775808 ≤ e ∧ e ≤ 9223372036854775807) :
    F.dec_Normal n (neg, ((c0 * 10 ^ z : Nat) : Int), e, ()) = some (normR neg c0 (e + z)) := by
  have hz : z ≤ 20 := by
    refine Classical.byContradiction fun hh => ?_
    have h1 : 10 ^ 20 ≤ 10 ^ z := Nat.pow_le_pow_right (by omega) (by omega)
    have h2 := Nat.le_mul_of_pos_left (10 ^ z) (show 0 < c0 by omega)
    rw [two64_eq] at hc
    omega
  have hpos : 0 < c0 * 10 ^ z := Nat.mul_pos (by omega) (Nat.pow_pos (by omega))
  unfold F.dec_Normal
  have e0 : (((c0 * 10 ^ z : Nat) : Int) == 0) = false := by
    have : ¬ ((c0 * 10 ^ z : Nat) : Int) = 0 := by omega
    simpa using this
  simp only [e0, cond_false]
  by_cases hbig : 9223372036854775807 < e + z
  ·
    have h18 : ¬ e < 18 := by omega
    obtain ⟨m, rfl⟩ : ∃ q, n = q + 1 := ⟨n - 1, by omega⟩
    have hs : ∀ (k0 : Bool → Int → Int → Bool → Int → Int → Option DecR), F.dec_Normal.L3 (m + 1) k0 (m + 1) neg ((c0 * 10 ^ z : Nat) : Int) e false 0 0 = k0 neg ((c0 * 10 ^ z : Nat) : Int) e false 0 0 := by
      intro k0
      show F.dec_Normal.L3.step (m + 1) (F.dec_Normal.L3 (m + 1) k0 m) k0 _ _ _ _ _ _ = _
      unfold F.dec_Normal.L3.step
      rw [bif_neg h18]
      cases (((c0 * 10 ^ z : Nat) : Int).tmod 10 == 0) <;> rfl
    rw [hs]
    obtain ⟨d, hd⟩ : ∃ d : Nat, e = 18 + (d : Int) := ⟨(e - 18).toNat, by omega⟩
    have hfuel : two64 ≤ c0 * 10 ^ z * 10 ^ m := by
      have h1 : 10 ^ 20 ≤ 10 ^ m := Nat.pow_le_pow_right (by omega) (by omega)
      have h2 := Nat.le_mul_of_pos_left (10 ^ m) hpos
      rw [two64_eq]
      omega
    rw [hd, grow_norm (m + 1) _ _ (fun q u v w => some ((u, v, w, ()), q, ())) neg false 0 0 m _ d hpos hc hfuel (by omega)]
    have hnot : ∀ w, 20 ≤ w → ¬ c0 * 10 ^ w < two64 := by
      intro w hw
      have h1 : 10 ^ 20 ≤ 10 ^ w := Nat.pow_le_pow_right (by omega) hw
      have h2 := Nat.le_mul_of_pos_left (10 ^ w) (show 0 < c0 by omega)
      rw [two64_eq]
      omega
    unfold normR
    rw [if_neg (show ¬ 18 + (d : Int) + z < -18 by omega), if_neg (by rw [Nat.mul_assoc, ← Nat.pow_add]; exact hnot _ (by omega)), if_neg (hnot _ (by omega))]
  · obtain ⟨j, j1, j2, j3, j4⟩ := strip_norm n DecR (fun e1_b0_0 e1_b0_1 e1_b0_2 e1_b1_0 e1_b1_1 e1_b1_2 =>
        F.dec_Normal.L5 n
          (fun e3_b0_0 e3_b0_1 e3_b0_2 e3_b1_0 e3_b1_1 e3_b1_2 =>
            bif decide (e3_b0_2 < (-18 : Int)) then
              some (((false, (0 : Int), (0 : Int), ()), (10 : Int), ()))
            else
              some (((e3_b0_0, e3_b0_1, e3_b0_2, ()), (0 : Int), ())))
          (fun e4_3 e4_b0_0 e4_b0_1 e4_b0_2 e4_b1_0 e4_b1_1 e4_b1_2 =>
            some (((e4_b1_0, e4_b1_1, e4_b1_2, ()), e4_3, ()))) n e1_b0_0 e1_b0_1 e1_b0_2 e1_b1_0 e1_b1_1 e1_b1_2) neg false 0 0 c0 h0 z n e hc he.1 (by omega) (by omega)
    refine j2.trans ?_
    have hcj : c0 * 10 ^ j < two64 := by
      have h1 : 10 ^ j ≤ 10 ^ z := Nat.pow_le_pow_right (by omega) j1
      have := Nat.mul_le_mul_left c0 h1
      omega
    have hposj : 0 < c0 * 10 ^ j := Nat.mul_pos (by omega) (Nat.pow_pos (by omega))
    obtain ⟨m, rfl⟩ : ∃ q, n = q + 1 := ⟨n - 1, by omega⟩
    by_cases hE : 18 ≤ e + z - j
    · obtain ⟨d, hd⟩ : ∃ d : Nat, e + z - j = 18 + (d : Int) := ⟨(e + z - j - 18).toNat, by omega⟩
      have hfuel : two64 ≤ c0 * 10 ^ j * 10 ^ m := by
        have h1 : 10 ^ 20 ≤ 10 ^ m := Nat.pow_le_pow_right (by omega) (by omega)
        have h2 := Nat.le_mul_of_pos_left (10 ^ m) hposj
        rw [two64_eq]
        omega
      show F.dec_Normal.L5 (m + 1) _ _ (m + 1) neg _ (e + z - j) false 0 0 = _
      rw [hd, grow_norm (m + 1) _ _ (fun q u v w => some ((u, v, w, ()), q, ())) neg false 0 0 m _ d hposj hcj hfuel (by omega)]
      unfold normR
      rw [if_neg (show ¬ e + z < -18 by omega), Nat.mul_assoc, ← Nat.pow_add, show j + d = (e + z - 18).toNat from by omega]
      by_cases hf : c0 * 10 ^ (e + z - 18).toNat < two64
      · rw [if_pos hf, if_pos hf, bif_neg (by omega)]
        congr 3
        by_cases hh : e + z ≤ 18
        · rw [if_pos hh, show e + (z : Int) = 18 from by omega]
        · rw [if_neg hh]
      · rw [if_neg hf, if_neg hf]
    · have hj0 : j = 0 := by omega
      subst hj0
      have hlow : ∀ (k2 : Bool → Int → Int → Bool → Int → Int → Option DecR) (kr : Int → Bool → Int → Int → Bool → Int → Int → Option DecR) (c : Int) (E : Int), ¬ E > 18 → F.dec_Normal.L5 (m + 1) k2 kr (m + 1) neg c E false 0 0 = k2 neg c E false 0 0 := by
        intro k2 kr c E hE
        show F.dec_Normal.L5.step (m + 1) (F.dec_Normal.L5 (m + 1) k2 kr m) k2 kr neg c E false 0 0 = _
        unfold F.dec_Normal.L5.step
        rw [bif_neg hE]
      rw [hlow _ _ _ _ (by omega)]
      unfold normR
      rw [Nat.pow_zero, Nat.mul_one, show (e + (z : Int) - 18).toNat = 0 from by omega, Nat.pow_zero, Nat.mul_one, show (e + (z : Int) - ((0 : Nat) : Int)) = e + z from by omega]
      by_cases h18 : e + z < -18
      · rw [bif_pos h18, if_pos h18]
      · rw [bif_neg h18, if_neg h18, if_pos (by rw [Nat.pow_zero, Nat.mul_one] at hcj; exact hcj), if_pos (by omega)]
theorem normal_eq (n : Nat) (hn : 100 ≤ n) (neg : Bool) (c : Nat) (hc : c < two64) (e : Int) (he : -9223372036854775808 ≤ e ∧ e ≤ 9223372036854775807) : F.dec_Normal n (neg, (c : Int), e, ()) = some (valR neg (Lib.decDigits c) e) := by
  by_cases h : c = 0
  · subst h
    unfold valR
    rw [if_pos (dd_val 0)]
    rfl
  · obtain ⟨c0, z, h1, h2⟩ := ten_split c (by omega)
    rw [valR_core (dd_digs c) h2 (by rw [dd_val]; exact h1)]
    rw [h1] at hc ⊢
    exact normal_core n hn neg c0 z h2 hc e he
end Go.AM
set_option linter.unusedVariables false
set_option linter.unusedSimpArgs false
namespace Go.AM
def lz (d : List UInt8) : List UInt8 := d.dropWhile (· == 48)
theorem lz_rep (d : List UInt8) : d = List.replicate (d.length - (lz d).length) 48 ++ lz d := by
  induction d with
  | nil => rfl
  | cons b d ih =>
    unfold lz at ih ⊢
    by_cases h : b = 48
    · subst h
      have e : ((48 : UInt8) :: d).dropWhile (· == 48) = d.dropWhile (· == 48) := by simp [List.dropWhile_cons]
      have hl : (d.dropWhile (· == 48)).length ≤ d.length := (List.dropWhile_sublist _).length_le
      rw [e, List.length_cons, show d.length + 1 - (d.dropWhile (· == 48)).length = (d.length - (d.dropWhile (· == 48)).length) + 1 from by omega, List.replicate_succ, List.cons_append, ← ih]
    · have e : (b :: d).dropWhile (· == 48) = b :: d := by simp [List.dropWhile_cons, h]
      rw [e]
      simp
theorem lz_val (d : List UInt8) : val (lz d) = val d := by
  conv => rhs; rw [lz_rep d]
  rw [val_zeros_left]
theorem lz_digs {d : List UInt8} (h : Digs d) : Digs (lz d) := by
  rw [lz_rep d, digs_append] at h
  exact h.2
theorem lz_le (d : List UInt8) : (lz d).length ≤ d.length := (List.dropWhile_sublist _).length_le
end Go.AM
set_option linter.unusedVariables false
set_option linter.unusedSimpArgs false
namespace Go.AM
abbrev FaultR := Int × Int × Unit
abbrev ParseR := DecD × FaultR × Unit
theorem hasPrefix_one (n : Nat) (s : List UInt8) (c : UInt8) : F.strings_HasPrefix n s [c] = some (decide (s.head? = some c)) := by
  unfold F.strings_HasPrefix F.stringslite_HasPrefix
  cases s with
  | nil => rfl
  | cons b s =>
    have e : sub (b :: s) (0 : Int) ((([c] : List UInt8).length : Nat) : Int) = some [b] := sub_nat (b :: s) 0 1 (by omega) (by simp)
    rw [bif_pos (by simp; omega), e, some_bind', some_bind']
    by_cases h : b = c
    · subst h; simp
    · simp [h]
def tw (s : List UInt8) : List UInt8 := s.takeWhile isDig
theorem tw_digs (s : List UInt8) : Digs (tw s) := List.all_takeWhile
theorem tw_split (s : List UInt8) : s = tw s ++ s.drop (tw s).length := by
  induction s with
  | nil => rfl
  | cons b s ih =>
    unfold tw at ih ⊢
    by_cases h : isDig b = true
    · simp only [List.takeWhile_cons, h, if_true, List.length_cons, List.drop_succ_cons, List.cons_append]
      rw [← ih]
    · simp [List.takeWhile_cons, h]
theorem tw_le (s : List UInt8) : (tw s).length ≤ s.length := (List.takeWhile_sublist _).length_le
theorem tw_append {a t : List UInt8} (ha : Digs a) (ht : ∀ x, t.head? = some x → isDig x = false) : tw (a ++ t) = a := by
  induction a with
  | nil =>
    cases t with
    | nil => rfl
    | cons x t =>
      have := ht x rfl
      simp [tw, List.takeWhile_cons, this]
  | cons b a ih =>
    obtain ⟨h1, h2⟩ := digs_cons.1 ha
    have := ih h2
    unfold tw at this ⊢
    simp [List.takeWhile_cons, h1, this]
theorem digits_loop (n : Nat) (X : Type) (k0 : Int → (List UInt8) → Int → Int → Int → Option X) (v3 b0 b1 : Int) (s : List UInt8) (hs : s.length < 4611686018427387904) : ∀ (r : List UInt8) (k m : Nat), s.drop k = r → k ≤ s.length → r.length < m →
    F.dec_look.L2_dec_look_1 n k0 m v3 s b0 b1 (k : Int) = k0 v3 s b0 b1 ((k + (tw r).length : Nat) : Int) := by
  intro r
  induction r with
  | nil =>
    intro k m hk hkl hm
    have := drop_nil' hk
    obtain ⟨m, rfl⟩ : ∃ q, m = q + 1 := ⟨m - 1, by omega⟩
    show F.dec_look.L2_dec_look_1.step n _ k0 _ _ _ _ _ = _
    unfold F.dec_look.L2_dec_look_1.step
    rw [bif_neg (by omega)]
    rfl
  | cons x r ih =>
    intro k m hk hkl hm
    obtain ⟨h1, h2, h3⟩ := drop_cons hk
    obtain ⟨m, rfl⟩ : ∃ q, m = q + 1 := ⟨m - 1, by omega⟩
    show F.dec_look.L2_dec_look_1.step n (F.dec_look.L2_dec_look_1 n k0 m) k0 _ _ _ _ _ = _
    unfold F.dec_look.L2_dec_look_1.step
    rw [bif_pos (by omega), idx_nat, h2, some_bind', some_bind']
    unfold tw at ih ⊢
    by_cases hd : isDig x = true
    · have hx := isDig_iff.1 hd
      rw [bif_pos (by omega), bif_pos (by omega), wrap_succ (by omega), ih (k + 1) m h3 (by omega) (by simp at hm; omega)]
      simp only [List.takeWhile_cons, hd, if_true, List.length_cons]
      congr 2
      omega
    · simp only [List.takeWhile_cons, hd, if_false]
      by_cases h48 : 48 ≤ x.toNat
      · have : ¬ x.toNat ≤ 57 := fun h => hd (isDig_iff.2 ⟨h48, h⟩)
        rw [bif_pos (by omega), bif_neg (by omega)]
        rfl
      · rw [bif_neg (by omega)]
        rfl
def p0 (s : List UInt8) : Nat := if s.head? = some 45 then 1 else 0
def p1q (q : Nat) (s : List UInt8) : Nat := q + (tw (s.drop q)).length
def p3q (q : Nat) (s : List UInt8) : Nat := p1q q s + 1 + (tw (s.drop (p1q q s + 1))).length
theorem p0_le (s : List UInt8) : p0 s ≤ s.length := by
  unfold p0
  cases s with
  | nil => simp
  | cons b s => split <;> simp
theorem p1_le {q : Nat} {s : List UInt8} (hq : q ≤ s.length) : p1q q s ≤ s.length := by
  have h2 := tw_le (s.drop q)
  simp at h2
  unfold p1q
  omega
theorem drop_lt {s : List UInt8} {k : Nat} {x : UInt8} (h : (s.drop k).head? = some x) : k < s.length := by
  cases e : s.drop k with
  | nil => rw [e] at h; simp at h
  | cons b r =>
    have := congrArg List.length e
    simp at this
    omega
theorem p3_le {q : Nat} {s : List UInt8} (h : (s.drop (p1q q s)).head? = some 46) : p3q q s ≤ s.length := by
  have h1 := drop_lt h
  have h2 := tw_le (s.drop (p1q q s + 1))
  simp at h2
  unfold p3q
  omega
def endR (right : Prop) [Decidable right] (at' : Nat) (len : Nat) : FaultR :=
  if right ∧ at' = len then (0, 0, ()) else if at' = len then (11, (at' : Int), ()) else (14, (at' : Int), ())
def lookQ (q : Nat) (s : List UInt8) : FaultR :=
  if q < p1q q s ∧ (s.drop (p1q q s)).head? = some 46 then endR (p1q q s + 1 < p3q q s) (p3q q s) s.length else endR (q < p1q q s) (p1q q s) s.length
def lookR (s : List UInt8) : FaultR := lookQ (p0 s) s
theorem end_eq (a b : Nat) (at' len : Nat) : (bif decide ((at' : Int) > (a : Int)) then
      bif (at' : Int) == (len : Int) then some (((0 : Int), (0 : Int), ())) else bif (at' : Int) == (len : Int) then some (((11 : Int), (at' : Int), ())) else some (((14 : Int), (at' : Int), ()))
    else bif (at' : Int) == (len : Int) then some (((11 : Int), (at' : Int), ())) else some (((14 : Int), (at' : Int), ()))) = some (endR (a < at') at' len) := by
  unfold endR
  by_cases h1 : at' = len
  · have e : ((at' : Int) == (len : Int)) = true := by simp [h1]
    rw [e]
    by_cases h2 : a < at'
    · rw [bif_pos (by omega), if_pos ⟨h2, h1⟩]; rfl
    · rw [bif_neg (by omega), if_neg (fun h => h2 h.1), if_pos h1]; rfl
  · have e : ((at' : Int) == (len : Int)) = false := by
      have : ¬ (at' : Int) = (len : Int) := by omega
      simpa using this
    rw [e, if_neg (fun h => h1 h.2), if_neg h1]
    simp only [cond_false]
    cases decide ((at' : Int) > (a : Int)) <;> rfl
theorem look_tail (n : Nat) (s : List UInt8) (hs : s.length < 4000000000000000000) (hn : s.length < n) (q : Nat) (hq : q ≤ s.length) :
    F.dec_look.L2_dec_look_1 n
        (fun e4_3 e4_b0_0 e4_b1_0 e4_b1_1 e4_b2_0 =>
          bif decide (e4_b2_0 > e4_3) then
            (sub e4_b0_0 e4_b2_0 (e4_b0_0.length : Int)).bind fun x5 =>
              (F.strings_HasPrefix n x5 ([46])).bind fun y6 =>
                bif y6 then
                  F.dec_look.L2_dec_look_1 n
                    (fun e7_3 e7_b0_0 e7_b1_0 e7_b1_1 e7_b2_0 =>
                      bif decide (e7_b2_0 > e7_3) then
                        bif e7_b2_0 == (e7_b0_0.length : Int) then
                          some (((0 : Int), (0 : Int), ()))
                        else
                        bif e7_b2_0 == (e7_b0_0.length : Int) then
                          some (((11 : Int), e7_b2_0, ()))
                        else
                          some (((14 : Int), e7_b2_0, ()))
                      else
                      bif e7_b2_0 == (e7_b0_0.length : Int) then
                        some (((11 : Int), e7_b2_0, ()))
                      else
                        some (((14 : Int), e7_b2_0, ()))) n (IntKind.wrap .i64 (e4_b2_0 + (1 : Int))) e4_b0_0 e4_b1_0 e4_b1_1 (IntKind.wrap .i64 (e4_b2_0 + (1 : Int)))
                else
                bif decide (e4_b2_0 > e4_3) then
                  bif e4_b2_0 == (e4_b0_0.length : Int) then
                    some (((0 : Int), (0 : Int), ()))
                  else
                  bif e4_b2_0 == (e4_b0_0.length : Int) then
                    some (((11 : Int), e4_b2_0, ()))
                  else
                    some (((14 : Int), e4_b2_0, ()))
                else
                bif e4_b2_0 == (e4_b0_0.length : Int) then
                  some (((11 : Int), e4_b2_0, ()))
                else
                  some (((14 : Int), e4_b2_0, ()))
          else
          bif decide (e4_b2_0 > e4_3) then
            bif e4_b2_0 == (e4_b0_0.length : Int) then
              some (((0 : Int), (0 : Int), ()))
            else
            bif e4_b2_0 == (e4_b0_0.length : Int) then
              some (((11 : Int), e4_b2_0, ()))
            else
              some (((14 : Int), e4_b2_0, ()))
          else
          bif e4_b2_0 == (e4_b0_0.length : Int) then
            some (((11 : Int), e4_b2_0, ()))
          else
            some (((14 : Int), e4_b2_0, ()))) n (q : Int) s (0 : Int) (0 : Int) (q : Int)
    = some (lookQ q s) := by
  rw [digits_loop n _ _ _ _ _ s (by omega) (s.drop q) q n rfl hq (by simp; omega)]
  have hkl : p1q q s ≤ s.length := p1_le hq
  show (bif decide (((p1q q s : Nat) : Int) > (q : Int)) then _ else _) = _
  unfold lookQ
  have hk3 : p3q q s = p1q q s + 1 + (tw (s.drop (p1q q s + 1))).length := rfl
  have hsh : q + (tw (s.drop q)).length = p1q q s := rfl
  simp only [hsh]
  generalize p3q q s = k3 at hk3 ⊢
  clear hsh
  generalize p1q q s = k at hkl hk3 ⊢
  subst hk3
  have hE := end_eq q 0 k s.length
  rw [hE]
  by_cases h1 : q < k
  · rw [bif_pos (by omega)]
    have hsub : sub s (k : Int) (s.length : Int) = some (s.drop k) := by
      have := sub_nat s k s.length hkl (Nat.le_refl _)
      rw [List.take_length] at this
      exact this
    rw [hsub, some_bind', hasPrefix_one, some_bind']
    by_cases h2 : (s.drop k).head? = some 46
    · have hlt : k < s.length := by
        cases e : s.drop k with
        | nil => rw [e] at h2; simp at h2
        | cons b r =>
          have := congrArg List.length e
          simp at this
          omega
      rw [decide_eq_true h2, cond_true, if_pos ⟨h1, h2⟩, wrap_succ (by omega), digits_loop n _ _ _ _ _ s (by omega) (s.drop (k + 1)) (k + 1) n rfl (by omega) (by simp; omega)]
      exact end_eq (k + 1) 0 _ s.length
    · rw [decide_eq_false h2, cond_false, if_neg (fun h => h2 h.2)]
  · rw [bif_neg (by omega), if_neg (fun h => h1 h.1)]
theorem look_eq (n : Nat) (s : List UInt8) (hs : s.length < 4000000000000000000) (hn : s.length < n) : F.dec_look n s = some (lookR s) := by
  unfold F.dec_look
  rw [hasPrefix_one, some_bind']
  by_cases h : s.head? = some 45
  · have hp : p0 s = 1 := by unfold p0; rw [if_pos h]
    rw [decide_eq_true h, cond_true]
    have hq : 1 ≤ s.length := by have := p0_le s; omega
    have := look_tail n s hs hn 1 hq
    refine this.trans ?_
    unfold lookR
    rw [hp]
  · have hp : p0 s = 0 := by unfold p0; rw [if_neg h]
    rw [decide_eq_false h, cond_false]
    have := look_tail n s hs hn 0 (by omega)
    refine this.trans ?_
    unfold lookR
    rw [hp]
end Go.AM
set_option linter.unusedVariables false
set_option linter.unusedSimpArgs false
namespace Go.AM
def outR (r : DecR) : ParseR := if r.2.1 = 0 then (r.1, (0, 0, ()), ()) else ((false, 0, 0, ()), (r.2.1, 0, ()), ())
def badR (f : FaultR) : ParseR := ((false, 0, 0, ()), f, ())
def aheadD (s : List UInt8) : List UInt8 := tw (s.drop (p0 s))
def behindD (s : List UInt8) : List UInt8 := if (s.drop (p1q (p0 s) s)).head? = some 46 then tw (s.drop (p1q (p0 s) s + 1)) else []
def negD (s : List UInt8) : Bool := decide (s.head? = some 45)
def parseR (s : List UInt8) : ParseR :=
  if (lookR s).1 = 0 then outR (valR (negD s) (aheadD s ++ behindD s) (-((behindD s).length : Int))) else badR (lookR s)
theorem valR_code (neg : Bool) (d : List UInt8) (e : Int) : (valR neg d e).2.1 = 0 ∨ (valR neg d e).2.1 = 10 ∧ (valR neg d e).1 = (false, 0, 0, ()) := by
  unfold valR zeroD normR
  by_cases h : val d = 0
  · rw [if_pos h]; exact Or.inl rfl
  · rw [if_neg h]
    split
    · exact Or.inr ⟨rfl, rfl⟩
    · split
      · exact Or.inl rfl
      · exact Or.inr ⟨rfl, rfl⟩
theorem valR_same {d d' : List UInt8} (hd : Digs d) (hd' : Digs d') (h : val d = val d') (neg : Bool) (e : Int) : valR neg d e = valR neg d' e := by
  by_cases h0 : val d = 0
  · unfold valR
    rw [if_pos h0, if_pos (h ▸ h0)]
  · obtain ⟨c0, z, h1, h2⟩ := ten_split (val d) (by omega)
    rw [valR_core hd h2 h1, valR_core hd' h2 (h ▸ h1)]
theorem valR_big {d : List UInt8} (hd : Digs d) (h : two64 ≤ val d) (ht : trz d = d) (neg : Bool) (e : Int) : valR neg d e = ((false, 0, 0, ()), 10, ()) := by
  have h0 : val d ≠ 0 := by rw [two64_eq] at h; omega
  have hc := core_trz hd h0
  rw [ht] at hc
  rw [valR_core hd hc (z := 0) (by simp)]
  unfold normR
  split
  · rfl
  · rw [if_neg]
    have := Nat.le_mul_of_pos_right (val d) (Nat.pow_pos (n := (e + ((0 : Nat) : Int) - 18).toNat) (show 0 < 10 by omega))
    omega
end Go.AM
set_option linter.unusedVariables false
set_option linter.unusedSimpArgs false
namespace Go.AM
theorem coef_loop (n : Nat) (X : Type) (k0 : Bool → Int → Int → Int → Int → Int → Int → Bool → Int → Int → Option X) (s : List UInt8) (hs : s.length < 4611686018427387904) (b : Bool) (x1 x2 x3 x4 x5 x6 : Int) (neg : Bool) (E : Int) : ∀ (r : List UInt8) (k m : Nat), s.drop k = r → k ≤ s.length → r.length < m → Digs r → val (s.take k) < two64 →
    F.dec_Parse.L14 n k0 m s (s.length : Int) (k : Int) b x1 x2 x3 x4 x5 x6 neg (val (s.take k) : Int) E = if val s < two64 then k0 b x1 x2 x3 x4 x5 x6 neg (val s) E else k0 b x1 x2 x3 x4 x5 x6 neg 1 (-19) := by
  intro r
  induction r with
  | nil =>
    intro k m hk hkl hm hd hv
    have hk := drop_nil' hk
    obtain ⟨m, rfl⟩ : ∃ q, m = q + 1 := ⟨m - 1, by omega⟩
    show F.dec_Parse.L14.step n _ k0 _ _ _ _ _ _ _ _ _ _ _ _ _ = _
    unfold F.dec_Parse.L14.step
    rw [List.take_of_length_le hk] at hv ⊢
    rw [bif_neg (by omega), if_pos hv]
  | cons x r ih =>
    intro k m hk hkl hm hd hv
    obtain ⟨h1, h2, h3⟩ := drop_cons hk
    obtain ⟨d1, d2⟩ := digs_cons.1 hd
    have hx := isDig_iff.1 d1
    obtain ⟨m, rfl⟩ : ∃ q, m = q + 1 := ⟨m - 1, by omega⟩
    show F.dec_Parse.L14.step n (F.dec_Parse.L14 n k0 m) k0 _ _ _ _ _ _ _ _ _ _ _ _ _ = _
    unfold F.dec_Parse.L14.step
    have htk : s.take (k + 1) = s.take k ++ [x] := by rw [List.take_add_one, h2]; rfl
    have hvk : val (s.take (k + 1)) = val (s.take k) * 10 + dv x := by rw [htk, val_snoc]
    have hsv : val (s.take (k + 1)) ≤ val s := by
      have e : s = s.take (k + 1) ++ s.drop (k + 1) := (List.take_append_drop _ _).symm
      have h5 : val s = val (s.take (k + 1)) * 10 ^ (s.drop (k + 1)).length + val (s.drop (k + 1)) := by
        conv => lhs; rw [e]
        rw [val_append]
      have := Nat.le_mul_of_pos_right (val (s.take (k + 1))) (Nat.pow_pos (n := (s.drop (k + 1)).length) (show 0 < 10 by omega))
      omega
    have hdl := dv_lt d1
    have hdx : IntKind.wrap .u64 (IntKind.wrap .u8 ((x.toNat : Int) - 48)) = (dv x : Int) := by
      have h8 : IntKind.wrap .u8 ((x.toNat : Int) - 48) = (x.toNat : Int) - 48 := IntWalk.u8_in _ (by omega)
      rw [h8, IntWalk.u64_in _ (by omega)]; unfold dv; omega
    rw [bif_pos (by omega), idx_nat, h2, some_bind', hdx, times_eq n _ _ hv (by rw [two64_eq]; omega), some_bind', ← hvk, wrap_succ (by omega)]
    by_cases hf : val (s.take (k + 1)) < two64
    · simp only [hf, decide_true, Bool.not_true, cond_false, Nat.mod_eq_of_lt hf]
      exact ih (k + 1) m h3 (by omega) (by simp at hm; omega) d2 hf
    · simp only [hf, decide_false, Bool.not_false, cond_true]
      rw [if_neg (by omega)]
theorem cutPrefix_one (n : Nat) (s : List UInt8) : F.strings_CutPrefix n s [45] = some (s.drop (p0 s), negD s, ()) := by
  unfold F.strings_CutPrefix F.stringslite_CutPrefix
  have hp : F.stringslite_HasPrefix n s [45] = some (decide (s.head? = some 45)) := by
    have := hasPrefix_one n s 45
    unfold F.strings_HasPrefix at this
    cases e : F.stringslite_HasPrefix n s [45] with
    | none => rw [e] at this; cases this
    | some b => rw [e] at this; exact this
  rw [hp, some_bind']
  unfold p0 negD
  by_cases h : s.head? = some 45
  · have hl : 1 ≤ s.length := by cases s with | nil => simp at h | cons => simp
    have hsub : sub s ((([45] : List UInt8).length : Nat) : Int) (s.length : Int) = some (s.drop 1) := by
      have := sub_nat s 1 s.length hl (Nat.le_refl _)
      rw [List.take_length] at this
      exact this
    rw [decide_eq_true h, Bool.not_true, cond_false, hsub, if_pos h]
    rfl
  · rw [decide_eq_false h, Bool.not_false, cond_true, if_neg h]
    rfl
theorem idxByte_app {a t : List UInt8} (ha : Digs a) : Lib.indexByte (a ++ 46 :: t) 46 = (a.length : Int) := by
  induction a with
  | nil => simp [Lib.indexByte]
  | cons b a ih =>
    obtain ⟨h1, h2⟩ := digs_cons.1 ha
    have hb : ¬ b = 46 := fun h => by subst h; simp [isDig] at h1
    have := ih h2
    simp only [List.cons_append, Lib.indexByte, beq_iff_eq, hb, if_false, this]
    have hne : ¬ (a.length : Int) = -1 := by omega
    simp [hne]
theorem idxByte_no {a : List UInt8} (ha : Digs a) : Lib.indexByte a 46 = -1 := by
  induction a with
  | nil => rfl
  | cons b a ih =>
    obtain ⟨h1, h2⟩ := digs_cons.1 ha
    have hb : ¬ b = 46 := fun h => by subst h; simp [isDig] at h1
    simp [Lib.indexByte, hb, ih h2]
theorem look_ok {s : List UInt8} (h : (lookR s).1 = 0) : lookR s = (0, 0, ()) ∧ aheadD s ≠ [] ∧
    ((s.drop (p0 s) = aheadD s ∧ behindD s = []) ∨ (s.drop (p0 s) = aheadD s ++ 46 :: behindD s ∧ behindD s ≠ [])) := by
  unfold lookR lookQ at h ⊢
  have split := tw_split (s.drop (p0 s))
  rw [List.drop_drop] at split
  have hle := p1_le (p0_le s)
  by_cases hp : p0 s < p1q (p0 s) s ∧ (s.drop (p1q (p0 s) s)).head? = some 46
  · rw [if_pos hp] at h ⊢
    unfold endR at h ⊢
    by_cases h3 : p1q (p0 s) s + 1 < p3q (p0 s) s ∧ p3q (p0 s) s = s.length
    · rw [if_pos h3]
      refine ⟨rfl, ?_, Or.inr ?_⟩
      · intro hh
        have : (tw (s.drop (p0 s))).length = 0 := by unfold aheadD at hh; rw [hh]; rfl
        have := hp.1
        unfold p1q at this
        omega
      · have hb : behindD s = tw (s.drop (p1q (p0 s) s + 1)) := by unfold behindD; rw [if_pos hp.2]
        have h2 := tw_split (s.drop (p1q (p0 s) s + 1))
        rw [List.drop_drop] at h2
        have h4 : s.drop (p1q (p0 s) s + 1 + (tw (s.drop (p1q (p0 s) s + 1))).length) = [] := List.drop_eq_nil_of_le (by
          have h5 := h3.2
          unfold p3q at h5
          omega)
        rw [h4, List.append_nil] at h2
        have h5 : s.drop (p1q (p0 s) s) = 46 :: s.drop (p1q (p0 s) s + 1) := by
          cases e : s.drop (p1q (p0 s) s) with
          | nil => rw [e] at hp; simp at hp
          | cons c r =>
            rw [e] at hp
            have hc : c = 46 := by simpa using hp.2
            subst hc
            obtain ⟨_, _, g3⟩ := drop_cons e
            rw [g3]
        refine ⟨?_, ?_⟩
        · rw [split]
          have : s.drop (p0 s + (tw (s.drop (p0 s))).length) = s.drop (p1q (p0 s) s) := rfl
          rw [this, h5, hb, ← h2]
          rfl
        · rw [hb]
          intro hh
          have h6 := h3.1
          unfold p3q at h6
          rw [hh] at h6
          simp at h6
    · rw [if_neg h3] at h
      split at h <;> cases h
  · rw [if_neg hp] at h ⊢
    unfold endR at h ⊢
    by_cases h3 : p0 s < p1q (p0 s) s ∧ p1q (p0 s) s = s.length
    · rw [if_pos h3]
      have hd : s.drop (p1q (p0 s) s) = [] := List.drop_eq_nil_of_le (by omega)
      refine ⟨rfl, ?_, Or.inl ⟨?_, ?_⟩⟩
      · intro hh
        have : (tw (s.drop (p0 s))).length = 0 := by unfold aheadD at hh; rw [hh]; rfl
        have := h3.1
        unfold p1q at this
        omega
      · have : s.drop (p0 s + (tw (s.drop (p0 s))).length) = s.drop (p1q (p0 s) s) := rfl
        rw [this, hd, List.append_nil] at split
        exact split
      · unfold behindD
        rw [hd]
        simp
    · rw [if_neg h3] at h
      split at h <;> cases h
theorem behind_digs (s : List UInt8) : Digs (behindD s) := by
  unfold behindD
  split
  · exact tw_digs _
  · rfl
theorem cut_point (n : Nat) {s : List UInt8} (hs : s.length ≤ 10000) (h : (lookR s).1 = 0) : ∃ f, F.strings_Cut n (s.drop (p0 s)) [46] = some (aheadD s, behindD s, f, ()) := by
  obtain ⟨_, _, h3⟩ := look_ok h
  unfold F.strings_Cut F.stringslite_Cut O.index1
  rcases h3 with ⟨a, b⟩ | ⟨a, b⟩
  · have hi : Lib.indexByte (aheadD s) 46 = -1 := idxByte_no (tw_digs _)
    rw [a, b]
    simp only [some_bind']
    rw [hi]
    exact ⟨false, rfl⟩
  · have hl : (aheadD s ++ 46 :: behindD s).length ≤ 10000 := by rw [← a]; simp; omega
    have hl2 : (aheadD s).length + ((behindD s).length + 1) ≤ 10000 := by simpa using hl
    have hi : Lib.indexByte (aheadD s ++ 46 :: behindD s) 46 = ((aheadD s).length : Int) := idxByte_app (tw_digs _)
    rw [a]
    simp only [some_bind']
    rw [hi]
    have s1 : sub (aheadD s ++ 46 :: behindD s) 0 ((aheadD s).length : Int) = some (aheadD s) := by
      have := sub_nat (aheadD s ++ 46 :: behindD s) 0 (aheadD s).length (by omega) (by simp)
      rw [List.drop_zero, List.take_left'] at this
      · exact this
      · rfl
    have hdr : (aheadD s ++ 46 :: behindD s).drop ((aheadD s).length + 1) = behindD s := by
      rw [List.drop_append, List.drop_eq_nil_of_le (by omega), List.nil_append, show (aheadD s).length + 1 - (aheadD s).length = 1 from by omega]
      rfl
    have s2 : sub (aheadD s ++ 46 :: behindD s) (((aheadD s).length + 1 : Nat) : Int) ((aheadD s ++ 46 :: behindD s).length : Int) = some (behindD s) := by
      have := sub_nat (aheadD s ++ 46 :: behindD s) ((aheadD s).length + 1) (aheadD s ++ 46 :: behindD s).length (by simp) (Nat.le_refl _)
      rw [List.take_length, hdr] at this
      exact this
    have hw : IntKind.wrap .i64 (((aheadD s).length : Int) + ((([46] : List UInt8).length : Nat) : Int)) = (((aheadD s).length + 1 : Nat) : Int) := wrap_succ (by omega)
    rw [bif_pos (by omega), s1, some_bind', hw, s2]
    exact ⟨true, rfl⟩
theorem trimR_eq (n : Nat) {s : List UInt8} (h : s.length ≤ 10000) : O.trimR n s [48] = some (trz s) := by
  unfold O.trimR
  have hb : (Nat.blt (48 : UInt8).toNat 128 && Nat.ble s.length big47) = true := by
    rw [Bool.and_eq_true, Nat.ble_eq]
    exact ⟨rfl, by unfold big47; omega⟩
  simp only [hb, cond_true, trimR_trz]
theorem trimL_eq (n : Nat) {s : List UInt8} (h : s.length ≤ 10000) : O.trimL n s [48] = some (lz s) := by
  unfold O.trimL
  have hb : (Nat.blt (48 : UInt8).toNat 128 && Nat.ble s.length big47) = true := by
    rw [Bool.and_eq_true, Nat.ble_eq]
    exact ⟨rfl, by unfold big47; omega⟩
  simp only [hb, cond_true]
  rfl
theorem trz_trz (d : List UInt8) : trz (trz d) = trz d := trz_self (fun x hx => trz_last hx)
theorem valR_lz (neg : Bool) {d : List UInt8} (hd : Digs d) (e : Int) : valR neg (lz d) e = valR neg d e := valR_same (lz_digs hd) hd (lz_val d) neg e
theorem coef_out (n : Nat) (hn : 200000 ≤ n) (neg : Bool) (d : List UInt8) (hd : Digs d) (hl : d.length ≤ 10000) (E : Int) (hE : -100000 ≤ E ∧ E ≤ 100000) (ht : trz d = d) (x1 x2 x3 x4 x5 x6 : Int) :
    F.dec_Parse.L14 n
                        (fun e9_b0_0 e9_b0_1 e9_b0_2 e9_b1_0 e9_b1_1 e9_b2_0 e9_b2_1 e9_b3_0 e9_b3_1 e9_b3_2 =>
                          (F.dec_Normal n (e9_b3_0, e9_b3_1, e9_b3_2, ())).bind fun y10 =>
                            bif !(y10.2.1 == (0 : Int)) then
                              some (((false, (0 : Int), (0 : Int), ()), (y10.2.1, (0 : Int), ()), ()))
                            else
                              some (((y10.1.1, y10.1.2.1, y10.1.2.2.1, ()), ((0 : Int), (0 : Int), ()), ()))) n d (d.length : Int) (0 : Int) false x1 x2 x3 x4 x5 x6 neg (0 : Int) E
    = some (outR (valR neg d E)) := by
  refine (coef_loop n _ _ d (by omega) false x1 x2 x3 x4 x5 x6 neg E d 0 n rfl (by omega) (by omega) hd (by rw [List.take_zero, val_nil, two64_eq]; omega)).trans ?_
  have out : ∀ r : DecR, (r.2.1 = 0 ∨ r.2.1 = 10 ∧ r.1 = (false, 0, 0, ())) → ((some r).bind fun y10 =>
                            bif !(y10.2.1 == (0 : Int)) then
                              some (((false, (0 : Int), (0 : Int), ()), (y10.2.1, (0 : Int), ()), ()))
                            else
                              some (((y10.1.1, y10.1.2.1, y10.1.2.2.1, ()), ((0 : Int), (0 : Int), ()), ()))) = some (outR r) := by
    intro r hr
    rw [some_bind']
    unfold outR
    rcases hr with h | ⟨h1, h2⟩
    · rw [h, if_pos rfl]; rfl
    · rw [h1, if_neg (by decide)]; rfl
  by_cases hv : val d < two64
  · rw [if_pos hv, normal_eq n (by omega) neg _ hv E (by omega), valR_same (dd_digs _) hd (dd_val _)]
    exact out _ (valR_code neg d E)
  · have h19 := normal_eq n (by omega) neg 1 (by decide) (-19) (by omega)
    have hb := valR_big hd (by omega) ht neg E
    rw [if_neg hv, show (1 : Int) = ((1 : Nat) : Int) from rfl, h19, hb]
    have e1 : valR neg (Lib.decDigits 1) (-19) = ((false, 0, 0, ()), 10, ()) := by
      rw [valR_core (dd_digs 1) (c0 := 1) (z := 0) (by decide) (by rw [dd_val])]
      unfold normR
      rw [if_pos (by omega)]
    rw [e1]
    exact out _ (Or.inr ⟨rfl, rfl⟩)
theorem decparse_eq (n : Nat) (hn : 200000 ≤ n) (s : List UInt8) (hs : s.length ≤ 10000) : F.dec_Parse n s = some (parseR s) := by
  unfold F.dec_Parse
  rw [look_eq n s (by omega) (by omega), some_bind']
  by_cases h : (lookR s).1 = 0
  · obtain ⟨h1, h2, h3⟩ := look_ok h
    obtain ⟨f, hcut⟩ := cut_point n hs h
    have e0 : (!((0 : Int) == 0 && (0 : Int) == 0)) = false := rfl
    rw [h1]
    simp only [e0, cond_false]
    rw [cutPrefix_one, some_bind']
    simp only [hcut, some_bind']
    have ha : Digs (aheadD s) := tw_digs _
    have hb := behind_digs s
    have hlen : (aheadD s).length + (behindD s).length ≤ 10000 := by
      have hd : (s.drop (p0 s)).length ≤ 10000 := by simp; omega
      rcases h3 with ⟨a, b⟩ | ⟨a, b⟩
      · rw [b]; rw [a] at hd; simpa using hd
      · rw [a] at hd; simp at hd; omega
    unfold parseR
    rw [if_pos h]
    generalize aheadD s = a at *
    generalize behindD s = b at *
    have htb := trz_le b
    rw [trimR_eq n (by omega), some_bind', bif_pos (by rw [strMax_eq]; omega), trimL_eq n (by simp; omega), some_bind']
    have hab : Digs (a ++ trz b) := digs_append.2 ⟨ha, trz_digs hb⟩
    have hall := lz_le (a ++ trz b)
    have hallL : (lz (a ++ trz b)).length ≤ a.length + (trz b).length := by simpa using hall
    have hts := trz_le (lz (a ++ trz b))
    rw [trimR_eq n (by omega), some_bind']
    have hval : valR (negD s) (lz (a ++ trz b)) (-((trz b).length : Int)) = valR (negD s) (a ++ b) (-(b.length : Int)) := by
      rw [valR_lz _ hab]
      have hpad := trz_pad b
      conv => rhs; rw [hpad]
      rw [← List.append_assoc, valR_zeros_right _ hab]
      congr 1
      simp
      omega
    have hD := lz_digs hab
    have hw : IntKind.wrap .i64 (0 - ((trz b).length : Int)) = -((trz b).length : Int) := by rw [wrap_in (by omega)]; omega
    rw [hw]
    by_cases hz : (trz b).length = 0
    · have ez : (-((trz b).length : Int) == 0) = true := by simp [hz]
      rw [ez, cond_true]
      by_cases hsh : (trz (lz (a ++ trz b))).length < (lz (a ++ trz b)).length
      · have hw2 : IntKind.wrap .i64 (((lz (a ++ trz b)).length : Int) - ((trz (lz (a ++ trz b))).length : Int)) = (((lz (a ++ trz b)).length - (trz (lz (a ++ trz b))).length : Nat) : Int) := by rw [wrap_in (by omega)]; omega
        rw [bif_pos (by omega), hw2]
        have := coef_out n hn (negD s) _ (trz_digs hD) (by omega) (((lz (a ++ trz b)).length - (trz (lz (a ++ trz b))).length : Nat) : Int) (by omega) (trz_trz _) 0 0 0 0 0 0
        refine this.trans ?_
        congr 2
        rw [← hval, hz]
        have hpad := trz_pad (lz (a ++ trz b))
        conv => rhs; rw [hpad]
        rw [valR_zeros_right _ (trz_digs hD)]
        congr 1
        omega
      · have hq : trz (lz (a ++ trz b)) = lz (a ++ trz b) := by
          have hpad := trz_pad (lz (a ++ trz b))
          rw [show (lz (a ++ trz b)).length - (trz (lz (a ++ trz b))).length = 0 from by omega, List.replicate_zero, List.append_nil] at hpad
          exact hpad.symm
        rw [bif_neg (by omega)]
        have := coef_out n hn (negD s) _ hD (by omega) (-((trz b).length : Int)) (by omega) hq 0 0 0 0 0 0
        refine this.trans ?_
        rw [hval]
    · have ez : (-((trz b).length : Int) == 0) = false := by
        have : ¬ (-((trz b).length : Int)) = 0 := by omega
        simpa using this
      rw [ez, cond_false]
      have hq : trz (lz (a ++ trz b)) = lz (a ++ trz b) := by
        refine trz_self fun x hx => ?_
        have hrep := lz_rep (a ++ trz b)
        have hlast : (a ++ trz b).getLast? = some x := by
          rw [hrep, List.getLast?_append, hx]; rfl
        rw [List.getLast?_append] at hlast
        cases e : (trz b).getLast? with
        | none => simp at e; rw [e] at hz; simp at hz
        | some y =>
          rw [e] at hlast
          have hy : y = x := by simpa using hlast
          rw [← hy]
          exact trz_last e
      have := coef_out n hn (negD s) _ hD (by omega) (-((trz b).length : Int)) (by omega) hq 0 0 0 0 0 0
      refine this.trans ?_
      rw [hval]
  · have e : ((lookR s).1 == 0) = false := by simpa using h
    unfold parseR
    rw [if_neg h, e]
    rfl
end Go.AM
set_option linter.unusedVariables false
set_option linter.unusedSimpArgs false
namespace Go.AM
def checkR (neg : Bool) (c : Nat) (e : Int) : Int :=
  if c ≠ 0 ∧ (e < -18 ∨ e > 18) then 10 else if (valR neg (Lib.decDigits c) e).2.1 = 0 ∧ (valR neg (Lib.decDigits c) e).1 = (neg, (c : Int), e, ()) then 0 else 21
def sgn (neg : Bool) : List UInt8 := if neg then [45] else []
theorem p0_form (neg : Bool) {a : List UInt8} (ha : Digs a) (hne : a ≠ []) (t : List UInt8) : p0 (sgn neg ++ (a ++ t)) = (sgn neg).length ∧ negD (sgn neg ++ (a ++ t)) = neg := by
  cases a with
  | nil => exact absurd rfl hne
  | cons b a =>
    obtain ⟨h1, _⟩ := digs_cons.1 ha
    have hb : ¬ b = 45 := fun h => by subst h; simp [isDig] at h1
    unfold p0 negD
    cases neg
    · simp [sgn, hb]
    · simp [sgn]
theorem parse_whole (neg : Bool) {a : List UInt8} (ha : Digs a) (hne : a ≠ []) : parseR (sgn neg ++ a) = outR (valR neg a 0) := by
  have hp := p0_form neg ha hne []
  rw [List.append_nil] at hp
  obtain ⟨h0, hneg⟩ := hp
  have hlen : 0 < a.length := List.length_pos_iff.2 hne
  have hd0 : (sgn neg ++ a).drop (sgn neg).length = a := by rw [List.drop_left']; rfl
  have htw : tw a = a := by
    have := tw_append ha (t := []) (by simp)
    rw [List.append_nil] at this
    exact this
  have h1 : p1q (sgn neg).length (sgn neg ++ a) = (sgn neg ++ a).length := by unfold p1q; rw [hd0, htw, List.length_append]
  have hdr : (sgn neg ++ a).drop (sgn neg ++ a).length = [] := List.drop_length
  have hl : lookR (sgn neg ++ a) = (0, 0, ()) := by
    unfold lookR lookQ endR
    rw [h0, h1, hdr, if_neg (by simp), if_pos ⟨by rw [List.length_append]; omega, rfl⟩]
  have hb : behindD (sgn neg ++ a) = [] := by unfold behindD; rw [h0, h1, hdr]; rfl
  have hA : aheadD (sgn neg ++ a) = a := by unfold aheadD; rw [h0, hd0, htw]
  unfold parseR
  rw [hl, if_pos rfl, hb, hA, hneg, List.append_nil]
  rfl
end Go.AM
set_option linter.unusedVariables false
set_option linter.unusedSimpArgs false
namespace Go.AM
theorem bif_some {α : Type} (b : Bool) (u v : α) : (bif b then some u else some v) = some (bif b then u else v) := by cases b <;> rfl
def btw (x lo hi : Int) : Bool := decide (lo ≤ x) && decide (x ≤ hi)
def wordI (x : Int) : Bool := btw x 65 90 || (btw x 97 122 || (x == 95 || (x == 46 || (x == 45 || btw x 48 57))))
def cls (c : Int) (b : UInt8) : Bool :=
  bif c == 3 then btw b.toNat 33 126 && (!((b.toNat : Int) == 44) && !((b.toNat : Int) == 124))
  else bif c == 2 then ((b.toNat : Int) == 47) || wordI b.toNat
  else bif c == 1 then wordI b.toNat
  else (c == 4) && btw b.toNat 48 57
def may (c : Int) : Bool := decide (1 ≤ c) && decide (c ≤ 4)
theorem cls4 (b : UInt8) : cls 4 b = isDig b := by
  unfold cls isDig btw
  simp
  congr 1 <;> simp only [decide_eq_decide] <;> omega
theorem may_cls (n : Nat) (c : Int) : F.class_may n c = some (may c) := by
  unfold F.class_may may
  by_cases h : 1 ≤ c
  · rw [bif_pos (by omega)]; simp [h]
  · rw [bif_neg (by omega)]; simp [h]
theorem between_eq (n : Nat) (x lo hi : Int) : F.class_between n x lo hi = some (btw x lo hi) := by
  unfold F.class_between btw
  by_cases h : lo ≤ x
  · rw [bif_pos (by omega)]; simp [h]
  · rw [bif_neg (by omega)]; simp [h]
theorem is_eq (n : Nat) (c : Int) (b : UInt8) : F.class_Is n c (b.toNat) = some (cls c b) := by
  unfold F.class_Is cls wordI
  simp only [between_eq, some_bind', bif_some]
  congr 1
  cases c == 3 <;> cases c == 2 <;> cases c == 1 <;> cases c == 4 <;> generalize hx : (b.toNat : Int) = x <;> clear hx <;>
    (cases btw x 33 126 <;> cases x == 44 <;> cases btw x 65 90 <;> cases btw x 97 122 <;> cases x == 95 <;> cases x == 46 <;> cases x == 45 <;> cases x == 47 <;> rfl)
def badK (p : UInt8 → Bool) : Nat → List UInt8 → Int
  | _, [] => -1
  | k, b :: l => if p b then badK p (k + 1) l else (k : Int)
theorem badK_ge (p : UInt8 → Bool) (k : Nat) (l : List UInt8) : 0 ≤ badK p k l ↔ ¬ l.all p = true := by
  induction l generalizing k with
  | nil => simp [badK]
  | cons b l ih =>
    unfold badK
    by_cases h : p b = true
    · rw [if_pos h, ih]; simp [h]
    · rw [if_neg h]; simp [h]
theorem badK_neg (p : UInt8 → Bool) (k : Nat) (l : List UInt8) (h : l.all p = true) : badK p k l = -1 := by
  induction l generalizing k with
  | nil => rfl
  | cons b l ih =>
    simp only [List.all_cons, Bool.and_eq_true] at h
    unfold badK
    rw [if_pos h.1, ih _ h.2]
theorem badK_hi (p : UInt8 → Bool) (k : Nat) (l : List UInt8) : badK p k l < k + l.length ∨ badK p k l = -1 := by
  induction l generalizing k with
  | nil => exact Or.inr rfl
  | cons b l ih =>
    unfold badK
    by_cases hb : p b = true
    · rw [if_pos hb]; have := ih (k + 1); simp; omega
    · rw [if_neg hb]; simp; omega
theorem bad_cls_loop (n : Nat) (X : Type) (k0 : Unit → Option X) (kr : Int → Int → Option X) (c : Int) (s : List UInt8) (hs : s.length < 4611686018427387904) : ∀ (r : List UInt8) (k m : Nat), s.drop k = r → r.length < m →
    F.class_Bad.L4 n k0 kr m c s (s.length : Int) (k : Int) = if 0 ≤ badK (cls c) k r then kr (badK (cls c) k r) 0 else k0 () := by
  intro r
  induction r with
  | nil =>
    intro k m hk hm
    have := drop_nil' hk
    cases m with
    | zero => simp at hm
    | succ m =>
      show F.class_Bad.L4.step n _ k0 kr c s _ k = _
      unfold F.class_Bad.L4.step
      rw [bif_neg (by omega)]
      rfl
  | cons x r ih =>
    intro k m hk hm
    obtain ⟨h1, h2, h3⟩ := drop_cons hk
    cases m with
    | zero => simp at hm
    | succ m =>
      show F.class_Bad.L4.step n (F.class_Bad.L4 n k0 kr m) k0 kr c s _ k = _
      unfold F.class_Bad.L4.step
      rw [bif_pos (by omega), idx_nat, h2, some_bind', is_eq, some_bind']
      unfold badK
      by_cases hx : cls c x = true
      · rw [hx, if_pos rfl, wrap_succ (by omega), ih (k + 1) m h3 (by simp at hm; omega)]
        rfl
      · have hx : cls c x = false := by simpa using hx
        rw [hx]
        have : ¬ (false = true) := by simp
        rw [if_neg this, if_pos (by omega)]
        rfl
theorem bad_cls (n : Nat) (c : Int) (s : List UInt8) (hs : s.length < 4611686018427387904) (hn : s.length < n) : F.class_Bad n c s = some (bif may c then (badK (cls c) 0 s, 0, ()) else (0, 1, ())) := by
  unfold F.class_Bad
  rw [may_cls, some_bind']
  cases hm : may c
  · rfl
  · simp only [Bool.not_true, cond_false]
    refine (bad_cls_loop n _ _ _ c s hs s 0 n rfl hn).trans ?_
    by_cases h : 0 ≤ badK (cls c) 0 s
    · rw [if_pos h]; rfl
    · rw [if_neg h]
      have : s.all (cls c) = true := Classical.byContradiction fun hh => h ((badK_ge _ _ _).2 hh)
      rw [badK_neg _ _ _ this]; rfl
def textF (c : Int) (s : List UInt8) (lo hi : Int) : Int × Int × Unit :=
  if may c = false ∨ lo < 0 ∨ hi < lo then (1, 0, ()) else if (s.length : Int) < lo then (13, (s.length : Int), ()) else if (s.length : Int) > hi then (12, hi, ())
  else if 0 ≤ badK (cls c) 0 s then (14, badK (cls c) 0 s, ()) else (0, 0, ())
theorem text_cls (n : Nat) (c : Int) (s : List UInt8) (lo hi : Int) (hs : s.length < 4611686018427387904) (hn : s.length < n) : F.class_Text n c s lo hi = some (textF c s lo hi) := by
  unfold F.class_Text textF
  rw [bad_cls n c s hs hn, some_bind']
  cases hm : may c
  · rw [if_pos (Or.inl rfl)]; rfl
  · simp only [cond_true]
    have e : (!((0 : Int) == 0)) = false := rfl
    rw [e, cond_false]
    by_cases h1 : lo < 0
    · rw [bif_pos h1, if_pos (Or.inr (Or.inl h1))]
    · rw [bif_neg h1]
      by_cases h2 : hi < lo
      · rw [bif_pos h2, if_pos (Or.inr (Or.inr h2))]
      · rw [bif_neg h2, if_neg (by simp [h1, h2])]
        by_cases h3 : (s.length : Int) < lo
        · rw [bif_pos h3, if_pos h3]
        · rw [bif_neg h3, if_neg h3]
          by_cases h4 : (s.length : Int) > hi
          · rw [bif_pos h4, if_pos h4]
          · rw [bif_neg h4, if_neg h4]
            by_cases h5 : 0 ≤ badK (cls c) 0 s
            · rw [bif_pos (by omega), if_pos h5]
            · rw [bif_neg (by omega), if_neg h5]
def bytesOf (c : Int) : List UInt8 :=
  bif c == 1 then [65, 66, 67, 68, 69, 70, 71, 72, 73, 74, 75, 76, 77, 78, 79, 80, 81, 82, 83, 84, 85, 86, 87, 88, 89, 90, 97, 98, 99, 100, 101, 102, 103, 104, 105, 106, 107, 108, 109, 110, 111, 112, 113, 114, 115, 116, 117, 118, 119, 120, 121, 122, 48, 49, 50, 51, 52, 53, 54, 55, 56, 57, 95, 46, 45]
  else bif c == 2 then [65, 66, 67, 68, 69, 70, 71, 72, 73, 74, 75, 76, 77, 78, 79, 80, 81, 82, 83, 84, 85, 86, 87, 88, 89, 90, 97, 98, 99, 100, 101, 102, 103, 104, 105, 106, 107, 108, 109, 110, 111, 112, 113, 114, 115, 116, 117, 118, 119, 120, 121, 122, 48, 49, 50, 51, 52, 53, 54, 55, 56, 57, 95, 46, 45, 47]
  else bif c == 3 then [65, 66, 67, 68, 69, 70, 71, 72, 73, 74, 75, 76, 77, 78, 79, 80, 81, 82, 83, 84, 85, 86, 87, 88, 89, 90, 97, 98, 99, 100, 101, 102, 103, 104, 105, 106, 107, 108, 109, 110, 111, 112, 113, 114, 115, 116, 117, 118, 119, 120, 121, 122, 48, 49, 50, 51, 52, 53, 54, 55, 56, 57, 95, 46, 45, 47, 33, 34, 35, 36, 37, 38, 39, 40, 41, 42, 43, 58, 59, 60, 61, 62, 63, 64, 91, 92, 93, 94, 96, 123, 125, 126]
  else bif c == 4 then [48, 49, 50, 51, 52, 53, 54, 55, 56, 57] else []
end Go.AM
set_option linter.unusedVariables false
set_option linter.unusedSimpArgs false
namespace Go.AM
def seg (c : UInt8) (s : List UInt8) : List UInt8 := s.takeWhile (· != c)
theorem seg_cons (c b : UInt8) (s : List UInt8) : seg c (b :: s) = if b = c then [] else b :: seg c s := by
  unfold seg
  by_cases h : b = c
  · subst h; simp [List.takeWhile_cons]
  · simp [List.takeWhile_cons, h]
theorem seg_le (c : UInt8) (s : List UInt8) : (seg c s).length ≤ s.length := (List.takeWhile_sublist _).length_le
theorem seg_idx (c : UInt8) (s : List UInt8) : Lib.indexByte s c = if c ∈ s then ((seg c s).length : Int) else -1 := by
  induction s with
  | nil => simp [Lib.indexByte]
  | cons b s ih =>
    rw [seg_cons]
    simp only [Lib.indexByte, beq_iff_eq, List.mem_cons]
    by_cases h : b = c
    · subst h; simp
    · rw [if_neg h, ih]
      have h' : ¬ c = b := fun hh => h hh.symm
      by_cases hm : c ∈ s
      · rw [if_pos hm, if_pos (Or.inr hm), if_neg h]
        rw [if_neg (by omega), List.length_cons]
        omega
      · rw [if_neg hm, if_pos rfl, if_neg (by simp [h', hm])]
theorem seg_all {c : UInt8} {s : List UInt8} (h : c ∉ s) : seg c s = s := by
  induction s with
  | nil => rfl
  | cons b s ih =>
    rw [seg_cons, if_neg (fun hh => h (by simp [hh])), ih (fun hh => h (by simp [hh]))]
theorem seg_lt {c : UInt8} {s : List UInt8} (h : c ∈ s) : (seg c s).length < s.length := by
  induction s with
  | nil => simp at h
  | cons b s ih =>
    rw [seg_cons]
    by_cases hb : b = c
    · rw [if_pos hb]; simp
    · rw [if_neg hb]
      have : c ∈ s := by
        rcases List.mem_cons.1 h with rfl | h
        · exact absurd rfl hb
        · exact h
      have := ih this
      simp
      omega
theorem seg_take (c : UInt8) (s : List UInt8) : s.take (seg c s).length = seg c s := by
  induction s with
  | nil => rfl
  | cons b s ih =>
    rw [seg_cons]
    by_cases hb : b = c
    · rw [if_pos hb]; rfl
    · rw [if_neg hb]; simp [ih]
theorem cut_eq (n : Nat) (c : UInt8) {s : List UInt8} (hs : s.length ≤ 1000000) : F.strings_Cut n s [c] = some (seg c s, (if c ∈ s then s.drop ((seg c s).length + 1) else []), decide (c ∈ s), ()) := by
  unfold F.strings_Cut F.stringslite_Cut O.index1
  simp only [some_bind']
  rw [seg_idx]
  by_cases h : c ∈ s
  · have hl := seg_lt h
    have s1 : sub s 0 ((seg c s).length : Int) = some (seg c s) := by
      have := sub_nat s 0 (seg c s).length (by omega) (by omega)
      rw [List.drop_zero, seg_take] at this
      exact this
    have s2 : sub s (((seg c s).length + 1 : Nat) : Int) (s.length : Int) = some (s.drop ((seg c s).length + 1)) := by
      have := sub_nat s ((seg c s).length + 1) s.length (by omega) (Nat.le_refl _)
      rw [List.take_length] at this
      exact this
    have hw : IntKind.wrap .i64 (((seg c s).length : Int) + ((([c] : List UInt8).length : Nat) : Int)) = (((seg c s).length + 1 : Nat) : Int) := wrap_succ (by omega)
    simp only [h, if_true, decide_true]
    rw [bif_pos (by omega), s1, some_bind', hw, s2]
    rfl
  · simp only [h, if_false, decide_false]
    rw [bif_neg (by omega), seg_all h]
    rfl
theorem sub_tail {s : List UInt8} {p : Nat} (h : p ≤ s.length) : sub s (p : Int) (s.length : Int) = some (s.drop p) := by
  have := sub_nat s p s.length h (Nat.le_refl _)
  rw [List.take_length] at this
  exact this
def nextP (c : UInt8) (s : List UInt8) (p : Nat) : Nat := p + (seg c (s.drop p)).length + (if c ∈ s.drop p then 1 else 0)
theorem nextP_le {c : UInt8} {s : List UInt8} {p : Nat} (h : p ≤ s.length) : nextP c s p ≤ s.length := by
  unfold nextP
  by_cases hm : c ∈ s.drop p
  · have := seg_lt hm
    simp at this
    rw [if_pos hm]; omega
  · have := seg_le c (s.drop p)
    simp at this
    rw [if_neg hm]; omega
theorem parseR_at {s : List UInt8} (h : (parseR s).2.1.1 = 0) : (parseR s).2.1.2.1 = 0 := by
  unfold parseR outR badR at h ⊢
  split
  · rename_i h1
    rw [if_pos h1] at h
    split
    · rfl
    · rename_i h2
      rw [if_neg h2] at h
      first | done | exact absurd h h2
  · rename_i h1
    rw [if_neg h1] at h
    exact absurd h h1
theorem textF_at {c : Int} {s : List UInt8} {lo hi : Int} (h : (textF c s lo hi).1 = 0) : (textF c s lo hi).2.1 = 0 := by
  unfold textF at h ⊢
  by_cases h1 : may c = false ∨ lo < 0 ∨ hi < lo
  · rw [if_pos h1]
  rw [if_neg h1] at h ⊢
  by_cases h2 : (s.length : Int) < lo
  · rw [if_pos h2] at h; cases h
  rw [if_neg h2] at h ⊢
  by_cases h3 : (s.length : Int) > hi
  · rw [if_pos h3] at h; cases h
  rw [if_neg h3] at h ⊢
  by_cases h4 : 0 ≤ badK (cls c) 0 s
  · rw [if_pos h4] at h; cases h
  rw [if_neg h4]
abbrev MetD := List UInt8 × Int × List (Bool × Int × Int) × Int × List (List UInt8 × List UInt8) × Int × Unit
abbrev MetR := MetD × FaultR × Unit
end Go.AM
set_option linter.unusedVariables false
set_option linter.unusedSimpArgs false
namespace Go.AM
end Go.AM
set_option linter.unusedVariables false
set_option linter.unusedSimpArgs false
namespace Go.AM
end Go.AM
set_option linter.unusedVariables false
set_option linter.unusedSimpArgs false
namespace Go.AM
abbrev DecL := Bool × Int × Int
abbrev TagL := List UInt8 × List UInt8
def DecLOK (d : DecL) : Prop := True ∧ (0 ≤ d.2.1 ∧ d.2.1 ≤ 18446744073709551615) ∧ -9223372036854775808 ≤ d.2.2 ∧ d.2.2 ≤ 9223372036854775807
def decC (d : DecL) : Int := checkR d.1 d.2.1.toNat d.2.2
def nameOK (s : List UInt8) : Bool := (textF 1 s 1 200).1 == 0
def tagGood (t : TagL) : Bool := ((textF 2 t.1 1 64).1 == 0) && ((textF 3 t.2 0 100).1 == 0)
theorem textF_both (c : Int) (s : List UInt8) (lo hi : Int) : (((textF c s lo hi).1 == 0) && ((textF c s lo hi).2.1 == 0)) = ((textF c s lo hi).1 == 0) := by
  by_cases h : (textF c s lo hi).1 = 0
  · rw [h, textF_at h]; rfl
  · rw [beq_eq_false_iff_ne.2 h]; rfl
def TagLOK (t : TagL) : Prop := t.1.length ≤ 10000 ∧ t.2.length ≤ 10000
theorem tag_chk (n : Nat) (hn : 200000 ≤ n) {t : TagL} (h : TagLOK t) : F.tag_Check n (t.1, t.2, ()) = some (bif tagGood t then 0 else 19) := by
  obtain ⟨h1, h2⟩ := h
  unfold F.tag_Check tagGood
  simp only [text_cls n 2 t.1 1 64 (by omega) (by omega), text_cls n 3 t.2 0 100 (by omega) (by omega), some_bind', textF_both]
  cases ((textF 2 t.1 1 64).1 == 0) <;> cases ((textF 3 t.2 0 100).1 == 0) <;> rfl
def kindB (k : Int) : Bool := decide (1 ≤ k) && decide (k ≤ 5)
def valsB (vs : List DecL) : Bool := decide (1 ≤ vs.length) && (decide (vs.length ≤ 64) && vs.all fun d => decC d == 0)
def rateB (k r : Int) : Bool := decide (1 ≤ r) && (decide (r ≤ 1000000) && (!(k == 2) || r == 1000000))
def tagsB (ts : List TagL) : Bool := decide (ts.length ≤ 32) && ts.all tagGood
def timeB (t : Int) : Bool := decide (0 ≤ t) && decide (t ≤ 1099511627776)
def chkM (m : MetD) : Int :=
  bif !nameOK m.1 then 15 else bif !kindB m.2.1 then 16 else bif !valsB m.2.2.1 then 17 else bif !rateB m.2.1 m.2.2.2.1 then 18 else bif !tagsB m.2.2.2.2.1 then 19 else bif !timeB m.2.2.2.2.2.1 then 20 else 0
def MetOK (m : MetD) : Prop := m.1.length ≤ 10000 ∧ (m.2.2.1.length ≤ 10000 ∧ ∀ d ∈ m.2.2.1, DecLOK d) ∧ (m.2.2.2.2.1.length ≤ 10000 ∧ ∀ t ∈ m.2.2.2.2.1, TagLOK t)
end Go.AM
set_option linter.unusedVariables false
set_option linter.unusedSimpArgs false
namespace Go.AM
theorem nameOK_eq (s : List UInt8) : nameOK s = (s.all (cls 1) && (decide (1 ≤ s.length) && decide (s.length ≤ 200))) := by
  unfold nameOK textF
  rw [if_neg (by simp [may])]
  by_cases h1 : (s.length : Int) < 1
  · rw [if_pos h1]
    have : decide (1 ≤ s.length) = false := decide_eq_false (by omega)
    rw [this]; simp
  rw [if_neg h1]
  have e1 : decide (1 ≤ s.length) = true := decide_eq_true (by omega)
  by_cases h2 : (s.length : Int) > 200
  · rw [if_pos h2]
    have : decide (s.length ≤ 200) = false := decide_eq_false (by omega)
    rw [this]; simp
  rw [if_neg h2]
  have e2 : decide (s.length ≤ 200) = true := decide_eq_true (by omega)
  rw [e1, e2]
  by_cases h3 : 0 ≤ badK (cls 1) 0 s
  · rw [if_pos h3]
    have : s.all (cls 1) = false := by
      have := (badK_ge (cls 1) 0 s).1 h3
      simpa using this
    rw [this]; rfl
  · rw [if_neg h3]
    have : s.all (cls 1) = true := Classical.byContradiction fun hh => h3 ((badK_ge _ _ _).2 hh)
    rw [this]; rfl
end Go.AM
set_option linter.unusedVariables false
set_option linter.unusedSimpArgs false
namespace Go.AM
end Go.AM
set_option linter.unusedVariables false
set_option linter.unusedSimpArgs false
namespace Go.AM
end Go.AM
set_option linter.unusedVariables false
set_option linter.unusedSimpArgs false
namespace Go.AM
end Go.AM
set_option linter.unusedVariables false
set_option linter.unusedSimpArgs false
namespace Go.AM
theorem chk_zero {m : MetD} (h : chkM m = 0) : nameOK m.1 = true ∧ kindB m.2.1 = true ∧ valsB m.2.2.1 = true ∧ rateB m.2.1 m.2.2.2.1 = true ∧ tagsB m.2.2.2.2.1 = true ∧ timeB m.2.2.2.2.2.1 = true := by
  unfold chkM at h
  revert h
  cases nameOK m.1 <;> cases kindB m.2.1 <;> cases valsB m.2.2.1 <;> cases rateB m.2.1 m.2.2.2.1 <;> cases tagsB m.2.2.2.2.1 <;> cases timeB m.2.2.2.2.2.1 <;> simp
end Go.AM
set_option linter.unusedVariables false
set_option linter.unusedSimpArgs false
namespace Go.AM
end Go.AM
set_option linter.unusedVariables false
set_option linter.unusedSimpArgs false
namespace Go.AM
abbrev NumR := Int × (Int × Int × Unit) × Unit
def numR (v c at' : Int) : NumR := (v, (c, at', ()), ())
theorem cls4_fun : cls 4 = isDig := funext cls4
theorem fault_eq (n : Nat) (c a : Int) : F.num_fault n c a = some (0, (c, a, ()), ()) := rfl
theorem digs_of_bad {s : List UInt8} {k : Nat} (h : ¬ 0 ≤ badK isDig k s) : Digs s := Classical.byContradiction fun hh => h ((badK_ge _ _ _).2 hh)
theorem textF4 (s : List UInt8) (hs : s.length < 4611686018427387904) : textF 4 s 1 (IntKind.wrap .i64 ((s.length : Int) + 1)) = if s = [] then (13, 0, ()) else if 0 ≤ badK isDig 0 s then (14, badK isDig 0 s, ()) else (0, 0, ()) := by
  unfold textF
  rw [wrap_succ hs, cls4_fun]
  have hm : may 4 = true := rfl
  rw [if_neg (by simp [hm]; omega)]
  cases s with
  | nil => rfl
  | cons b s =>
    rw [if_neg (show ¬ (((b :: s).length : Nat) : Int) < 1 from by simp; omega), if_neg (show ¬ (((b :: s).length : Nat) : Int) > (((b :: s).length + 1 : Nat) : Int) from by omega), if_neg (show ¬ (b :: s = []) from by simp)]
end Go.AM
set_option linter.unusedVariables false
set_option linter.unusedSimpArgs false
namespace Go.AM
def pad6 (k : Nat) : List UInt8 := (Lib.decDigits (1000000 + k)).drop 1
theorem pad6_all {k : Nat} (h : k < 1000000) : Lib.decDigits (1000000 + k) = 49 :: pad6 k ∧ (pad6 k).length = 6 ∧ Digs (pad6 k) ∧ val (pad6 k) = k := by
  have hN : (Lib.decDigits (1000000 + k)).length = 7 := by rw [dd_length]; exact Lib.nDigits_unique 6 _ (by omega) (by omega)
  have hd := dd_digs (1000000 + k)
  have hv := dd_val (1000000 + k)
  unfold pad6
  cases e : Lib.decDigits (1000000 + k) with
  | nil => rw [e] at hN; simp at hN
  | cons b r =>
    rw [e] at hN hd hv
    have hr : r.length = 6 := by simpa using hN
    obtain ⟨d1, d2⟩ := digs_cons.1 hd
    have := val_lt d2
    rw [hr] at this
    rw [val_cons, hr] at hv
    have hb : dv b = 1 := by omega
    have : b = 49 := dv_inj d1 rfl hb
    subst this
    refine ⟨rfl, hr, d2, ?_⟩
    show val r = k
    omega
def rateText (k : Int) : List UInt8 × Int × Unit :=
  if k < 1 ∨ k > 1000000 then ([], 10, ()) else if k = 1000000 then ([49], 0, ()) else ([48, 46] ++ trz (pad6 k.toNat), 0, ())
def rateR (s : List UInt8) : NumR :=
  if s = [49] then numR 1000000 0 0 else if s = [] then numR 0 13 0 else if s.head? ≠ some 48 then numR 0 11 0 else if (s.drop 1).head? ≠ some 46 then numR 0 11 1
  else if s.drop 2 = [] then numR 0 13 2 else if 0 ≤ badK isDig 0 (s.drop 2) then numR 0 14 (2 + badK isDig 0 (s.drop 2)) else if 6 < (s.drop 2).length then numR 0 12 8
  else if val (s.drop 2) = 0 then numR 0 10 0 else numR ((val (s.drop 2) * 10 ^ (6 - (s.drop 2).length) : Nat) : Int) 0 0
theorem rate_digs_loop (n : Nat) (X : Type) (k3 : Int → Int → Int → Int → Int → Int → Int → Option X) (d : List UInt8) (hd : Digs d) (hl : d.length ≤ 6) (a b c e f g : Int) : ∀ (j i m : Nat), i + j = 6 → j < m →
    F.num_Rate.L23 n k3 m d (i : Int) a b c e f g (val ((d ++ List.replicate (6 - d.length) 48).take i) : Int) = k3 a b c e f g ((val d * 10 ^ (6 - d.length) : Nat) : Int) := by
  have hD : Digs (d ++ List.replicate (6 - d.length) 48) := digs_append.2 ⟨hd, digs_rep _⟩
  have hL : (d ++ List.replicate (6 - d.length) (48 : UInt8)).length = 6 := by simp; omega
  intro j
  induction j with
  | zero =>
    intro i m hi hm
    cases m with
    | zero => omega
    | succ m =>
      show F.num_Rate.L23.step n _ k3 d _ _ _ _ _ _ _ _ = _
      unfold F.num_Rate.L23.step
      rw [bif_neg (by omega), List.take_of_length_le (by omega), val_zeros_right]
  | succ j ih =>
    intro i m hi hm
    cases m with
    | zero => omega
    | succ m =>
      show F.num_Rate.L23.step n (F.num_Rate.L23 n k3 m) k3 d _ _ _ _ _ _ _ _ = _
      unfold F.num_Rate.L23.step
      rw [bif_pos (by omega), wrap_succ (by omega)]
      have hb : val ((d ++ List.replicate (6 - d.length) 48).take i) < 10 ^ i := by
        have := val_lt (digs_take i hD)
        rw [List.length_take, hL, Nat.min_eq_left (by omega)] at this
        exact this
      have hp : (10 : Nat) ^ i ≤ 10 ^ 6 := Nat.pow_le_pow_right (by omega) (by omega)
      have hstep : ∀ x, (d ++ List.replicate (6 - d.length) (48 : UInt8))[i]? = some x → val ((d ++ List.replicate (6 - d.length) 48).take (i + 1)) = val ((d ++ List.replicate (6 - d.length) 48).take i) * 10 + dv x := by
        intro x hx
        rw [List.take_add_one, hx]
        exact val_snoc _ _
      by_cases hlt : i < d.length
      · have hx : (d ++ List.replicate (6 - d.length) (48 : UInt8))[i]? = d[i]? := List.getElem?_append_left hlt
        rw [bif_pos (by omega), idx_lt hlt, some_bind']
        have hg : d[i]? = some d[i] := by simp [hlt]
        have hdx := List.all_eq_true.1 hd d[i] (List.getElem_mem hlt)
        have hdi := isDig_iff.1 hdx
        have hv := hstep d[i] (hx.trans hg)
        have hdl := dv_lt hdx
        have h8 : IntKind.wrap .i64 (IntKind.wrap .u8 ((d[i].toNat : Int) - 48)) = (dv d[i] : Int) := by
          rw [IntWalk.u8_in _ (by omega), wrap_in (by omega)]; unfold dv; omega
        rw [h8, wrap_in (x := 10 * _) (by omega), wrap_in (by omega), show 10 * (val ((d ++ List.replicate (6 - d.length) (48 : UInt8)).take i) : Int) + (dv d[i] : Int) = (val ((d ++ List.replicate (6 - d.length) (48 : UInt8)).take (i + 1)) : Int) from by omega]
        exact ih (i + 1) m (by omega) (by omega)
      · have hx : (d ++ List.replicate (6 - d.length) (48 : UInt8))[i]? = some 48 := by
          rw [List.getElem?_append_right (by omega), List.getElem?_replicate, if_pos (by omega)]
        have hv := hstep 48 hx
        rw [dv_48] at hv
        rw [bif_neg (by omega), wrap_in (x := 10 * _) (by omega), wrap_in (by omega), show 10 * (val ((d ++ List.replicate (6 - d.length) (48 : UInt8)).take i) : Int) + 0 = (val ((d ++ List.replicate (6 - d.length) (48 : UInt8)).take (i + 1)) : Int) from by omega]
        exact ih (i + 1) m (by omega) (by omega)
theorem rate_head_loop (n : Nat) (X : Type) (k0 : List UInt8 → Int → Int → Int → Int → Option X) (s : List UInt8) (m : Nat) (hm : 3 ≤ m) :
    F.num_Rate.L5 n k0 m s (48, 46, ()) 0 0 0 0 0 = if s = [] then k0 s 0 0 13 0 else if s.head? ≠ some 48 then k0 s 0 0 11 0 else if (s.drop 1).head? ≠ some 46 then k0 s 0 0 11 1 else k0 s 0 0 0 0 := by
  obtain ⟨m, rfl⟩ : ∃ q, m = q + 3 := ⟨m - 3, by omega⟩
  show F.num_Rate.L5.step n (F.num_Rate.L5 n k0 (m + 2)) k0 s _ _ _ _ _ _ = _
  have hb : ∀ (b c : UInt8), ((b.toNat : Int) == (c.toNat : Int)) = decide (b = c) := by
    intro b c
    by_cases h : b = c
    · simp [h]
    · have : ¬ (b.toNat : Int) = (c.toNat : Int) := fun hh => h (u8_ext (by omega))
      simp [h, this]
  cases s with
  | nil => rfl
  | cons b r =>
    have e48 : ((b.toNat : Int) == 48) = decide (b = 48) := hb b 48
    unfold F.num_Rate.L5.step
    have a1 : decide ((0 : Int) < 2) = true := rfl
    have a2 : ((0 : Int) == 0) = true := rfl
    have a3 : ((0 : Int) == (((b :: r).length : Nat) : Int)) = false := by
      have : ¬ (0 : Int) = (((b :: r).length : Nat) : Int) := by simp; omega
      simpa using this
    have a4 : decide ((0 : Int) ≥ (((b :: r).length : Nat) : Int)) = false := by
      have : ¬ (0 : Int) ≥ (((b :: r).length : Nat) : Int) := by simp only [List.length_cons]; omega
      exact decide_eq_false this
    have a5 : idx (b :: r) (0 : Int) = some b := rfl
    rw [a1, a2, a3, a4, a5, cond_true, cond_true, cond_false, cond_false, some_bind', e48]
    by_cases h1 : b = 48
    · subst h1
      simp only [decide_true, Bool.not_true, cond_false]
      show F.num_Rate.L5.step n (F.num_Rate.L5 n k0 (m + 1)) k0 _ _ 1 _ _ _ _ = _
      unfold F.num_Rate.L5.step
      have c1 : decide ((1 : Int) < 2) = true := rfl
      have c2 : ((1 : Int) == 0) = false := rfl
      have c3 : ((1 : Int) == 1) = true := rfl
      rw [c1, c2, c3, cond_true, cond_false, cond_true]
      cases r with
      | nil => rfl
      | cons c r =>
        have e46 : ((c.toNat : Int) == 46) = decide (c = 46) := hb c 46
        have b3 : ((1 : Int) == (((48 :: c :: r).length : Nat) : Int)) = false := by
          have : ¬ (1 : Int) = (((48 :: c :: r).length : Nat) : Int) := by simp; omega
          simpa using this
        have b4 : decide ((1 : Int) ≥ (((48 :: c :: r).length : Nat) : Int)) = false := by
          have : ¬ (1 : Int) ≥ (((48 :: c :: r).length : Nat) : Int) := by simp; omega
          simpa using this
        have b5 : idx (48 :: c :: r) (1 : Int) = some c := rfl
        rw [b3, b4, b5, cond_false, cond_false, some_bind', e46]
        by_cases h2 : c = 46
        · subst h2
          rfl
        · simp [h2]
    · simp [h1]
theorem rate_num (n : Nat) (hn : 100 ≤ n) (s : List UInt8) (hs : s.length ≤ 1000000) (hl : s.length < n) : F.num_Rate n s = some (rateR s) := by
  unfold F.num_Rate rateR
  by_cases h1 : s = [49]
  · rw [if_pos h1, h1]; rfl
  have e1 : (s == [49]) = false := by simpa using h1
  rw [e1, cond_false, if_neg h1, rate_head_loop n _ _ s n (by omega)]
  by_cases h2 : s = []
  · rw [if_pos h2, if_pos h2]; rfl
  rw [if_neg h2, if_neg h2]
  by_cases h3 : s.head? ≠ some 48
  · rw [if_pos h3, if_pos h3]; rfl
  rw [if_neg h3, if_neg h3]
  by_cases h4 : (s.drop 1).head? ≠ some 46
  · rw [if_pos h4, if_pos h4]; rfl
  rw [if_neg h4, if_neg h4]
  have e2 : (!((0 : Int) == 0 && (0 : Int) == 0)) = false := rfl
  simp only [e2, cond_false]
  have hlen : 2 ≤ s.length := by
    cases s with
    | nil => exact absurd rfl h2
    | cons b r => cases r with
      | nil => simp at h4
      | cons => simp
  have hsub : sub s 2 (s.length : Int) = some (s.drop 2) := by
    have := sub_nat s 2 s.length hlen (Nat.le_refl _)
    rw [List.take_length] at this
    exact this
  have hdl : (s.drop 2).length + 2 = s.length := by simp; omega
  rw [hsub, some_bind', text_cls n 4 _ _ _ (by omega) (by omega), some_bind', textF4 _ (by omega)]
  generalize s.drop 2 = d at hdl ⊢
  by_cases h5 : d = []
  · rw [if_pos h5, if_pos h5]; rfl
  rw [if_neg h5, if_neg h5]
  by_cases h6 : 0 ≤ badK isDig 0 d
  · rw [if_pos h6, if_pos h6]
    have := badK_hi isDig 0 d
    have e : (!((14 : Int) == 0 && badK isDig 0 d == 0)) = true := rfl
    simp only [e, cond_true, fault_eq, some_bind']
    rw [wrap_in (by omega)]
    rfl
  rw [if_neg h6, if_neg h6]
  simp only [e2, cond_false]
  have hd := digs_of_bad h6
  by_cases h7 : 6 < d.length
  · rw [bif_pos (by omega), if_pos h7]; rfl
  rw [bif_neg (by omega), if_neg h7]
  have := rate_digs_loop n _ (fun e12_b0_0 e12_b0_1 e12_b1_0 e12_b1_1 e12_b2_0 e12_b2_1 e12_b3_0 =>
                    bif e12_b3_0 == (0 : Int) then
                      (F.num_fault n (10 : Int) (0 : Int)).bind fun y13 =>
                        some ((y13.1, (y13.2.1.1, y13.2.1.2.1, ()), ()))
                    else
                      some ((e12_b3_0, ((0 : Int), (0 : Int), ()), ()))) d hd (by omega) 0 0 0 0 0 0 6 0 n (by omega) (by omega)
  refine this.trans ?_
  have hpp : 0 < 10 ^ (6 - d.length) := Nat.pow_pos (by omega)
  by_cases h8 : val d = 0
  · rw [if_pos h8, h8, Nat.zero_mul]; rfl
  · rw [if_neg h8]
    have : ¬ ((val d * 10 ^ (6 - d.length) : Nat) : Int) = 0 := by
      have := Nat.mul_pos (Nat.pos_of_ne_zero h8) hpp
      omega
    have e : (((val d * 10 ^ (6 - d.length) : Nat) : Int) == 0) = false := by simpa using this
    rw [e, cond_false]
    rfl
end Go.AM
set_option linter.unusedVariables false
set_option linter.unusedSimpArgs false
namespace Go.AM
theorem rate_form (d : List UInt8) : rateR (48 :: 46 :: d) = if d = [] then numR 0 13 2 else if 0 ≤ badK isDig 0 d then numR 0 14 (2 + badK isDig 0 d) else if 6 < d.length then numR 0 12 8
    else if val d = 0 then numR 0 10 0 else numR ((val d * 10 ^ (6 - d.length) : Nat) : Int) 0 0 := by
  unfold rateR
  rw [if_neg (by simp), if_neg (by simp), if_neg (by simp), if_neg (by simp)]
  rfl
theorem rateText_form {k : Int} (hk : 1 ≤ k ∧ k < 1000000) : rateText k = (48 :: 46 :: trz (pad6 k.toNat), 0, ()) := by
  unfold rateText
  rw [if_neg (by omega), if_neg (by omega)]; rfl
theorem rate_ok {s : List UInt8} (h : (rateR s).2.1.1 = 0) : (rateR s).2.1.2.1 = 0 ∧ 1 ≤ (rateR s).1 ∧ (rateR s).1 ≤ 1000000 ∧ (rateText (rateR s).1).2.1 = 0 ∧
    ∃ a j, s = a ++ List.replicate j 48 ∧ (rateText (rateR s).1).1 = a ∧ a ≠ [] ∧ (∀ x, a.getLast? = some x → x ≠ 48) := by
  by_cases h1 : s = [49]
  · subst h1
    exact ⟨rfl, by decide, by decide, rfl, [49], 0, rfl, rfl, by simp, by simp⟩
  have e := h
  unfold rateR at e
  rw [if_neg h1] at e
  by_cases h2 : s = []
  · rw [if_pos h2] at e; cases e
  rw [if_neg h2] at e
  by_cases h3 : s.head? ≠ some 48
  · rw [if_pos h3] at e; cases e
  rw [if_neg h3] at e
  by_cases h4 : (s.drop 1).head? ≠ some 46
  · rw [if_pos h4] at e; cases e
  clear e
  obtain ⟨d, rfl⟩ : ∃ d, s = 48 :: 46 :: d := by
    cases s with
    | nil => exact absurd rfl h2
    | cons b r => cases r with
      | nil => simp at h4
      | cons c r =>
        simp at h3 h4
        exact ⟨r, by rw [h3, h4]⟩
  rw [rate_form] at h ⊢
  by_cases g1 : d = []
  · rw [if_pos g1] at h; cases h
  rw [if_neg g1] at h ⊢
  by_cases g2 : 0 ≤ badK isDig 0 d
  · rw [if_pos g2] at h; cases h
  rw [if_neg g2] at h ⊢
  by_cases g3 : 6 < d.length
  · rw [if_pos g3] at h; cases h
  rw [if_neg g3] at h ⊢
  by_cases g4 : val d = 0
  · rw [if_pos g4] at h; cases h
  rw [if_neg g4]
  have hd := digs_of_bad g2
  have hp : 0 < 10 ^ (6 - d.length) := Nat.pow_pos (by omega)
  have hpos := Nat.mul_pos (Nat.pos_of_ne_zero g4) hp
  have hub : val d * 10 ^ (6 - d.length) < 1000000 := by
    have h5 := val_lt (digs_append.2 ⟨hd, digs_rep (6 - d.length)⟩)
    rw [val_zeros_right, List.length_append, List.length_replicate, show d.length + (6 - d.length) = 6 from by omega] at h5
    exact h5
  have hk : 1 ≤ ((val d * 10 ^ (6 - d.length) : Nat) : Int) ∧ ((val d * 10 ^ (6 - d.length) : Nat) : Int) < 1000000 := by omega
  have hf := rateText_form hk
  obtain ⟨p1, p2, p3, p4⟩ := pad6_all hub
  have hpd : pad6 (val d * 10 ^ (6 - d.length)) = d ++ List.replicate (6 - d.length) 48 :=
    val_inj p3 (digs_append.2 ⟨hd, digs_rep _⟩) (by simp; omega) (by rw [p4, val_zeros_right])
  have ht : trz (pad6 (val d * 10 ^ (6 - d.length))) = trz d := by rw [hpd, trz_zeros]
  have hne : trz d ≠ [] := fun hh => g4 ((trz_nil hd).1 hh)
  show (0 : Int) = 0 ∧ _ ∧ _ ∧ (rateText ((val d * 10 ^ (6 - d.length) : Nat) : Int)).2.1 = 0 ∧ ∃ a j, _ ∧ (rateText ((val d * 10 ^ (6 - d.length) : Nat) : Int)).1 = a ∧ _
  rw [hf]
  refine ⟨rfl, hk.1, by show ((val d * 10 ^ (6 - d.length) : Nat) : Int) ≤ 1000000; omega, rfl, 48 :: 46 :: trz d, d.length - (trz d).length, ?_, ?_, by simp, ?_⟩
  · rw [List.cons_append, List.cons_append, ← trz_pad]
  · show 48 :: 46 :: trz (pad6 (val d * 10 ^ (6 - d.length))) = _
    rw [ht]
  · intro x hx
    refine trz_last (l := d) ?_
    rw [← hx]
    cases e : trz d with
    | nil => exact absurd e hne
    | cons b r => simp [List.getLast?_cons]
end Go.AM
set_option linter.unusedVariables false
set_option linter.unusedSimpArgs false
namespace Go.AM
def kindOf (s : List UInt8) : Int := if s = [99] then 1 else if s = [103] then 2 else if s = [109, 115] then 3 else if s = [104] then 4 else 0
def sdKindR (s : List UInt8) : Int × Int × Unit := if kindOf s = 0 then (0, 16, ()) else (kindOf s, 0, ())
theorem kind_step (n m : Nat) {X : Type} (k0 : Unit → Option X) (kr : Int → Int → Option X) (s : List UInt8) (v : Int) : F.statsd_Kind.L2 n k0 kr (m + 1) s v = F.statsd_Kind.L2.step n (F.statsd_Kind.L2 n k0 kr m) k0 kr s v := rfl
theorem kind_at (n : Nat) {X : Type} (rec : List UInt8 → Int → Option X) (k0 : Unit → Option X) (kr : Int → Int → Option X) (s : List UInt8) (v : Int) (h : v ≤ 5) (h1 : 1 ≤ v) : F.statsd_Kind.L2.step n rec k0 kr s v = if v ≤ 4 ∧ wordL v = s then kr v 0 else rec s (v + 1) := by
  unfold F.statsd_Kind.L2.step
  rw [bif_pos h]
  simp only [O.word, some_bind']
  rw [wrap_in (by omega)]
  by_cases h4 : v ≤ 4
  · have hE : wordE v = 0 := by unfold wordE; rw [if_pos (by omega)]
    rw [hE]
    by_cases hs : wordL v = s
    · rw [if_pos ⟨h4, hs⟩, hs]; simp
    · rw [if_neg (fun hh => hs hh.2), beq_eq_false_iff_ne.2 hs]; rfl
  · have hE : wordE v = 16 := by unfold wordE; rw [if_neg (by omega)]
    rw [hE, if_neg (fun hh => h4 hh.1)]; rfl
theorem sdKind_eq (n : Nat) (hn : 10 ≤ n) (s : List UInt8) : F.statsd_Kind n s = some (sdKindR s) := by
  unfold F.statsd_Kind
  obtain ⟨m, hm⟩ : ∃ q, n = q + 6 := ⟨n - 6, by omega⟩
  have key : ∀ (X : Type) (k0 : Unit → Option X) (kr : Int → Int → Option X), F.statsd_Kind.L2 n k0 kr (m + 6) s 1 = if kindOf s = 0 then k0 () else kr (kindOf s) 0 := by
    intro X k0 kr
    rw [kind_step n (m + 5), kind_at n _ _ _ _ _ (by omega) (by omega)]
    unfold kindOf
    have w1 : wordL 1 = [99] := rfl
    have w2 : wordL 2 = [103] := rfl
    have w3 : wordL 3 = [109, 115] := rfl
    have w4 : wordL 4 = [104] := rfl
    by_cases h1 : s = [99]
    · rw [if_pos ⟨by omega, by rw [h1]; rfl⟩, if_pos h1]; rfl
    rw [if_neg (fun h => h1 (by rw [← h.2]; rfl)), if_neg h1, kind_step n (m + 4), kind_at n _ _ _ _ _ (by omega) (by omega)]
    by_cases h2 : s = [103]
    · rw [if_pos ⟨by omega, by rw [h2]; rfl⟩, if_pos h2]; rfl
    rw [if_neg (fun h => h2 (by rw [← h.2]; rfl)), if_neg h2, kind_step n (m + 3), kind_at n _ _ _ _ _ (by omega) (by omega)]
    by_cases h3 : s = [109, 115]
    · rw [if_pos ⟨by omega, by rw [h3]; rfl⟩, if_pos h3]; rfl
    rw [if_neg (fun h => h3 (by rw [← h.2]; rfl)), if_neg h3, kind_step n (m + 2), kind_at n _ _ _ _ _ (by omega) (by omega)]
    by_cases h4 : s = [104]
    · rw [if_pos ⟨by omega, by rw [h4]; rfl⟩, if_pos h4]; rfl
    rw [if_neg (fun h => h4 (by rw [← h.2]; rfl)), if_neg h4, kind_step n (m + 1), kind_at n _ _ _ _ _ (by omega) (by omega), if_neg (fun h => by have := h.1; omega), kind_step n m]
    unfold F.statsd_Kind.L2.step
    rw [bif_neg (by omega)]
    rfl
  rw [← hm] at key
  rw [key]
  unfold sdKindR
  by_cases h : kindOf s = 0
  · rw [if_pos h, if_pos h]
  · rw [if_neg h, if_neg h]
end Go.AM
