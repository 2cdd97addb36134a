/- Part 3 of a proof by the abstract machine. -/
import Derived.Test.YtihjdbcmbpoifaaGreatDoorQ2
import Derived.Shelf.Strings.Builder1
import Derived.Shelf.Strings.Builder2
import Derived.Shelf.Strings.Trim
import Derived.Shelf.Small.Utf8
import Derived.Shelf.Small.Strs
import Derived.Shelf.Small.Wraps
import Derived.Shelf.Strings.BuilderF
import Derived.Shelf.Strconv.Itoa0
import Derived.Shelf.Strconv.Itoa1
import Derived.Shelf.LaysM
import Derived.Shelf.Strconv.Itoa2
import Derived.Shelf.Strconv.Itoa3
import Derived.Shelf.Strings.Search1
import Derived.Shelf.Strings.Search2
import Derived.Shelf.Strings.Cut
import Derived.Shelf.Strings.Shaped
import Derived.Shelf.Strings.Prefix
import Derived.Shelf.Strings.Runes
import Derived.Shelf.Strings.AsciiSet
import Derived.Shelf.Bits.Mul64
import Derived.Shelf.Strings.Repeat
import Derived.Shelf.Unicode.DecodeSlow
import Derived.Test.YtihjdbcmbpoifaaGreatDoorProg
import Derived.Lib.AppendIntMem
import Derived.Lib.ItoaMem
import Derived.Lib.Walk
import Derived.WalkKit
import Derived.BigCall
import Derived.BigGuard
import Derived.KernelRfl
set_option linter.unusedVariables false
namespace Go.AM
noncomputable def F.dec_times (n : Nat) (a0 : Int) (a1 : Int) : Option ((Int) × (Bool) × Unit) :=
  (O.mul64 n a0 (10 : Int)).bind fun y1 =>
    (O.add64 n y1.2.1 a1 (0 : Int)).bind fun y2 =>
      bif y1.1 == (0 : Int) then
        some ((y2.1, y2.2.1 == (0 : Int), ()))
      else
        some ((y2.1, false, ()))
noncomputable def F.dec_Normal.L3.step {X : Type} (n : Nat) (rec : Bool → Int → Int → Bool → Int → Int → Option X) (k0 : Bool → Int → Int → Bool → Int → Int → Option X) (vb0_0 : Bool) (vb0_1 : Int) (vb0_2 : Int) (vb1_0 : Bool) (vb1_1 : Int) (vb1_2 : Int) : Option X :=
  bif (vb0_1.tmod (10 : Int)) == (0 : Int) then
    bif decide (vb0_2 < (18 : Int)) then
      rec vb0_0 (IntKind.wrap .u64 (vb0_1.tdiv (10 : Int))) (IntKind.wrap .i64 (vb0_2 + (1 : Int))) vb1_0 vb1_1 vb1_2
    else
      k0 vb0_0 vb0_1 vb0_2 vb1_0 vb1_1 vb1_2
  else
    k0 vb0_0 vb0_1 vb0_2 vb1_0 vb1_1 vb1_2
noncomputable def F.dec_Normal.L3 {X : Type} (n : Nat) (k0 : Bool → Int → Int → Bool → Int → Int → Option X) : Nat → Bool → Int → Int → Bool → Int → Int → Option X
  | 0 => fun _ _ _ _ _ _ => none
  | m + 1 => fun vb0_0 vb0_1 vb0_2 vb1_0 vb1_1 vb1_2 => F.dec_Normal.L3.step n (F.dec_Normal.L3 n k0 m) k0 vb0_0 vb0_1 vb0_2 vb1_0 vb1_1 vb1_2
noncomputable def F.dec_Normal.L5.step {X : Type} (n : Nat) (rec : Bool → Int → Int → Bool → Int → Int → Option X) (k2 : Bool → Int → Int → Bool → Int → Int → Option X) (kr : Int → Bool → Int → Int → Bool → Int → Int → Option X) (vb0_0 : Bool) (vb0_1 : Int) (vb0_2 : Int) (vb1_0 : Bool) (vb1_1 : Int) (vb1_2 : Int) : Option X :=
  bif decide (vb0_2 > (18 : Int)) then
    (F.dec_times n vb0_1 (0 : Int)).bind fun y2 =>
      bif !y2.2.1 then
        kr (10 : Int) vb0_0 vb0_1 vb0_2 false (0 : Int) (0 : Int)
      else
        rec vb0_0 y2.1 (IntKind.wrap .i64 (vb0_2 - (1 : Int))) vb1_0 vb1_1 vb1_2
  else
    k2 vb0_0 vb0_1 vb0_2 vb1_0 vb1_1 vb1_2
noncomputable def F.dec_Normal.L5 {X : Type} (n : Nat) (k2 : Bool → Int → Int → Bool → Int → Int → Option X) (kr : Int → Bool → Int → Int → Bool → Int → Int → Option X) : Nat → Bool → Int → Int → Bool → Int → Int → Option X
  | 0 => fun _ _ _ _ _ _ => none
  | m + 1 => fun vb0_0 vb0_1 vb0_2 vb1_0 vb1_1 vb1_2 => F.dec_Normal.L5.step n (F.dec_Normal.L5 n k2 kr m) k2 kr vb0_0 vb0_1 vb0_2 vb1_0 vb1_1 vb1_2
noncomputable def F.dec_Normal (n : Nat) (a0 : (Bool) × (Int) × (Int) × Unit) : Option (((Bool) × (Int) × (Int) × Unit) × (Int) × Unit) :=
  bif a0.2.1 == (0 : Int) then
    some (((false, (0 : Int), (0 : Int), ()), (0 : Int), ()))
  else
    F.dec_Normal.L3 n
      (fun e1_b0_0 e1_b0_1 e1_b0_2 e1_b1_0 e1_b1_1 e1_b1_2 =>
        F.dec_Normal.L5 n
          (fun e3_b0_0 e3_b0_1 e3_b0_2 e3_b1_0 e3_b1_1 e3_b1_2 =>
            bif decide (e3_b0_2 < (-18 : Int)) then
              some (((false, (0 : Int), (0 : Int), ()), (10 : Int), ()))
            else
              some (((e3_b0_0, e3_b0_1, e3_b0_2, ()), (0 : Int), ())))
          (fun e4_3 e4_b0_0 e4_b0_1 e4_b0_2 e4_b1_0 e4_b1_1 e4_b1_2 =>
            some (((e4_b1_0, e4_b1_1, e4_b1_2, ()), e4_3, ()))) n e1_b0_0 e1_b0_1 e1_b0_2 e1_b1_0 e1_b1_1 e1_b1_2) n a0.1 a0.2.1 a0.2.2.1 false (0 : Int) (0 : Int)
noncomputable def F.dec_Check (n : Nat) (a0 : (Bool) × (Int) × (Int) × Unit) : Option (Int) :=
  bif !(a0.2.1 == (0 : Int)) then
    bif decide (a0.2.2.1 < (-18 : Int)) then
      some ((10 : Int))
    else
    bif decide (a0.2.2.1 > (18 : Int)) then
      some ((10 : Int))
    else
      (F.dec_Normal n (a0.1, a0.2.1, a0.2.2.1, ())).bind fun y1 =>
        bif !(y1.2.1 == (0 : Int)) then
          some ((21 : Int))
        else
        bif !((y1.1.1 == a0.1) && ((y1.1.2.1 == a0.2.1) && (y1.1.2.2.1 == a0.2.2.1))) then
          some ((21 : Int))
        else
          some ((0 : Int))
  else
    (F.dec_Normal n (a0.1, a0.2.1, a0.2.2.1, ())).bind fun y2 =>
      bif !(y2.2.1 == (0 : Int)) then
        some ((21 : Int))
      else
      bif !((y2.1.1 == a0.1) && ((y2.1.2.1 == a0.2.1) && (y2.1.2.2.1 == a0.2.2.1))) then
        some ((21 : Int))
      else
        some ((0 : Int))
noncomputable def F.dec_Text (n : Nat) (a0 : (Bool) × (Int) × (Int) × Unit) : Option ((List UInt8) × (Int) × Unit) :=
  (F.dec_Check n (a0.1, a0.2.1, a0.2.2.1, ())).bind fun y1 =>
    bif !(y1 == (0 : Int)) then
      some (([], y1, ()))
    else
      (O.futoa n a0.2.1 (10 : Int)).bind fun y2 =>
        bif decide (a0.2.2.1 ≥ (0 : Int)) then
          (O.repeat' n ([48]) a0.2.2.1).bind fun y3 =>
            bif decide (y2.length + y3.length ≤ strMax) then
              bif a0.1 then
                bif decide (1 + ((y2 ++ y3).length) ≤ strMax) then
                  some ((([45]) ++ (y2 ++ y3), (0 : Int), ()))
                else
                  none
              else
                some ((y2 ++ y3, (0 : Int), ()))
            else
              none
        else
          (O.repeat' n ([48]) (if (IntKind.wrap .i64 ((IntKind.wrap .i64 ((1 : Int) - a0.2.2.1)) - (y2.length : Int))) > (0 : Int) then (IntKind.wrap .i64 ((IntKind.wrap .i64 ((1 : Int) - a0.2.2.1)) - (y2.length : Int))) else (0 : Int))).bind fun y4 =>
            bif decide (y4.length + y2.length ≤ strMax) then
              (sub (y4 ++ y2) (0 : Int) (IntKind.wrap .i64 (((y4 ++ y2).length : Int) + a0.2.2.1))).bind fun x5 =>
                bif decide (x5.length + 1 ≤ strMax) then
                  (sub (y4 ++ y2) (IntKind.wrap .i64 (((y4 ++ y2).length : Int) + a0.2.2.1)) ((y4 ++ y2).length : Int)).bind fun x6 =>
                    bif decide (((x5 ++ ([46])).length) + x6.length ≤ strMax) then
                      bif a0.1 then
                        bif decide (1 + (((x5 ++ ([46])) ++ x6).length) ≤ strMax) then
                          some ((([45]) ++ ((x5 ++ ([46])) ++ x6), (0 : Int), ()))
                        else
                          none
                      else
                        some (((x5 ++ ([46])) ++ x6, (0 : Int), ()))
                    else
                      none
                else
                  none
            else
              none
noncomputable def F.num_RateText (n : Nat) (a0 : Int) : Option ((List UInt8) × (Int) × Unit) :=
  bif decide (a0 < (1 : Int)) then
    some (([], (10 : Int), ()))
  else
  bif decide (a0 > (1000000 : Int)) then
    some (([], (10 : Int), ()))
  else
  bif a0 == (1000000 : Int) then
    some (([49], (0 : Int), ()))
  else
    (O.itoa n (IntKind.wrap .i64 ((1000000 : Int) + a0))).bind fun y1 =>
      (sub y1 (1 : Int) (y1.length : Int)).bind fun x2 =>
        (O.trimR n x2 ([48])).bind fun y3 =>
          bif decide (2 + y3.length ≤ strMax) then
            some ((([48, 46]) ++ y3, (0 : Int), ()))
          else
            none
noncomputable def F.class_may (n : Nat) (a0 : Int) : Option (Bool) :=
  bif decide (a0 ≥ (1 : Int)) then
    some (decide (a0 ≤ (4 : Int)))
  else
    some (false)
noncomputable def F.class_between (n : Nat) (a0 : Int) (a1 : Int) (a2 : Int) : Option (Bool) :=
  bif decide (a0 ≥ a1) then
    some (decide (a0 ≤ a2))
  else
    some (false)
noncomputable def F.class_Is (n : Nat) (a0 : Int) (a1 : Int) : Option (Bool) :=
  bif a0 == (3 : Int) then
    (F.class_between n a1 (33 : Int) (126 : Int)).bind fun y1 =>
      bif y1 then
        bif !(a1 == (44 : Int)) then
          some (!(a1 == (124 : Int)))
        else
          some (false)
      else
        some (false)
  else
  bif a0 == (2 : Int) then
    bif a1 == (47 : Int) then
      some (true)
    else
      (F.class_between n a1 (65 : Int) (90 : Int)).bind fun y2 =>
        bif y2 then
          some (true)
        else
          (F.class_between n a1 (97 : Int) (122 : Int)).bind fun y3 =>
            bif y3 then
              some (true)
            else
            bif a1 == (95 : Int) then
              some (true)
            else
            bif a1 == (46 : Int) then
              some (true)
            else
            bif a1 == (45 : Int) then
              some (true)
            else
              (F.class_between n a1 (48 : Int) (57 : Int)).bind fun y4 =>
                some (y4)
  else
  bif a0 == (1 : Int) then
    (F.class_between n a1 (65 : Int) (90 : Int)).bind fun y5 =>
      bif y5 then
        some (true)
      else
        (F.class_between n a1 (97 : Int) (122 : Int)).bind fun y6 =>
          bif y6 then
            some (true)
          else
          bif a1 == (95 : Int) then
            some (true)
          else
          bif a1 == (46 : Int) then
            some (true)
          else
          bif a1 == (45 : Int) then
            some (true)
          else
            (F.class_between n a1 (48 : Int) (57 : Int)).bind fun y7 =>
              some (y7)
  else
  bif a0 == (4 : Int) then
    (F.class_between n a1 (48 : Int) (57 : Int)).bind fun y8 =>
      some (y8)
  else
    some (false)
noncomputable def F.class_Bad.L4.step {X : Type} (n : Nat) (rec : Int → (List UInt8) → Int → Int → Option X) (k0 : Unit → Option X) (kr : Int → Int → Option X) (v0 : Int) (v1 : List UInt8) (v11 : Int) (v12 : Int) : Option X :=
  bif decide (v12 < v11) then
    (idx v1 v12).bind fun x2 =>
      (F.class_Is n v0 ((x2).toNat)).bind fun y3 =>
        bif !y3 then
          kr v12 (0 : Int)
        else
          rec v0 v1 v11 (IntKind.wrap .i64 (v12 + (1 : Int)))
  else
    k0 ()
noncomputable def F.class_Bad.L4 {X : Type} (n : Nat) (k0 : Unit → Option X) (kr : Int → Int → Option X) : Nat → Int → (List UInt8) → Int → Int → Option X
  | 0 => fun _ _ _ _ => none
  | m + 1 => fun v0 v1 v11 v12 => F.class_Bad.L4.step n (F.class_Bad.L4 n k0 kr m) k0 kr v0 v1 v11 v12
noncomputable def F.class_Bad (n : Nat) (a0 : Int) (a1 : List UInt8) : Option ((Int) × (Int) × Unit) :=
  (F.class_may n a0).bind fun y1 =>
    bif !y1 then
      some (((0 : Int), (1 : Int), ()))
    else
      F.class_Bad.L4 n
        (fun (_ : Unit) =>
          some (((-1 : Int), (0 : Int), ())))
        (fun e5_4 e5_5 =>
          some ((e5_4, e5_5, ()))) n a0 a1 (a1.length : Int) (0 : Int)
noncomputable def F.class_Text (n : Nat) (a0 : Int) (a1 : List UInt8) (a2 : Int) (a3 : Int) : Option ((Int) × (Int) × Unit) :=
  (F.class_Bad n a0 a1).bind fun y1 =>
    bif !(y1.2.1 == (0 : Int)) then
      some (((1 : Int), (0 : Int), ()))
    else
    bif decide (a2 < (0 : Int)) then
      some (((1 : Int), (0 : Int), ()))
    else
    bif decide (a3 < a2) then
      some (((1 : Int), (0 : Int), ()))
    else
    bif decide ((a1.length : Int) < a2) then
      some (((13 : Int), (a1.length : Int), ()))
    else
    bif decide ((a1.length : Int) > a3) then
      some (((12 : Int), a3, ()))
    else
    bif decide (y1.1 ≥ (0 : Int)) then
      some (((14 : Int), y1.1, ()))
    else
      some (((0 : Int), (0 : Int), ()))
noncomputable def F.metric_look_name (n : Nat) (a0 : (List UInt8) × (Int) × (List ((Bool) × (Int) × (Int))) × (Int) × (List ((List UInt8) × (List UInt8))) × (Int) × Unit) : Option (Bool) :=
  (F.class_Text n (1 : Int) a0.1 (1 : Int) (200 : Int)).bind fun y1 =>
    some ((y1.1 == (0 : Int)) && (y1.2.1 == (0 : Int)))
noncomputable def F.metric_between (n : Nat) (a0 : Int) (a1 : Int) (a2 : Int) : Option (Bool) :=
  bif decide (a0 ≥ a1) then
    some (decide (a0 ≤ a2))
  else
    some (false)
noncomputable def F.metric_look_kind (n : Nat) (a0 : (List UInt8) × (Int) × (List ((Bool) × (Int) × (Int))) × (Int) × (List ((List UInt8) × (List UInt8))) × (Int) × Unit) : Option (Bool) :=
  (F.metric_between n a0.2.1 (1 : Int) (5 : Int)).bind fun y1 =>
    some (y1)
noncomputable def F.metric_look_values_1 (n : Nat) (a0 : (Bool) × (Int) × (Int) × Unit) : Option (Bool) :=
  (F.dec_Check n (a0.1, a0.2.1, a0.2.2.1, ())).bind fun y1 =>
    some (!(y1 == (0 : Int)))
noncomputable def F.metric_look_values.L2_slices_IndexFunc_api_Dec_api_Dec.step {X : Type} (n : Nat) (rec : (List ((Bool) × (Int) × (Int))) → Int → Int → (List UInt8) → Int → (List ((Bool) × (Int) × (Int))) → Int → (List ((List UInt8) × (List UInt8))) → Int → Option X) (k0 : (List UInt8) → Int → (List ((Bool) × (Int) × (Int))) → Int → (List ((List UInt8) × (List UInt8))) → Int → Option X) (kr : Int → (List UInt8) → Int → (List ((Bool) × (Int) × (Int))) → Int → (List ((List UInt8) × (List UInt8))) → Int → Option X) (v0 : List ((Bool) × (Int) × (Int))) (v7 : Int) (v8 : Int) (vb0_0 : List UInt8) (vb0_1 : Int) (vb0_2 : List ((Bool) × (Int) × (Int))) (vb0_3 : Int) (vb0_4 : List ((List UInt8) × (List UInt8))) (vb0_5 : Int) : Option X :=
  bif decide (v8 < v7) then
    (idx v0 v8).bind fun x2 =>
      (F.metric_look_values_1 n (x2.1, x2.2.1, x2.2.2, ())).bind fun y3 =>
        bif y3 then
          kr v8 vb0_0 vb0_1 vb0_2 vb0_3 vb0_4 vb0_5
        else
          rec v0 v7 (IntKind.wrap .i64 (v8 + (1 : Int))) vb0_0 vb0_1 vb0_2 vb0_3 vb0_4 vb0_5
  else
    k0 vb0_0 vb0_1 vb0_2 vb0_3 vb0_4 vb0_5
noncomputable def F.metric_look_values.L2_slices_IndexFunc_api_Dec_api_Dec {X : Type} (n : Nat) (k0 : (List UInt8) → Int → (List ((Bool) × (Int) × (Int))) → Int → (List ((List UInt8) × (List UInt8))) → Int → Option X) (kr : Int → (List UInt8) → Int → (List ((Bool) × (Int) × (Int))) → Int → (List ((List UInt8) × (List UInt8))) → Int → Option X) : Nat → (List ((Bool) × (Int) × (Int))) → Int → Int → (List UInt8) → Int → (List ((Bool) × (Int) × (Int))) → Int → (List ((List UInt8) × (List UInt8))) → Int → Option X
  | 0 => fun _ _ _ _ _ _ _ _ _ => none
  | m + 1 => fun v0 v7 v8 vb0_0 vb0_1 vb0_2 vb0_3 vb0_4 vb0_5 => F.metric_look_values.L2_slices_IndexFunc_api_Dec_api_Dec.step n (F.metric_look_values.L2_slices_IndexFunc_api_Dec_api_Dec n k0 kr m) k0 kr v0 v7 v8 vb0_0 vb0_1 vb0_2 vb0_3 vb0_4 vb0_5
noncomputable def F.metric_look_values (n : Nat) (a0 : (List UInt8) × (Int) × (List ((Bool) × (Int) × (Int))) × (Int) × (List ((List UInt8) × (List UInt8))) × (Int) × Unit) : Option (Bool) :=
  (F.metric_between n (a0.2.2.1.length : Int) (1 : Int) (64 : Int)).bind fun y1 =>
    bif y1 then
      F.metric_look_values.L2_slices_IndexFunc_api_Dec_api_Dec n
        (fun e4_b0_0 e4_b0_1 e4_b0_2 e4_b0_3 e4_b0_4 e4_b0_5 =>
          some (true))
        (fun e5_4 e5_b0_0 e5_b0_1 e5_b0_2 e5_b0_3 e5_b0_4 e5_b0_5 =>
          some (!(decide (e5_4 ≥ (0 : Int))))) n a0.2.2.1 (a0.2.2.1.length : Int) (0 : Int) a0.1 a0.2.1 a0.2.2.1 a0.2.2.2.1 a0.2.2.2.2.1 a0.2.2.2.2.2.1
    else
      some (false)
noncomputable def F.metric_look_rate (n : Nat) (a0 : (List UInt8) × (Int) × (List ((Bool) × (Int) × (Int))) × (Int) × (List ((List UInt8) × (List UInt8))) × (Int) × Unit) : Option (Bool) :=
  (F.metric_between n a0.2.2.2.1 (1 : Int) (1000000 : Int)).bind fun y1 =>
    bif y1 then
      bif !(a0.2.1 == (2 : Int)) then
        some (true)
      else
        some (a0.2.2.2.1 == (1000000 : Int))
    else
      some (false)
noncomputable def F.tag_Check (n : Nat) (a0 : (List UInt8) × (List UInt8) × Unit) : Option (Int) :=
  (F.class_Text n (2 : Int) a0.1 (1 : Int) (64 : Int)).bind fun y1 =>
    bif !((y1.1 == (0 : Int)) && (y1.2.1 == (0 : Int))) then
      some ((19 : Int))
    else
      (F.class_Text n (3 : Int) a0.2.1 (0 : Int) (100 : Int)).bind fun y2 =>
        bif !((y2.1 == (0 : Int)) && (y2.2.1 == (0 : Int))) then
          some ((19 : Int))
        else
          some ((0 : Int))
noncomputable def F.metric_look_tags_1 (n : Nat) (a0 : (List UInt8) × (List UInt8) × Unit) : Option (Bool) :=
  (F.tag_Check n (a0.1, a0.2.1, ())).bind fun y1 =>
    some (!(y1 == (0 : Int)))
noncomputable def F.metric_look_tags.L2_slices_IndexFunc_api_Tag_api_Tag.step {X : Type} (n : Nat) (rec : (List ((List UInt8) × (List UInt8))) → Int → Int → (List UInt8) → Int → (List ((Bool) × (Int) × (Int))) → Int → (List ((List UInt8) × (List UInt8))) → Int → Option X) (k0 : (List UInt8) → Int → (List ((Bool) × (Int) × (Int))) → Int → (List ((List UInt8) × (List UInt8))) → Int → Option X) (kr : Int → (List UInt8) → Int → (List ((Bool) × (Int) × (Int))) → Int → (List ((List UInt8) × (List UInt8))) → Int → Option X) (v0 : List ((List UInt8) × (List UInt8))) (v7 : Int) (v8 : Int) (vb0_0 : List UInt8) (vb0_1 : Int) (vb0_2 : List ((Bool) × (Int) × (Int))) (vb0_3 : Int) (vb0_4 : List ((List UInt8) × (List UInt8))) (vb0_5 : Int) : Option X :=
  bif decide (v8 < v7) then
    (idx v0 v8).bind fun x1 =>
      (F.metric_look_tags_1 n (x1.1, x1.2, ())).bind fun y2 =>
        bif y2 then
          kr v8 vb0_0 vb0_1 vb0_2 vb0_3 vb0_4 vb0_5
        else
          rec v0 v7 (IntKind.wrap .i64 (v8 + (1 : Int))) vb0_0 vb0_1 vb0_2 vb0_3 vb0_4 vb0_5
  else
    k0 vb0_0 vb0_1 vb0_2 vb0_3 vb0_4 vb0_5
noncomputable def F.metric_look_tags.L2_slices_IndexFunc_api_Tag_api_Tag {X : Type} (n : Nat) (k0 : (List UInt8) → Int → (List ((Bool) × (Int) × (Int))) → Int → (List ((List UInt8) × (List UInt8))) → Int → Option X) (kr : Int → (List UInt8) → Int → (List ((Bool) × (Int) × (Int))) → Int → (List ((List UInt8) × (List UInt8))) → Int → Option X) : Nat → (List ((List UInt8) × (List UInt8))) → Int → Int → (List UInt8) → Int → (List ((Bool) × (Int) × (Int))) → Int → (List ((List UInt8) × (List UInt8))) → Int → Option X
  | 0 => fun _ _ _ _ _ _ _ _ _ => none
  | m + 1 => fun v0 v7 v8 vb0_0 vb0_1 vb0_2 vb0_3 vb0_4 vb0_5 => F.metric_look_tags.L2_slices_IndexFunc_api_Tag_api_Tag.step n (F.metric_look_tags.L2_slices_IndexFunc_api_Tag_api_Tag n k0 kr m) k0 kr v0 v7 v8 vb0_0 vb0_1 vb0_2 vb0_3 vb0_4 vb0_5
noncomputable def F.metric_look_tags (n : Nat) (a0 : (List UInt8) × (Int) × (List ((Bool) × (Int) × (Int))) × (Int) × (List ((List UInt8) × (List UInt8))) × (Int) × Unit) : Option (Bool) :=
  bif decide ((a0.2.2.2.2.1.length : Int) ≤ (32 : Int)) then
    F.metric_look_tags.L2_slices_IndexFunc_api_Tag_api_Tag n
      (fun e3_b0_0 e3_b0_1 e3_b0_2 e3_b0_3 e3_b0_4 e3_b0_5 =>
        some (true))
      (fun e4_4 e4_b0_0 e4_b0_1 e4_b0_2 e4_b0_3 e4_b0_4 e4_b0_5 =>
        some (!(decide (e4_4 ≥ (0 : Int))))) n a0.2.2.2.2.1 (a0.2.2.2.2.1.length : Int) (0 : Int) a0.1 a0.2.1 a0.2.2.1 a0.2.2.2.1 a0.2.2.2.2.1 a0.2.2.2.2.2.1
  else
    some (false)
noncomputable def F.metric_look_time (n : Nat) (a0 : (List UInt8) × (Int) × (List ((Bool) × (Int) × (Int))) × (Int) × (List ((List UInt8) × (List UInt8))) × (Int) × Unit) : Option (Bool) :=
  (F.metric_between n a0.2.2.2.2.2.1 (0 : Int) (1099511627776 : Int)).bind fun y1 =>
    some (y1)
noncomputable def F.metric_Check.L3.step {X : Type} (n : Nat) (rec : (((((List UInt8) × (Int) × (List ((Bool) × (Int) × (Int))) × (Int) × (List ((List UInt8) × (List UInt8))) × (Int) × Unit) × Unit) × (Unit)) × (Int) × ((((List UInt8) × (Int) × (List ((Bool) × (Int) × (Int))) × (Int) × (List ((List UInt8) × (List UInt8))) × (Int) × Unit) × Unit) × (Unit)) × (Int) × ((((List UInt8) × (Int) × (List ((Bool) × (Int) × (Int))) × (Int) × (List ((List UInt8) × (List UInt8))) × (Int) × Unit) × Unit) × (Unit)) × (Int) × ((((List UInt8) × (Int) × (List ((Bool) × (Int) × (Int))) × (Int) × (List ((List UInt8) × (List UInt8))) × (Int) × Unit) × Unit) × (Unit)) × (Int) × ((((List UInt8) × (Int) × (List ((Bool) × (Int) × (Int))) × (Int) × (List ((List UInt8) × (List UInt8))) × (Int) × Unit) × Unit) × (Unit)) × (Int) × ((((List UInt8) × (Int) × (List ((Bool) × (Int) × (Int))) × (Int) × (List ((List UInt8) × (List UInt8))) × (Int) × Unit) × Unit) × (Unit)) × (Int) × Unit) → Int → (List UInt8) → Int → (List ((Bool) × (Int) × (Int))) → Int → (List ((List UInt8) × (List UInt8))) → Int → (List UInt8) → Int → (List ((Bool) × (Int) × (Int))) → Int → (List ((List UInt8) × (List UInt8))) → Int → Option X) (k0 : (List UInt8) → Int → (List ((Bool) × (Int) × (Int))) → Int → (List ((List UInt8) × (List UInt8))) → Int → (List UInt8) → Int → (List ((Bool) × (Int) × (Int))) → Int → (List ((List UInt8) × (List UInt8))) → Int → Option X) (kr : Int → (List UInt8) → Int → (List ((Bool) × (Int) × (Int))) → Int → (List ((List UInt8) × (List UInt8))) → Int → (List UInt8) → Int → (List ((Bool) × (Int) × (Int))) → Int → (List ((List UInt8) × (List UInt8))) → Int → Option X) (v26 : ((((List UInt8) × (Int) × (List ((Bool) × (Int) × (Int))) × (Int) × (List ((List UInt8) × (List UInt8))) × (Int) × Unit) × Unit) × (Unit)) × (Int) × ((((List UInt8) × (Int) × (List ((Bool) × (Int) × (Int))) × (Int) × (List ((List UInt8) × (List UInt8))) × (Int) × Unit) × Unit) × (Unit)) × (Int) × ((((List UInt8) × (Int) × (List ((Bool) × (Int) × (Int))) × (Int) × (List ((List UInt8) × (List UInt8))) × (Int) × Unit) × Unit) × (Unit)) × (Int) × ((((List UInt8) × (Int) × (List ((Bool) × (Int) × (Int))) × (Int) × (List ((List UInt8) × (List UInt8))) × (Int) × Unit) × Unit) × (Unit)) × (Int) × ((((List UInt8) × (Int) × (List ((Bool) × (Int) × (Int))) × (Int) × (List ((List UInt8) × (List UInt8))) × (Int) × Unit) × Unit) × (Unit)) × (Int) × ((((List UInt8) × (Int) × (List ((Bool) × (Int) × (Int))) × (Int) × (List ((List UInt8) × (List UInt8))) × (Int) × Unit) × Unit) × (Unit)) × (Int) × Unit) (v27 : Int) (vb0_0 : List UInt8) (vb0_1 : Int) (vb0_2 : List ((Bool) × (Int) × (Int))) (vb0_3 : Int) (vb0_4 : List ((List UInt8) × (List UInt8))) (vb0_5 : Int) (vb1_0 : List UInt8) (vb1_1 : Int) (vb1_2 : List ((Bool) × (Int) × (Int))) (vb1_3 : Int) (vb1_4 : List ((List UInt8) × (List UInt8))) (vb1_5 : Int) : Option X :=
  bif decide (v27 < (6 : Int)) then
    bif v27 == (0 : Int) then
      (F.metric_look_name n (v26.1.1.1.1, v26.1.1.1.2.1, v26.1.1.1.2.2.1, v26.1.1.1.2.2.2.1, v26.1.1.1.2.2.2.2.1, v26.1.1.1.2.2.2.2.2.1, ())).bind fun y1 =>
        bif !y1 then
          kr v26.2.1 vb0_0 vb0_1 vb0_2 vb0_3 vb0_4 vb0_5 vb1_0 vb1_1 vb1_2 vb1_3 vb1_4 vb1_5
        else
          rec ((((v26.1.1.1.1, v26.1.1.1.2.1, v26.1.1.1.2.2.1, v26.1.1.1.2.2.2.1, v26.1.1.1.2.2.2.2.1, v26.1.1.1.2.2.2.2.2.1, ()), ()), (())), v26.2.1, (((v26.2.2.1.1.1.1, v26.2.2.1.1.1.2.1, v26.2.2.1.1.1.2.2.1, v26.2.2.1.1.1.2.2.2.1, v26.2.2.1.1.1.2.2.2.2.1, v26.2.2.1.1.1.2.2.2.2.2.1, ()), ()), (())), v26.2.2.2.1, (((v26.2.2.2.2.1.1.1.1, v26.2.2.2.2.1.1.1.2.1, v26.2.2.2.2.1.1.1.2.2.1, v26.2.2.2.2.1.1.1.2.2.2.1, v26.2.2.2.2.1.1.1.2.2.2.2.1, v26.2.2.2.2.1.1.1.2.2.2.2.2.1, ()), ()), (())), v26.2.2.2.2.2.1, (((v26.2.2.2.2.2.2.1.1.1.1, v26.2.2.2.2.2.2.1.1.1.2.1, v26.2.2.2.2.2.2.1.1.1.2.2.1, v26.2.2.2.2.2.2.1.1.1.2.2.2.1, v26.2.2.2.2.2.2.1.1.1.2.2.2.2.1, v26.2.2.2.2.2.2.1.1.1.2.2.2.2.2.1, ()), ()), (())), v26.2.2.2.2.2.2.2.1, (((v26.2.2.2.2.2.2.2.2.1.1.1.1, v26.2.2.2.2.2.2.2.2.1.1.1.2.1, v26.2.2.2.2.2.2.2.2.1.1.1.2.2.1, v26.2.2.2.2.2.2.2.2.1.1.1.2.2.2.1, v26.2.2.2.2.2.2.2.2.1.1.1.2.2.2.2.1, v26.2.2.2.2.2.2.2.2.1.1.1.2.2.2.2.2.1, ()), ()), (())), v26.2.2.2.2.2.2.2.2.2.1, (((v26.2.2.2.2.2.2.2.2.2.2.1.1.1.1, v26.2.2.2.2.2.2.2.2.2.2.1.1.1.2.1, v26.2.2.2.2.2.2.2.2.2.2.1.1.1.2.2.1, v26.2.2.2.2.2.2.2.2.2.2.1.1.1.2.2.2.1, v26.2.2.2.2.2.2.2.2.2.2.1.1.1.2.2.2.2.1, v26.2.2.2.2.2.2.2.2.2.2.1.1.1.2.2.2.2.2.1, ()), ()), (())), v26.2.2.2.2.2.2.2.2.2.2.2.1, ()) (IntKind.wrap .i64 (v27 + (1 : Int))) vb0_0 vb0_1 vb0_2 vb0_3 vb0_4 vb0_5 vb1_0 vb1_1 vb1_2 vb1_3 vb1_4 vb1_5
    else
    bif v27 == (1 : Int) then
      (F.metric_look_kind n (v26.2.2.1.1.1.1, v26.2.2.1.1.1.2.1, v26.2.2.1.1.1.2.2.1, v26.2.2.1.1.1.2.2.2.1, v26.2.2.1.1.1.2.2.2.2.1, v26.2.2.1.1.1.2.2.2.2.2.1, ())).bind fun y2 =>
        bif !y2 then
          kr v26.2.2.2.1 vb0_0 vb0_1 vb0_2 vb0_3 vb0_4 vb0_5 vb1_0 vb1_1 vb1_2 vb1_3 vb1_4 vb1_5
        else
          rec ((((v26.1.1.1.1, v26.1.1.1.2.1, v26.1.1.1.2.2.1, v26.1.1.1.2.2.2.1, v26.1.1.1.2.2.2.2.1, v26.1.1.1.2.2.2.2.2.1, ()), ()), (())), v26.2.1, (((v26.2.2.1.1.1.1, v26.2.2.1.1.1.2.1, v26.2.2.1.1.1.2.2.1, v26.2.2.1.1.1.2.2.2.1, v26.2.2.1.1.1.2.2.2.2.1, v26.2.2.1.1.1.2.2.2.2.2.1, ()), ()), (())), v26.2.2.2.1, (((v26.2.2.2.2.1.1.1.1, v26.2.2.2.2.1.1.1.2.1, v26.2.2.2.2.1.1.1.2.2.1, v26.2.2.2.2.1.1.1.2.2.2.1, v26.2.2.2.2.1.1.1.2.2.2.2.1, v26.2.2.2.2.1.1.1.2.2.2.2.2.1, ()), ()), (())), v26.2.2.2.2.2.1, (((v26.2.2.2.2.2.2.1.1.1.1, v26.2.2.2.2.2.2.1.1.1.2.1, v26.2.2.2.2.2.2.1.1.1.2.2.1, v26.2.2.2.2.2.2.1.1.1.2.2.2.1, v26.2.2.2.2.2.2.1.1.1.2.2.2.2.1, v26.2.2.2.2.2.2.1.1.1.2.2.2.2.2.1, ()), ()), (())), v26.2.2.2.2.2.2.2.1, (((v26.2.2.2.2.2.2.2.2.1.1.1.1, v26.2.2.2.2.2.2.2.2.1.1.1.2.1, v26.2.2.2.2.2.2.2.2.1.1.1.2.2.1, v26.2.2.2.2.2.2.2.2.1.1.1.2.2.2.1, v26.2.2.2.2.2.2.2.2.1.1.1.2.2.2.2.1, v26.2.2.2.2.2.2.2.2.1.1.1.2.2.2.2.2.1, ()), ()), (())), v26.2.2.2.2.2.2.2.2.2.1, (((v26.2.2.2.2.2.2.2.2.2.2.1.1.1.1, v26.2.2.2.2.2.2.2.2.2.2.1.1.1.2.1, v26.2.2.2.2.2.2.2.2.2.2.1.1.1.2.2.1, v26.2.2.2.2.2.2.2.2.2.2.1.1.1.2.2.2.1, v26.2.2.2.2.2.2.2.2.2.2.1.1.1.2.2.2.2.1, v26.2.2.2.2.2.2.2.2.2.2.1.1.1.2.2.2.2.2.1, ()), ()), (())), v26.2.2.2.2.2.2.2.2.2.2.2.1, ()) (IntKind.wrap .i64 (v27 + (1 : Int))) vb0_0 vb0_1 vb0_2 vb0_3 vb0_4 vb0_5 vb1_0 vb1_1 vb1_2 vb1_3 vb1_4 vb1_5
    else
    bif v27 == (2 : Int) then
      (F.metric_look_values n (v26.2.2.2.2.1.1.1.1, v26.2.2.2.2.1.1.1.2.1, v26.2.2.2.2.1.1.1.2.2.1, v26.2.2.2.2.1.1.1.2.2.2.1, v26.2.2.2.2.1.1.1.2.2.2.2.1, v26.2.2.2.2.1.1.1.2.2.2.2.2.1, ())).bind fun y3 =>
        bif !y3 then
          kr v26.2.2.2.2.2.1 vb0_0 vb0_1 vb0_2 vb0_3 vb0_4 vb0_5 vb1_0 vb1_1 vb1_2 vb1_3 vb1_4 vb1_5
        else
          rec ((((v26.1.1.1.1, v26.1.1.1.2.1, v26.1.1.1.2.2.1, v26.1.1.1.2.2.2.1, v26.1.1.1.2.2.2.2.1, v26.1.1.1.2.2.2.2.2.1, ()), ()), (())), v26.2.1, (((v26.2.2.1.1.1.1, v26.2.2.1.1.1.2.1, v26.2.2.1.1.1.2.2.1, v26.2.2.1.1.1.2.2.2.1, v26.2.2.1.1.1.2.2.2.2.1, v26.2.2.1.1.1.2.2.2.2.2.1, ()), ()), (())), v26.2.2.2.1, (((v26.2.2.2.2.1.1.1.1, v26.2.2.2.2.1.1.1.2.1, v26.2.2.2.2.1.1.1.2.2.1, v26.2.2.2.2.1.1.1.2.2.2.1, v26.2.2.2.2.1.1.1.2.2.2.2.1, v26.2.2.2.2.1.1.1.2.2.2.2.2.1, ()), ()), (())), v26.2.2.2.2.2.1, (((v26.2.2.2.2.2.2.1.1.1.1, v26.2.2.2.2.2.2.1.1.1.2.1, v26.2.2.2.2.2.2.1.1.1.2.2.1, v26.2.2.2.2.2.2.1.1.1.2.2.2.1, v26.2.2.2.2.2.2.1.1.1.2.2.2.2.1, v26.2.2.2.2.2.2.1.1.1.2.2.2.2.2.1, ()), ()), (())), v26.2.2.2.2.2.2.2.1, (((v26.2.2.2.2.2.2.2.2.1.1.1.1, v26.2.2.2.2.2.2.2.2.1.1.1.2.1, v26.2.2.2.2.2.2.2.2.1.1.1.2.2.1, v26.2.2.2.2.2.2.2.2.1.1.1.2.2.2.1, v26.2.2.2.2.2.2.2.2.1.1.1.2.2.2.2.1, v26.2.2.2.2.2.2.2.2.1.1.1.2.2.2.2.2.1, ()), ()), (())), v26.2.2.2.2.2.2.2.2.2.1, (((v26.2.2.2.2.2.2.2.2.2.2.1.1.1.1, v26.2.2.2.2.2.2.2.2.2.2.1.1.1.2.1, v26.2.2.2.2.2.2.2.2.2.2.1.1.1.2.2.1, v26.2.2.2.2.2.2.2.2.2.2.1.1.1.2.2.2.1, v26.2.2.2.2.2.2.2.2.2.2.1.1.1.2.2.2.2.1, v26.2.2.2.2.2.2.2.2.2.2.1.1.1.2.2.2.2.2.1, ()), ()), (())), v26.2.2.2.2.2.2.2.2.2.2.2.1, ()) (IntKind.wrap .i64 (v27 + (1 : Int))) vb0_0 vb0_1 vb0_2 vb0_3 vb0_4 vb0_5 vb1_0 vb1_1 vb1_2 vb1_3 vb1_4 vb1_5
    else
    bif v27 == (3 : Int) then
      (F.metric_look_rate n (v26.2.2.2.2.2.2.1.1.1.1, v26.2.2.2.2.2.2.1.1.1.2.1, v26.2.2.2.2.2.2.1.1.1.2.2.1, v26.2.2.2.2.2.2.1.1.1.2.2.2.1, v26.2.2.2.2.2.2.1.1.1.2.2.2.2.1, v26.2.2.2.2.2.2.1.1.1.2.2.2.2.2.1, ())).bind fun y4 =>
        bif !y4 then
          kr v26.2.2.2.2.2.2.2.1 vb0_0 vb0_1 vb0_2 vb0_3 vb0_4 vb0_5 vb1_0 vb1_1 vb1_2 vb1_3 vb1_4 vb1_5
        else
          rec ((((v26.1.1.1.1, v26.1.1.1.2.1, v26.1.1.1.2.2.1, v26.1.1.1.2.2.2.1, v26.1.1.1.2.2.2.2.1, v26.1.1.1.2.2.2.2.2.1, ()), ()), (())), v26.2.1, (((v26.2.2.1.1.1.1, v26.2.2.1.1.1.2.1, v26.2.2.1.1.1.2.2.1, v26.2.2.1.1.1.2.2.2.1, v26.2.2.1.1.1.2.2.2.2.1, v26.2.2.1.1.1.2.2.2.2.2.1, ()), ()), (())), v26.2.2.2.1, (((v26.2.2.2.2.1.1.1.1, v26.2.2.2.2.1.1.1.2.1, v26.2.2.2.2.1.1.1.2.2.1, v26.2.2.2.2.1.1.1.2.2.2.1, v26.2.2.2.2.1.1.1.2.2.2.2.1, v26.2.2.2.2.1.1.1.2.2.2.2.2.1, ()), ()), (())), v26.2.2.2.2.2.1, (((v26.2.2.2.2.2.2.1.1.1.1, v26.2.2.2.2.2.2.1.1.1.2.1, v26.2.2.2.2.2.2.1.1.1.2.2.1, v26.2.2.2.2.2.2.1.1.1.2.2.2.1, v26.2.2.2.2.2.2.1.1.1.2.2.2.2.1, v26.2.2.2.2.2.2.1.1.1.2.2.2.2.2.1, ()), ()), (())), v26.2.2.2.2.2.2.2.1, (((v26.2.2.2.2.2.2.2.2.1.1.1.1, v26.2.2.2.2.2.2.2.2.1.1.1.2.1, v26.2.2.2.2.2.2.2.2.1.1.1.2.2.1, v26.2.2.2.2.2.2.2.2.1.1.1.2.2.2.1, v26.2.2.2.2.2.2.2.2.1.1.1.2.2.2.2.1, v26.2.2.2.2.2.2.2.2.1.1.1.2.2.2.2.2.1, ()), ()), (())), v26.2.2.2.2.2.2.2.2.2.1, (((v26.2.2.2.2.2.2.2.2.2.2.1.1.1.1, v26.2.2.2.2.2.2.2.2.2.2.1.1.1.2.1, v26.2.2.2.2.2.2.2.2.2.2.1.1.1.2.2.1, v26.2.2.2.2.2.2.2.2.2.2.1.1.1.2.2.2.1, v26.2.2.2.2.2.2.2.2.2.2.1.1.1.2.2.2.2.1, v26.2.2.2.2.2.2.2.2.2.2.1.1.1.2.2.2.2.2.1, ()), ()), (())), v26.2.2.2.2.2.2.2.2.2.2.2.1, ()) (IntKind.wrap .i64 (v27 + (1 : Int))) vb0_0 vb0_1 vb0_2 vb0_3 vb0_4 vb0_5 vb1_0 vb1_1 vb1_2 vb1_3 vb1_4 vb1_5
    else
    bif v27 == (4 : Int) then
      (F.metric_look_tags n (v26.2.2.2.2.2.2.2.2.1.1.1.1, v26.2.2.2.2.2.2.2.2.1.1.1.2.1, v26.2.2.2.2.2.2.2.2.1.1.1.2.2.1, v26.2.2.2.2.2.2.2.2.1.1.1.2.2.2.1, v26.2.2.2.2.2.2.2.2.1.1.1.2.2.2.2.1, v26.2.2.2.2.2.2.2.2.1.1.1.2.2.2.2.2.1, ())).bind fun y5 =>
        bif !y5 then
          kr v26.2.2.2.2.2.2.2.2.2.1 vb0_0 vb0_1 vb0_2 vb0_3 vb0_4 vb0_5 vb1_0 vb1_1 vb1_2 vb1_3 vb1_4 vb1_5
        else
          rec ((((v26.1.1.1.1, v26.1.1.1.2.1, v26.1.1.1.2.2.1, v26.1.1.1.2.2.2.1, v26.1.1.1.2.2.2.2.1, v26.1.1.1.2.2.2.2.2.1, ()), ()), (())), v26.2.1, (((v26.2.2.1.1.1.1, v26.2.2.1.1.1.2.1, v26.2.2.1.1.1.2.2.1, v26.2.2.1.1.1.2.2.2.1, v26.2.2.1.1.1.2.2.2.2.1, v26.2.2.1.1.1.2.2.2.2.2.1, ()), ()), (())), v26.2.2.2.1, (((v26.2.2.2.2.1.1.1.1, v26.2.2.2.2.1.1.1.2.1, v26.2.2.2.2.1.1.1.2.2.1, v26.2.2.2.2.1.1.1.2.2.2.1, v26.2.2.2.2.1.1.1.2.2.2.2.1, v26.2.2.2.2.1.1.1.2.2.2.2.2.1, ()), ()), (())), v26.2.2.2.2.2.1, (((v26.2.2.2.2.2.2.1.1.1.1, v26.2.2.2.2.2.2.1.1.1.2.1, v26.2.2.2.2.2.2.1.1.1.2.2.1, v26.2.2.2.2.2.2.1.1.1.2.2.2.1, v26.2.2.2.2.2.2.1.1.1.2.2.2.2.1, v26.2.2.2.2.2.2.1.1.1.2.2.2.2.2.1, ()), ()), (())), v26.2.2.2.2.2.2.2.1, (((v26.2.2.2.2.2.2.2.2.1.1.1.1, v26.2.2.2.2.2.2.2.2.1.1.1.2.1, v26.2.2.2.2.2.2.2.2.1.1.1.2.2.1, v26.2.2.2.2.2.2.2.2.1.1.1.2.2.2.1, v26.2.2.2.2.2.2.2.2.1.1.1.2.2.2.2.1, v26.2.2.2.2.2.2.2.2.1.1.1.2.2.2.2.2.1, ()), ()), (())), v26.2.2.2.2.2.2.2.2.2.1, (((v26.2.2.2.2.2.2.2.2.2.2.1.1.1.1, v26.2.2.2.2.2.2.2.2.2.2.1.1.1.2.1, v26.2.2.2.2.2.2.2.2.2.2.1.1.1.2.2.1, v26.2.2.2.2.2.2.2.2.2.2.1.1.1.2.2.2.1, v26.2.2.2.2.2.2.2.2.2.2.1.1.1.2.2.2.2.1, v26.2.2.2.2.2.2.2.2.2.2.1.1.1.2.2.2.2.2.1, ()), ()), (())), v26.2.2.2.2.2.2.2.2.2.2.2.1, ()) (IntKind.wrap .i64 (v27 + (1 : Int))) vb0_0 vb0_1 vb0_2 vb0_3 vb0_4 vb0_5 vb1_0 vb1_1 vb1_2 vb1_3 vb1_4 vb1_5
    else
    bif v27 == (5 : Int) then
      (F.metric_look_time n (v26.2.2.2.2.2.2.2.2.2.2.1.1.1.1, v26.2.2.2.2.2.2.2.2.2.2.1.1.1.2.1, v26.2.2.2.2.2.2.2.2.2.2.1.1.1.2.2.1, v26.2.2.2.2.2.2.2.2.2.2.1.1.1.2.2.2.1, v26.2.2.2.2.2.2.2.2.2.2.1.1.1.2.2.2.2.1, v26.2.2.2.2.2.2.2.2.2.2.1.1.1.2.2.2.2.2.1, ())).bind fun y6 =>
        bif !y6 then
          kr v26.2.2.2.2.2.2.2.2.2.2.2.1 vb0_0 vb0_1 vb0_2 vb0_3 vb0_4 vb0_5 vb1_0 vb1_1 vb1_2 vb1_3 vb1_4 vb1_5
        else
          rec ((((v26.1.1.1.1, v26.1.1.1.2.1, v26.1.1.1.2.2.1, v26.1.1.1.2.2.2.1, v26.1.1.1.2.2.2.2.1, v26.1.1.1.2.2.2.2.2.1, ()), ()), (())), v26.2.1, (((v26.2.2.1.1.1.1, v26.2.2.1.1.1.2.1, v26.2.2.1.1.1.2.2.1, v26.2.2.1.1.1.2.2.2.1, v26.2.2.1.1.1.2.2.2.2.1, v26.2.2.1.1.1.2.2.2.2.2.1, ()), ()), (())), v26.2.2.2.1, (((v26.2.2.2.2.1.1.1.1, v26.2.2.2.2.1.1.1.2.1, v26.2.2.2.2.1.1.1.2.2.1, v26.2.2.2.2.1.1.1.2.2.2.1, v26.2.2.2.2.1.1.1.2.2.2.2.1, v26.2.2.2.2.1.1.1.2.2.2.2.2.1, ()), ()), (())), v26.2.2.2.2.2.1, (((v26.2.2.2.2.2.2.1.1.1.1, v26.2.2.2.2.2.2.1.1.1.2.1, v26.2.2.2.2.2.2.1.1.1.2.2.1, v26.2.2.2.2.2.2.1.1.1.2.2.2.1, v26.2.2.2.2.2.2.1.1.1.2.2.2.2.1, v26.2.2.2.2.2.2.1.1.1.2.2.2.2.2.1, ()), ()), (())), v26.2.2.2.2.2.2.2.1, (((v26.2.2.2.2.2.2.2.2.1.1.1.1, v26.2.2.2.2.2.2.2.2.1.1.1.2.1, v26.2.2.2.2.2.2.2.2.1.1.1.2.2.1, v26.2.2.2.2.2.2.2.2.1.1.1.2.2.2.1, v26.2.2.2.2.2.2.2.2.1.1.1.2.2.2.2.1, v26.2.2.2.2.2.2.2.2.1.1.1.2.2.2.2.2.1, ()), ()), (())), v26.2.2.2.2.2.2.2.2.2.1, (((v26.2.2.2.2.2.2.2.2.2.2.1.1.1.1, v26.2.2.2.2.2.2.2.2.2.2.1.1.1.2.1, v26.2.2.2.2.2.2.2.2.2.2.1.1.1.2.2.1, v26.2.2.2.2.2.2.2.2.2.2.1.1.1.2.2.2.1, v26.2.2.2.2.2.2.2.2.2.2.1.1.1.2.2.2.2.1, v26.2.2.2.2.2.2.2.2.2.2.1.1.1.2.2.2.2.2.1, ()), ()), (())), v26.2.2.2.2.2.2.2.2.2.2.2.1, ()) (IntKind.wrap .i64 (v27 + (1 : Int))) vb0_0 vb0_1 vb0_2 vb0_3 vb0_4 vb0_5 vb1_0 vb1_1 vb1_2 vb1_3 vb1_4 vb1_5
    else
      none
  else
    k0 vb0_0 vb0_1 vb0_2 vb0_3 vb0_4 vb0_5 vb1_0 vb1_1 vb1_2 vb1_3 vb1_4 vb1_5
noncomputable def F.metric_Check.L3 {X : Type} (n : Nat) (k0 : (List UInt8) → Int → (List ((Bool) × (Int) × (Int))) → Int → (List ((List UInt8) × (List UInt8))) → Int → (List UInt8) → Int → (List ((Bool) × (Int) × (Int))) → Int → (List ((List UInt8) × (List UInt8))) → Int → Option X) (kr : Int → (List UInt8) → Int → (List ((Bool) × (Int) × (Int))) → Int → (List ((List UInt8) × (List UInt8))) → Int → (List UInt8) → Int → (List ((Bool) × (Int) × (Int))) → Int → (List ((List UInt8) × (List UInt8))) → Int → Option X) : Nat → (((((List UInt8) × (Int) × (List ((Bool) × (Int) × (Int))) × (Int) × (List ((List UInt8) × (List UInt8))) × (Int) × Unit) × Unit) × (Unit)) × (Int) × ((((List UInt8) × (Int) × (List ((Bool) × (Int) × (Int))) × (Int) × (List ((List UInt8) × (List UInt8))) × (Int) × Unit) × Unit) × (Unit)) × (Int) × ((((List UInt8) × (Int) × (List ((Bool) × (Int) × (Int))) × (Int) × (List ((List UInt8) × (List UInt8))) × (Int) × Unit) × Unit) × (Unit)) × (Int) × ((((List UInt8) × (Int) × (List ((Bool) × (Int) × (Int))) × (Int) × (List ((List UInt8) × (List UInt8))) × (Int) × Unit) × Unit) × (Unit)) × (Int) × ((((List UInt8) × (Int) × (List ((Bool) × (Int) × (Int))) × (Int) × (List ((List UInt8) × (List UInt8))) × (Int) × Unit) × Unit) × (Unit)) × (Int) × ((((List UInt8) × (Int) × (List ((Bool) × (Int) × (Int))) × (Int) × (List ((List UInt8) × (List UInt8))) × (Int) × Unit) × Unit) × (Unit)) × (Int) × Unit) → Int → (List UInt8) → Int → (List ((Bool) × (Int) × (Int))) → Int → (List ((List UInt8) × (List UInt8))) → Int → (List UInt8) → Int → (List ((Bool) × (Int) × (Int))) → Int → (List ((List UInt8) × (List UInt8))) → Int → Option X
  | 0 => fun _ _ _ _ _ _ _ _ _ _ _ _ _ _ => none
  | m + 1 => fun v26 v27 vb0_0 vb0_1 vb0_2 vb0_3 vb0_4 vb0_5 vb1_0 vb1_1 vb1_2 vb1_3 vb1_4 vb1_5 => F.metric_Check.L3.step n (F.metric_Check.L3 n k0 kr m) k0 kr v26 v27 vb0_0 vb0_1 vb0_2 vb0_3 vb0_4 vb0_5 vb1_0 vb1_1 vb1_2 vb1_3 vb1_4 vb1_5
noncomputable def F.metric_Check (n : Nat) (a0 : (List UInt8) × (Int) × (List ((Bool) × (Int) × (Int))) × (Int) × (List ((List UInt8) × (List UInt8))) × (Int) × Unit) : Option (Int) :=
  F.metric_Check.L3 n
    (fun e7_b0_0 e7_b0_1 e7_b0_2 e7_b0_3 e7_b0_4 e7_b0_5 e7_b1_0 e7_b1_1 e7_b1_2 e7_b1_3 e7_b1_4 e7_b1_5 =>
      some ((0 : Int)))
    (fun e8_2 e8_b0_0 e8_b0_1 e8_b0_2 e8_b0_3 e8_b0_4 e8_b0_5 e8_b1_0 e8_b1_1 e8_b1_2 e8_b1_3 e8_b1_4 e8_b1_5 =>
      some (e8_2)) n ((((a0.1, a0.2.1, a0.2.2.1, a0.2.2.2.1, a0.2.2.2.2.1, a0.2.2.2.2.2.1, ()), ()), (())), (15 : Int), (((a0.1, a0.2.1, a0.2.2.1, a0.2.2.2.1, a0.2.2.2.2.1, a0.2.2.2.2.2.1, ()), ()), (())), (16 : Int), (((a0.1, a0.2.1, a0.2.2.1, a0.2.2.2.1, a0.2.2.2.2.1, a0.2.2.2.2.2.1, ()), ()), (())), (17 : Int), (((a0.1, a0.2.1, a0.2.2.1, a0.2.2.2.1, a0.2.2.2.2.1, a0.2.2.2.2.2.1, ()), ()), (())), (18 : Int), (((a0.1, a0.2.1, a0.2.2.1, a0.2.2.2.1, a0.2.2.2.2.1, a0.2.2.2.2.2.1, ()), ()), (())), (19 : Int), (((a0.1, a0.2.1, a0.2.2.1, a0.2.2.2.1, a0.2.2.2.2.1, a0.2.2.2.2.2.1, ()), ()), (())), (20 : Int), ()) (0 : Int) a0.1 a0.2.1 a0.2.2.1 a0.2.2.2.1 a0.2.2.2.2.1 a0.2.2.2.2.2.1 a0.1 a0.2.1 a0.2.2.1 a0.2.2.2.1 a0.2.2.2.2.1 a0.2.2.2.2.2.1
noncomputable def F.expr_said_bare (n : Nat) (a0 : (List UInt8) × (Int) × (List ((Bool) × (Int) × (Int))) × (Int) × (List ((List UInt8) × (List UInt8))) × (Int) × Unit) : Option (Bool) :=
  bif (a0.2.2.1.length : Int) == (1 : Int) then
    some ((a0.2.2.2.2.1.length : Int) == (0 : Int))
  else
    some (false)
noncomputable def F.expr_said_statsd (n : Nat) (a0 : (List UInt8) × (Int) × (List ((Bool) × (Int) × (Int))) × (Int) × (List ((List UInt8) × (List UInt8))) × (Int) × Unit) : Option (Bool) :=
  (F.expr_said_bare n (a0.1, a0.2.1, a0.2.2.1, a0.2.2.2.1, a0.2.2.2.2.1, a0.2.2.2.2.2.1, ())).bind fun y1 =>
    bif !y1 then
      some (false)
    else
    bif !(a0.2.2.2.2.2.1 == (0 : Int)) then
      some (false)
    else
    bif a0.2.1 == (5 : Int) then
      some (false)
    else
    bif !(a0.2.1 == (2 : Int)) then
      some (true)
    else
      (idx a0.2.2.1 (0 : Int)).bind fun x2 =>
        some (!x2.1)
noncomputable def F.expr_said_any (n : Nat) (a0 : (List UInt8) × (Int) × (List ((Bool) × (Int) × (Int))) × (Int) × (List ((List UInt8) × (List UInt8))) × (Int) × Unit) : Option (Bool) :=
  some (true)
noncomputable def F.expr_said_graphite (n : Nat) (a0 : (List UInt8) × (Int) × (List ((Bool) × (Int) × (Int))) × (Int) × (List ((List UInt8) × (List UInt8))) × (Int) × Unit) : Option (Bool) :=
  (F.expr_said_bare n (a0.1, a0.2.1, a0.2.2.1, a0.2.2.2.1, a0.2.2.2.2.1, a0.2.2.2.2.2.1, ())).bind fun y1 =>
    bif y1 then
      bif !(a0.2.2.2.2.2.1 == (0 : Int)) then
        some (a0.2.1 == (2 : Int))
      else
        some (false)
    else
      some (false)
noncomputable def F.expr_Metric (n : Nat) (a0 : (List UInt8) × (Int) × (List ((Bool) × (Int) × (Int))) × (Int) × (List ((List UInt8) × (List UInt8))) × (Int) × Unit) (a1 : Int) : Option (Int) :=
  bif a1 == 1 || (a1 == 2 || (a1 == 3 || a1 == 4)) then
    (F.metric_Check n a0).bind fun y1 =>
      bif !(y1 == 0) then some y1 else
        (if a1 = 1 then F.expr_said_statsd n a0 else if a1 = 3 then F.expr_said_graphite n a0 else F.expr_said_any n a0).bind fun y2 => bif y2 then some 0 else some 26
  else some 29
noncomputable def F.statsd_Line (n : Nat) (a0 : (List UInt8) × (Int) × (List ((Bool) × (Int) × (Int))) × (Int) × (List ((List UInt8) × (List UInt8))) × (Int) × Unit) : Option ((List UInt8) × (Int) × Unit) :=
  (F.expr_Metric n (a0.1, a0.2.1, a0.2.2.1, a0.2.2.2.1, a0.2.2.2.2.1, a0.2.2.2.2.2.1, ()) (1 : Int)).bind fun y1 =>
    bif !(y1 == (0 : Int)) then
      some (([], y1, ()))
    else
      (O.word n a0.2.1).bind fun y2 =>
        bif !(y2.2.1 == (0 : Int)) then
          some (([], y2.2.1, ()))
        else
          (idx a0.2.2.1 (0 : Int)).bind fun x3 =>
            (F.dec_Text n (x3.1, x3.2.1, x3.2.2, ())).bind fun y4 =>
              bif !(y4.2.1 == (0 : Int)) then
                some (([], y4.2.1, ()))
              else
              bif decide (a0.1.length + 1 ≤ strMax) then
                bif decide (((a0.1 ++ ([58])).length) + y4.1.length ≤ strMax) then
                  bif decide ((((a0.1 ++ ([58])) ++ y4.1).length) + 1 ≤ strMax) then
                    bif decide (((((a0.1 ++ ([58])) ++ y4.1) ++ ([124])).length) + y2.1.length ≤ strMax) then
                      bif a0.2.2.2.1 == (1000000 : Int) then
                        some (((((a0.1 ++ ([58])) ++ y4.1) ++ ([124])) ++ y2.1, (0 : Int), ()))
                      else
                        (F.num_RateText n a0.2.2.2.1).bind fun y5 =>
                          bif !(y5.2.1 == (0 : Int)) then
                            some (([], y5.2.1, ()))
                          else
                          bif decide ((((((a0.1 ++ ([58])) ++ y4.1) ++ ([124])) ++ y2.1).length) + 1 ≤ strMax) then
                            bif decide (((((((a0.1 ++ ([58])) ++ y4.1) ++ ([124])) ++ y2.1) ++ ([124])).length) + 1 ≤ strMax) then
                              bif decide ((((((((a0.1 ++ ([58])) ++ y4.1) ++ ([124])) ++ y2.1) ++ ([124])) ++ ([64])).length) + y5.1.length ≤ strMax) then
                                some ((((((((a0.1 ++ ([58])) ++ y4.1) ++ ([124])) ++ y2.1) ++ ([124])) ++ ([64])) ++ y5.1, (0 : Int), ()))
                              else
                                none
                            else
                              none
                          else
                            none
                    else
                      none
                  else
                    none
                else
                  none
              else
                none
noncomputable def F.statsd_Kind.L2.step {X : Type} (n : Nat) (rec : (List UInt8) → Int → Option X) (k0 : Unit → Option X) (kr : Int → Int → Option X) (v0 : List UInt8) (v4 : Int) : Option X :=
  bif decide (v4 ≤ (5 : Int)) then
    (O.word n v4).bind fun y1 =>
      bif y1.2.1 == (0 : Int) then
        bif y1.1 == v0 then
          kr v4 (0 : Int)
        else
          rec v0 (IntKind.wrap .i64 (v4 + (1 : Int)))
      else
        rec v0 (IntKind.wrap .i64 (v4 + (1 : Int)))
  else
    k0 ()
noncomputable def F.statsd_Kind.L2 {X : Type} (n : Nat) (k0 : Unit → Option X) (kr : Int → Int → Option X) : Nat → (List UInt8) → Int → Option X
  | 0 => fun _ _ => none
  | m + 1 => fun v0 v4 => F.statsd_Kind.L2.step n (F.statsd_Kind.L2 n k0 kr m) k0 kr v0 v4
noncomputable def F.statsd_Kind (n : Nat) (a0 : List UInt8) : Option ((Int) × (Int) × Unit) :=
  F.statsd_Kind.L2 n
    (fun (_ : Unit) =>
      some (((0 : Int), (16 : Int), ())))
    (fun e3_2 e3_3 =>
      some ((e3_2, e3_3, ()))) n a0 (1 : Int)
noncomputable def F.stringslite_Cut (n : Nat) (a0 : List UInt8) (a1 : List UInt8) : Option ((List UInt8) × (List UInt8) × (Bool) × Unit) :=
  (O.index1 n a0 a1).bind fun y1 =>
    bif decide (y1 ≥ (0 : Int)) then
      (sub a0 (0 : Int) y1).bind fun x2 =>
        (sub a0 (IntKind.wrap .i64 (y1 + (a1.length : Int))) (a0.length : Int)).bind fun x3 =>
          some ((x2, x3, true, ()))
    else
      some ((a0, [], false, ()))
noncomputable def F.strings_Cut (n : Nat) (a0 : List UInt8) (a1 : List UInt8) : Option ((List UInt8) × (List UInt8) × (Bool) × Unit) :=
  (F.stringslite_Cut n a0 a1).bind fun y1 =>
    some ((y1.1, y1.2.1, y1.2.2.1, ()))
noncomputable def F.statsd_fault (n : Nat) (a0 : Int) (a1 : Int) : Option (((List UInt8) × (Int) × (List ((Bool) × (Int) × (Int))) × (Int) × (List ((List UInt8) × (List UInt8))) × (Int) × Unit) × ((Int) × (Int) × Unit) × Unit) :=
  some ((([], (0 : Int), [], (0 : Int), [], (0 : Int), ()), (a0, a1, ()), ()))
noncomputable def F.stringslite_HasPrefix (n : Nat) (a0 : List UInt8) (a1 : List UInt8) : Option (Bool) :=
  bif decide ((a0.length : Int) ≥ (a1.length : Int)) then
    (sub a0 (0 : Int) (a1.length : Int)).bind fun x1 =>
      some (x1 == a1)
  else
    some (false)
noncomputable def F.strings_HasPrefix (n : Nat) (a0 : List UInt8) (a1 : List UInt8) : Option (Bool) :=
  (F.stringslite_HasPrefix n a0 a1).bind fun y1 =>
    some (y1)
noncomputable def F.dec_look.L2_dec_look_1.step {X : Type} (n : Nat) (rec : Int → (List UInt8) → Int → Int → Int → Option X) (k0 : Int → (List UInt8) → Int → Int → Int → Option X) (v3 : Int) (vb0_0 : List UInt8) (vb1_0 : Int) (vb1_1 : Int) (vb2_0 : Int) : Option X :=
  bif decide (vb2_0 < (vb0_0.length : Int)) then
    (idx vb0_0 vb2_0).bind fun x2 =>
      bif decide (((x2).toNat) ≥ (48 : Int)) then
        (idx vb0_0 vb2_0).bind fun x3 =>
          bif decide (((x3).toNat) ≤ (57 : Int)) then
            rec v3 vb0_0 vb1_0 vb1_1 (IntKind.wrap .i64 (vb2_0 + (1 : Int)))
          else
            k0 v3 vb0_0 vb1_0 vb1_1 vb2_0
      else
        k0 v3 vb0_0 vb1_0 vb1_1 vb2_0
  else
    k0 v3 vb0_0 vb1_0 vb1_1 vb2_0
noncomputable def F.dec_look.L2_dec_look_1 {X : Type} (n : Nat) (k0 : Int → (List UInt8) → Int → Int → Int → Option X) : Nat → Int → (List UInt8) → Int → Int → Int → Option X
  | 0 => fun _ _ _ _ _ => none
  | m + 1 => fun v3 vb0_0 vb1_0 vb1_1 vb2_0 => F.dec_look.L2_dec_look_1.step n (F.dec_look.L2_dec_look_1 n k0 m) k0 v3 vb0_0 vb1_0 vb1_1 vb2_0
noncomputable def F.dec_look (n : Nat) (a0 : List UInt8) : Option ((Int) × (Int) × Unit) :=
  (F.strings_HasPrefix n a0 ([45])).bind fun y1 =>
    bif y1 then
      F.dec_look.L2_dec_look_1 n
        (fun e4_3 e4_b0_0 e4_b1_0 e4_b1_1 e4_b2_0 =>
          bif decide (e4_b2_0 > e4_3) then
            (sub e4_b0_0 e4_b2_0 (e4_b0_0.length : Int)).bind fun x5 =>
              (F.strings_HasPrefix n x5 ([46])).bind fun y6 =>
                bif y6 then
                  F.dec_look.L2_dec_look_1 n
                    (fun e7_3 e7_b0_0 e7_b1_0 e7_b1_1 e7_b2_0 =>
                      bif decide (e7_b2_0 > e7_3) then
                        bif e7_b2_0 == (e7_b0_0.length : Int) then
                          some (((0 : Int), (0 : Int), ()))
                        else
                        bif e7_b2_0 == (e7_b0_0.length : Int) then
                          some (((11 : Int), e7_b2_0, ()))
                        else
                          some (((14 : Int), e7_b2_0, ()))
                      else
                      bif e7_b2_0 == (e7_b0_0.length : Int) then
                        some (((11 : Int), e7_b2_0, ()))
                      else
                        some (((14 : Int), e7_b2_0, ()))) n (IntKind.wrap .i64 (e4_b2_0 + (1 : Int))) e4_b0_0 e4_b1_0 e4_b1_1 (IntKind.wrap .i64 (e4_b2_0 + (1 : Int)))
                else
                bif decide (e4_b2_0 > e4_3) then
                  bif e4_b2_0 == (e4_b0_0.length : Int) then
                    some (((0 : Int), (0 : Int), ()))
                  else
                  bif e4_b2_0 == (e4_b0_0.length : Int) then
                    some (((11 : Int), e4_b2_0, ()))
                  else
                    some (((14 : Int), e4_b2_0, ()))
                else
                bif e4_b2_0 == (e4_b0_0.length : Int) then
                  some (((11 : Int), e4_b2_0, ()))
                else
                  some (((14 : Int), e4_b2_0, ()))
          else
          bif decide (e4_b2_0 > e4_3) then
            bif e4_b2_0 == (e4_b0_0.length : Int) then
              some (((0 : Int), (0 : Int), ()))
            else
            bif e4_b2_0 == (e4_b0_0.length : Int) then
              some (((11 : Int), e4_b2_0, ()))
            else
              some (((14 : Int), e4_b2_0, ()))
          else
          bif e4_b2_0 == (e4_b0_0.length : Int) then
            some (((11 : Int), e4_b2_0, ()))
          else
            some (((14 : Int), e4_b2_0, ()))) n (1 : Int) a0 (0 : Int) (0 : Int) (1 : Int)
    else
      F.dec_look.L2_dec_look_1 n
        (fun e8_3 e8_b0_0 e8_b1_0 e8_b1_1 e8_b2_0 =>
          bif decide (e8_b2_0 > e8_3) then
            (sub e8_b0_0 e8_b2_0 (e8_b0_0.length : Int)).bind fun x9 =>
              (F.strings_HasPrefix n x9 ([46])).bind fun y10 =>
                bif y10 then
                  F.dec_look.L2_dec_look_1 n
                    (fun e11_3 e11_b0_0 e11_b1_0 e11_b1_1 e11_b2_0 =>
                      bif decide (e11_b2_0 > e11_3) then
                        bif e11_b2_0 == (e11_b0_0.length : Int) then
                          some (((0 : Int), (0 : Int), ()))
                        else
                        bif e11_b2_0 == (e11_b0_0.length : Int) then
                          some (((11 : Int), e11_b2_0, ()))
                        else
                          some (((14 : Int), e11_b2_0, ()))
                      else
                      bif e11_b2_0 == (e11_b0_0.length : Int) then
                        some (((11 : Int), e11_b2_0, ()))
                      else
                        some (((14 : Int), e11_b2_0, ()))) n (IntKind.wrap .i64 (e8_b2_0 + (1 : Int))) e8_b0_0 e8_b1_0 e8_b1_1 (IntKind.wrap .i64 (e8_b2_0 + (1 : Int)))
                else
                bif decide (e8_b2_0 > e8_3) then
                  bif e8_b2_0 == (e8_b0_0.length : Int) then
                    some (((0 : Int), (0 : Int), ()))
                  else
                  bif e8_b2_0 == (e8_b0_0.length : Int) then
                    some (((11 : Int), e8_b2_0, ()))
                  else
                    some (((14 : Int), e8_b2_0, ()))
                else
                bif e8_b2_0 == (e8_b0_0.length : Int) then
                  some (((11 : Int), e8_b2_0, ()))
                else
                  some (((14 : Int), e8_b2_0, ()))
          else
          bif decide (e8_b2_0 > e8_3) then
            bif e8_b2_0 == (e8_b0_0.length : Int) then
              some (((0 : Int), (0 : Int), ()))
            else
            bif e8_b2_0 == (e8_b0_0.length : Int) then
              some (((11 : Int), e8_b2_0, ()))
            else
              some (((14 : Int), e8_b2_0, ()))
          else
          bif e8_b2_0 == (e8_b0_0.length : Int) then
            some (((11 : Int), e8_b2_0, ()))
          else
            some (((14 : Int), e8_b2_0, ()))) n (0 : Int) a0 (0 : Int) (0 : Int) (0 : Int)
noncomputable def F.stringslite_CutPrefix (n : Nat) (a0 : List UInt8) (a1 : List UInt8) : Option ((List UInt8) × (Bool) × Unit) :=
  (F.stringslite_HasPrefix n a0 a1).bind fun y1 =>
    bif !y1 then
      some ((a0, false, ()))
    else
      (sub a0 (a1.length : Int) (a0.length : Int)).bind fun x2 =>
        some ((x2, true, ()))
noncomputable def F.strings_CutPrefix (n : Nat) (a0 : List UInt8) (a1 : List UInt8) : Option ((List UInt8) × (Bool) × Unit) :=
  (F.stringslite_CutPrefix n a0 a1).bind fun y1 =>
    some ((y1.1, y1.2.1, ()))
noncomputable def F.dec_Parse.L14.step {X : Type} (n : Nat) (rec : (List UInt8) → Int → Int → Bool → Int → Int → Int → Int → Int → Int → Bool → Int → Int → Option X) (k0 : Bool → Int → Int → Int → Int → Int → Int → Bool → Int → Int → Option X) (v10 : List UInt8) (v66 : Int) (v67 : Int) (vb0_0 : Bool) (vb0_1 : Int) (vb0_2 : Int) (vb1_0 : Int) (vb1_1 : Int) (vb2_0 : Int) (vb2_1 : Int) (vb3_0 : Bool) (vb3_1 : Int) (vb3_2 : Int) : Option X :=
  bif decide (v67 < v66) then
    (idx v10 v67).bind fun x7 =>
      (F.dec_times n vb3_1 (IntKind.wrap .u64 (IntKind.wrap .u8 (((x7).toNat) - (48 : Int))))).bind fun y8 =>
        bif !y8.2.1 then
          k0 vb0_0 vb0_1 vb0_2 vb1_0 vb1_1 vb2_0 vb2_1 vb3_0 (1 : Int) (-19 : Int)
        else
          rec v10 v66 (IntKind.wrap .i64 (v67 + (1 : Int))) vb0_0 vb0_1 vb0_2 vb1_0 vb1_1 vb2_0 vb2_1 vb3_0 y8.1 vb3_2
  else
    k0 vb0_0 vb0_1 vb0_2 vb1_0 vb1_1 vb2_0 vb2_1 vb3_0 vb3_1 vb3_2
noncomputable def F.dec_Parse.L14 {X : Type} (n : Nat) (k0 : Bool → Int → Int → Int → Int → Int → Int → Bool → Int → Int → Option X) : Nat → (List UInt8) → Int → Int → Bool → Int → Int → Int → Int → Int → Int → Bool → Int → Int → Option X
  | 0 => fun _ _ _ _ _ _ _ _ _ _ _ _ _ => none
  | m + 1 => fun v10 v66 v67 vb0_0 vb0_1 vb0_2 vb1_0 vb1_1 vb2_0 vb2_1 vb3_0 vb3_1 vb3_2 => F.dec_Parse.L14.step n (F.dec_Parse.L14 n k0 m) k0 v10 v66 v67 vb0_0 vb0_1 vb0_2 vb1_0 vb1_1 vb2_0 vb2_1 vb3_0 vb3_1 vb3_2
noncomputable def F.dec_Parse (n : Nat) (a0 : List UInt8) : Option (((Bool) × (Int) × (Int) × Unit) × ((Int) × (Int) × Unit) × Unit) :=
  (F.dec_look n a0).bind fun y1 =>
    bif !((y1.1 == (0 : Int)) && (y1.2.1 == (0 : Int))) then
      some (((false, (0 : Int), (0 : Int), ()), (y1.1, y1.2.1, ()), ()))
    else
      (F.strings_CutPrefix n a0 ([45])).bind fun y2 =>
        (F.strings_Cut n y2.1 ([46])).bind fun y3 =>
          (O.trimR n y3.2.1 ([48])).bind fun y4 =>
            bif decide (y3.1.length + y4.length ≤ strMax) then
              (O.trimL n (y3.1 ++ y4) ([48])).bind fun y5 =>
                (O.trimR n y5 ([48])).bind fun y6 =>
                  bif (IntKind.wrap .i64 (0 - (y4.length : Int))) == (0 : Int) then
                    bif decide ((y6.length : Int) < (y5.length : Int)) then
                      F.dec_Parse.L14 n
                        (fun e9_b0_0 e9_b0_1 e9_b0_2 e9_b1_0 e9_b1_1 e9_b2_0 e9_b2_1 e9_b3_0 e9_b3_1 e9_b3_2 =>
                          (F.dec_Normal n (e9_b3_0, e9_b3_1, e9_b3_2, ())).bind fun y10 =>
                            bif !(y10.2.1 == (0 : Int)) then
                              some (((false, (0 : Int), (0 : Int), ()), (y10.2.1, (0 : Int), ()), ()))
                            else
                              some (((y10.1.1, y10.1.2.1, y10.1.2.2.1, ()), ((0 : Int), (0 : Int), ()), ()))) n y6 (y6.length : Int) (0 : Int) false (0 : Int) (0 : Int) (0 : Int) (0 : Int) y1.1 y1.2.1 y2.2.1 (0 : Int) (IntKind.wrap .i64 ((y5.length : Int) - (y6.length : Int)))
                    else
                      F.dec_Parse.L14 n
                        (fun e11_b0_0 e11_b0_1 e11_b0_2 e11_b1_0 e11_b1_1 e11_b2_0 e11_b2_1 e11_b3_0 e11_b3_1 e11_b3_2 =>
                          (F.dec_Normal n (e11_b3_0, e11_b3_1, e11_b3_2, ())).bind fun y12 =>
                            bif !(y12.2.1 == (0 : Int)) then
                              some (((false, (0 : Int), (0 : Int), ()), (y12.2.1, (0 : Int), ()), ()))
                            else
                              some (((y12.1.1, y12.1.2.1, y12.1.2.2.1, ()), ((0 : Int), (0 : Int), ()), ()))) n y5 (y5.length : Int) (0 : Int) false (0 : Int) (0 : Int) (0 : Int) (0 : Int) y1.1 y1.2.1 y2.2.1 (0 : Int) (IntKind.wrap .i64 (0 - (y4.length : Int)))
                  else
                    F.dec_Parse.L14 n
                      (fun e13_b0_0 e13_b0_1 e13_b0_2 e13_b1_0 e13_b1_1 e13_b2_0 e13_b2_1 e13_b3_0 e13_b3_1 e13_b3_2 =>
                        (F.dec_Normal n (e13_b3_0, e13_b3_1, e13_b3_2, ())).bind fun y14 =>
                          bif !(y14.2.1 == (0 : Int)) then
                            some (((false, (0 : Int), (0 : Int), ()), (y14.2.1, (0 : Int), ()), ()))
                          else
                            some (((y14.1.1, y14.1.2.1, y14.1.2.2.1, ()), ((0 : Int), (0 : Int), ()), ()))) n y5 (y5.length : Int) (0 : Int) false (0 : Int) (0 : Int) (0 : Int) (0 : Int) y1.1 y1.2.1 y2.2.1 (0 : Int) (IntKind.wrap .i64 (0 - (y4.length : Int)))
            else
              none
noncomputable def F.num_fault (n : Nat) (a0 : Int) (a1 : Int) : Option ((Int) × ((Int) × (Int) × Unit) × Unit) :=
  some (((0 : Int), (a0, a1, ()), ()))
noncomputable def F.num_Rate.L5.step {X : Type} (n : Nat) (rec : (List UInt8) → ((Int) × (Int) × Unit) → Int → Int → Int → Int → Int → Option X) (k0 : (List UInt8) → Int → Int → Int → Int → Option X) (v0 : List UInt8) (v16 : (Int) × (Int) × Unit) (v17 : Int) (vb0_0 : Int) (vb0_1 : Int) (vb1_0 : Int) (vb1_1 : Int) : Option X :=
  bif decide (v17 < (2 : Int)) then
    bif v17 == (0 : Int) then
      bif v17 == (v0.length : Int) then
        bif v17 == (0 : Int) then
          k0 v0 vb0_0 vb0_1 (13 : Int) (0 : Int)
        else
        bif decide (v17 ≥ (v0.length : Int)) then
          k0 v0 vb0_0 vb0_1 (11 : Int) v17
        else
          (idx v0 v17).bind fun x1 =>
            bif !(((x1).toNat) == v16.1) then
              k0 v0 vb0_0 vb0_1 (11 : Int) v17
            else
              rec v0 (v16.1, v16.2.1, ()) (IntKind.wrap .i64 (v17 + (1 : Int))) vb0_0 vb0_1 vb1_0 vb1_1
      else
      bif decide (v17 ≥ (v0.length : Int)) then
        k0 v0 vb0_0 vb0_1 (11 : Int) v17
      else
        (idx v0 v17).bind fun x2 =>
          bif !(((x2).toNat) == v16.1) then
            k0 v0 vb0_0 vb0_1 (11 : Int) v17
          else
            rec v0 (v16.1, v16.2.1, ()) (IntKind.wrap .i64 (v17 + (1 : Int))) vb0_0 vb0_1 vb1_0 vb1_1
    else
    bif v17 == (1 : Int) then
      bif v17 == (v0.length : Int) then
        bif v17 == (0 : Int) then
          k0 v0 vb0_0 vb0_1 (13 : Int) (0 : Int)
        else
        bif decide (v17 ≥ (v0.length : Int)) then
          k0 v0 vb0_0 vb0_1 (11 : Int) v17
        else
          (idx v0 v17).bind fun x3 =>
            bif !(((x3).toNat) == v16.2.1) then
              k0 v0 vb0_0 vb0_1 (11 : Int) v17
            else
              rec v0 (v16.1, v16.2.1, ()) (IntKind.wrap .i64 (v17 + (1 : Int))) vb0_0 vb0_1 vb1_0 vb1_1
      else
      bif decide (v17 ≥ (v0.length : Int)) then
        k0 v0 vb0_0 vb0_1 (11 : Int) v17
      else
        (idx v0 v17).bind fun x4 =>
          bif !(((x4).toNat) == v16.2.1) then
            k0 v0 vb0_0 vb0_1 (11 : Int) v17
          else
            rec v0 (v16.1, v16.2.1, ()) (IntKind.wrap .i64 (v17 + (1 : Int))) vb0_0 vb0_1 vb1_0 vb1_1
    else
      none
  else
    k0 v0 vb0_0 vb0_1 vb1_0 vb1_1
noncomputable def F.num_Rate.L5 {X : Type} (n : Nat) (k0 : (List UInt8) → Int → Int → Int → Int → Option X) : Nat → (List UInt8) → ((Int) × (Int) × Unit) → Int → Int → Int → Int → Int → Option X
  | 0 => fun _ _ _ _ _ _ _ => none
  | m + 1 => fun v0 v16 v17 vb0_0 vb0_1 vb1_0 vb1_1 => F.num_Rate.L5.step n (F.num_Rate.L5 n k0 m) k0 v0 v16 v17 vb0_0 vb0_1 vb1_0 vb1_1
noncomputable def F.num_Rate.L23.step {X : Type} (n : Nat) (rec : (List UInt8) → Int → Int → Int → Int → Int → Int → Int → Int → Option X) (k3 : Int → Int → Int → Int → Int → Int → Int → Option X) (v7 : List UInt8) (v81 : Int) (vb0_0 : Int) (vb0_1 : Int) (vb1_0 : Int) (vb1_1 : Int) (vb2_0 : Int) (vb2_1 : Int) (vb3_0 : Int) : Option X :=
  bif decide (v81 < (6 : Int)) then
    bif decide (v81 < (v7.length : Int)) then
      (idx v7 v81).bind fun x11 =>
        rec v7 (IntKind.wrap .i64 (v81 + (1 : Int))) vb0_0 vb0_1 vb1_0 vb1_1 vb2_0 vb2_1 (IntKind.wrap .i64 ((IntKind.wrap .i64 ((10 : Int) * vb3_0)) + (IntKind.wrap .i64 (IntKind.wrap .u8 (((x11).toNat) - (48 : Int))))))
    else
      rec v7 (IntKind.wrap .i64 (v81 + (1 : Int))) vb0_0 vb0_1 vb1_0 vb1_1 vb2_0 vb2_1 (IntKind.wrap .i64 ((IntKind.wrap .i64 ((10 : Int) * vb3_0)) + (0 : Int)))
  else
    k3 vb0_0 vb0_1 vb1_0 vb1_1 vb2_0 vb2_1 vb3_0
noncomputable def F.num_Rate.L23 {X : Type} (n : Nat) (k3 : Int → Int → Int → Int → Int → Int → Int → Option X) : Nat → (List UInt8) → Int → Int → Int → Int → Int → Int → Int → Int → Option X
  | 0 => fun _ _ _ _ _ _ _ _ _ => none
  | m + 1 => fun v7 v81 vb0_0 vb0_1 vb1_0 vb1_1 vb2_0 vb2_1 vb3_0 => F.num_Rate.L23.step n (F.num_Rate.L23 n k3 m) k3 v7 v81 vb0_0 vb0_1 vb1_0 vb1_1 vb2_0 vb2_1 vb3_0
noncomputable def F.num_Rate (n : Nat) (a0 : List UInt8) : Option ((Int) × ((Int) × (Int) × Unit) × Unit) :=
  bif a0 == ([49]) then
    some (((1000000 : Int), ((0 : Int), (0 : Int), ()), ()))
  else
    F.num_Rate.L5 n
      (fun e5_0 e5_b0_0 e5_b0_1 e5_b1_0 e5_b1_1 =>
        bif !((e5_b1_0 == (0 : Int)) && (e5_b1_1 == (0 : Int))) then
          (F.num_fault n e5_b1_0 e5_b1_1).bind fun y6 =>
            some ((y6.1, (y6.2.1.1, y6.2.1.2.1, ()), ()))
        else
          (sub e5_0 (2 : Int) (e5_0.length : Int)).bind fun x7 =>
            (F.class_Text n (4 : Int) x7 (1 : Int) (IntKind.wrap .i64 ((x7.length : Int) + (1 : Int)))).bind fun y8 =>
              bif !((y8.1 == (0 : Int)) && (y8.2.1 == (0 : Int))) then
                (F.num_fault n y8.1 (IntKind.wrap .i64 ((2 : Int) + y8.2.1))).bind fun y9 =>
                  some ((y9.1, (y9.2.1.1, y9.2.1.2.1, ()), ()))
              else
              bif decide ((x7.length : Int) > (6 : Int)) then
                (F.num_fault n (12 : Int) (8 : Int)).bind fun y10 =>
                  some ((y10.1, (y10.2.1.1, y10.2.1.2.1, ()), ()))
              else
                F.num_Rate.L23 n
                  (fun e12_b0_0 e12_b0_1 e12_b1_0 e12_b1_1 e12_b2_0 e12_b2_1 e12_b3_0 =>
                    bif e12_b3_0 == (0 : Int) then
                      (F.num_fault n (10 : Int) (0 : Int)).bind fun y13 =>
                        some ((y13.1, (y13.2.1.1, y13.2.1.2.1, ()), ()))
                    else
                      some ((e12_b3_0, ((0 : Int), (0 : Int), ()), ()))) n x7 (0 : Int) e5_b0_0 e5_b0_1 e5_b1_0 e5_b1_1 y8.1 y8.2.1 (0 : Int)) n a0 ((48 : Int), (46 : Int), ()) (0 : Int) (0 : Int) (0 : Int) (0 : Int) (0 : Int)
noncomputable def F.statsd_Parse.C30 {X : Type} (n : Nat) (kr : (List UInt8) → (List UInt8) → Int → (List ((Bool) × (Int) × (Int))) → Int → (List ((List UInt8) × (List UInt8))) → Int → Int → Int → Option X) (kn : Bool → (List UInt8) → (List UInt8) → Int → (List ((Bool) × (Int) × (Int))) → Int → (List ((List UInt8) × (List UInt8))) → Int → Int → Int → Int → (List UInt8) → Int → (List ((Bool) × (Int) × (Int))) → Int → (List ((List UInt8) × (List UInt8))) → Int → Nat → Nat → Nat → Nat → Option X) (c9 : Bool) (c19 : Int) (c141 : Bool) (cb0_0 : List UInt8) (cb1_0 : List UInt8) (cb1_1 : Int) (cb1_2 : List ((Bool) × (Int) × (Int))) (cb1_3 : Int) (cb1_4 : List ((List UInt8) × (List UInt8))) (cb1_5 : Int) (cb2_0 : Int) (cb2_1 : Int) (cb3_0 : Int) (cb4_0 : List UInt8) (cb4_1 : Int) (cb4_2 : List ((Bool) × (Int) × (Int))) (cb4_3 : Int) (cb4_4 : List ((List UInt8) × (List UInt8))) (cb4_5 : Int) (ck0 : Nat) (ck1 : Nat) (ck2 : Nat) (ck3 : Nat) : Option X :=
  bif c141 then
    (F.statsd_fault n (18 : Int) c19).bind fun y24 =>
      kr cb0_0 y24.1.1 y24.1.2.1 y24.1.2.2.1 y24.1.2.2.2.1 y24.1.2.2.2.2.1 y24.1.2.2.2.2.2.1 y24.2.1.1 y24.2.1.2.1
  else
    kn c9 cb0_0 cb1_0 cb1_1 cb1_2 cb1_3 cb1_4 cb1_5 cb2_0 cb2_1 cb3_0 cb4_0 cb4_1 cb4_2 cb4_3 cb4_4 cb4_5 ck0 ck1 ck2 ck3
noncomputable def F.statsd_Parse.C31 {X : Type} (n : Nat) (kr : (List UInt8) → (List UInt8) → Int → (List ((Bool) × (Int) × (Int))) → Int → (List ((List UInt8) × (List UInt8))) → Int → Int → Int → Option X) (c9 : Bool) (cb0_0 : List UInt8) (cb1_0 : List UInt8) (cb1_1 : Int) (cb1_2 : List ((Bool) × (Int) × (Int))) (cb1_3 : Int) (cb1_4 : List ((List UInt8) × (List UInt8))) (cb1_5 : Int) (cb2_0 : Int) (cb2_1 : Int) (cb3_0 : Int) (cb4_0 : List UInt8) (cb4_1 : Int) (cb4_2 : List ((Bool) × (Int) × (Int))) (cb4_3 : Int) (cb4_4 : List ((List UInt8) × (List UInt8))) (cb4_5 : Int) (ck0 : Nat) (ck1 : Nat) (ck2 : Nat) (ck3 : Nat) : Option X :=
  bif c9 then
    (F.statsd_fault n (11 : Int) (IntKind.wrap .i64 (cb3_0 - (1 : Int)))).bind fun y28 =>
      kr cb0_0 y28.1.1 y28.1.2.1 y28.1.2.2.1 y28.1.2.2.2.1 y28.1.2.2.2.2.1 y28.1.2.2.2.2.2.1 y28.2.1.1 y28.2.1.2.1
  else
    kr cb0_0 cb4_0 cb4_1 cb4_2 cb4_3 cb4_4 cb4_5 (0 : Int) (0 : Int)
noncomputable def F.statsd_Parse.C28 {X : Type} (n : Nat) (kr : (List UInt8) → (List UInt8) → Int → (List ((Bool) × (Int) × (Int))) → Int → (List ((List UInt8) × (List UInt8))) → Int → Int → Int → Option X) (c9 : Bool) (c16 : Int) (c18 : List UInt8) (c19 : Int) (cb0_0 : List UInt8) (cb1_0 : List UInt8) (cb1_1 : Int) (cb1_2 : List ((Bool) × (Int) × (Int))) (cb1_3 : Int) (cb1_4 : List ((List UInt8) × (List UInt8))) (cb1_5 : Int) (cb2_0 : Int) (cb2_1 : Int) (cb3_0 : Int) (cb4_0 : List UInt8) (cb4_1 : Int) (cb4_2 : List ((Bool) × (Int) × (Int))) (cb4_3 : Int) (cb4_4 : List ((List UInt8) × (List UInt8))) (cb4_5 : Int) (cb5_0 : Bool) (cb5_1 : Int) (cb5_2 : Int) (cb6_0 : Int) (cb6_1 : Int) (ck0 : Nat) (ck1 : Nat) (ck2 : Nat) (ck3 : Nat) : Option X :=
  (F.num_Rate n c18).bind fun y36 =>
    bif !((y36.2.1.1 == (0 : Int)) && (y36.2.1.2.1 == (0 : Int))) then
      F.statsd_Parse.C30 n
        (fun e37_b0_0 e37_b1_0 e37_b1_1 e37_b1_2 e37_b1_3 e37_b1_4 e37_b1_5 e37_b2_0 e37_b2_1 =>
          kr e37_b0_0 e37_b1_0 e37_b1_1 e37_b1_2 e37_b1_3 e37_b1_4 e37_b1_5 e37_b2_0 e37_b2_1)
        (fun e38_9 e38_b0_0 e38_b1_0 e38_b1_1 e38_b1_2 e38_b1_3 e38_b1_4 e38_b1_5 e38_b2_0 e38_b2_1 e38_b3_0 e38_b4_0 e38_b4_1 e38_b4_2 e38_b4_3 e38_b4_4 e38_b4_5 e38_k0 e38_k1 e38_k2 e38_k3 =>
          F.statsd_Parse.C31 n
            (fun e39_b0_0 e39_b1_0 e39_b1_1 e39_b1_2 e39_b1_3 e39_b1_4 e39_b1_5 e39_b2_0 e39_b2_1 =>
              kr e39_b0_0 e39_b1_0 e39_b1_1 e39_b1_2 e39_b1_3 e39_b1_4 e39_b1_5 e39_b2_0 e39_b2_1) e38_9 e38_b0_0 e38_b1_0 e38_b1_1 e38_b1_2 e38_b1_3 e38_b1_4 e38_b1_5 e38_b2_0 e38_b2_1 e38_b3_0 e38_b4_0 e38_b4_1 e38_b4_2 e38_b4_3 e38_b4_4 e38_b4_5 e38_k0 e38_k1 e38_k2 e38_k3) c9 c19 true cb0_0 cb1_0 cb1_1 cb1_2 cb1_3 cb1_4 cb1_5 cb2_0 cb2_1 cb3_0 cb4_0 cb4_1 cb4_2 y36.1 cb4_4 cb4_5 ck0 ck1 ck2 ck3
    else
    bif c16 == (2 : Int) then
      F.statsd_Parse.C30 n
        (fun e40_b0_0 e40_b1_0 e40_b1_1 e40_b1_2 e40_b1_3 e40_b1_4 e40_b1_5 e40_b2_0 e40_b2_1 =>
          kr e40_b0_0 e40_b1_0 e40_b1_1 e40_b1_2 e40_b1_3 e40_b1_4 e40_b1_5 e40_b2_0 e40_b2_1)
        (fun e41_9 e41_b0_0 e41_b1_0 e41_b1_1 e41_b1_2 e41_b1_3 e41_b1_4 e41_b1_5 e41_b2_0 e41_b2_1 e41_b3_0 e41_b4_0 e41_b4_1 e41_b4_2 e41_b4_3 e41_b4_4 e41_b4_5 e41_k0 e41_k1 e41_k2 e41_k3 =>
          F.statsd_Parse.C31 n
            (fun e42_b0_0 e42_b1_0 e42_b1_1 e42_b1_2 e42_b1_3 e42_b1_4 e42_b1_5 e42_b2_0 e42_b2_1 =>
              kr e42_b0_0 e42_b1_0 e42_b1_1 e42_b1_2 e42_b1_3 e42_b1_4 e42_b1_5 e42_b2_0 e42_b2_1) e41_9 e41_b0_0 e41_b1_0 e41_b1_1 e41_b1_2 e41_b1_3 e41_b1_4 e41_b1_5 e41_b2_0 e41_b2_1 e41_b3_0 e41_b4_0 e41_b4_1 e41_b4_2 e41_b4_3 e41_b4_4 e41_b4_5 e41_k0 e41_k1 e41_k2 e41_k3) c9 c19 (!(y36.1 == (1000000 : Int))) cb0_0 cb1_0 cb1_1 cb1_2 cb1_3 cb1_4 cb1_5 cb2_0 cb2_1 cb3_0 cb4_0 cb4_1 cb4_2 y36.1 cb4_4 cb4_5 ck0 ck1 ck2 ck3
    else
      F.statsd_Parse.C30 n
        (fun e43_b0_0 e43_b1_0 e43_b1_1 e43_b1_2 e43_b1_3 e43_b1_4 e43_b1_5 e43_b2_0 e43_b2_1 =>
          kr e43_b0_0 e43_b1_0 e43_b1_1 e43_b1_2 e43_b1_3 e43_b1_4 e43_b1_5 e43_b2_0 e43_b2_1)
        (fun e44_9 e44_b0_0 e44_b1_0 e44_b1_1 e44_b1_2 e44_b1_3 e44_b1_4 e44_b1_5 e44_b2_0 e44_b2_1 e44_b3_0 e44_b4_0 e44_b4_1 e44_b4_2 e44_b4_3 e44_b4_4 e44_b4_5 e44_k0 e44_k1 e44_k2 e44_k3 =>
          F.statsd_Parse.C31 n
            (fun e45_b0_0 e45_b1_0 e45_b1_1 e45_b1_2 e45_b1_3 e45_b1_4 e45_b1_5 e45_b2_0 e45_b2_1 =>
              kr e45_b0_0 e45_b1_0 e45_b1_1 e45_b1_2 e45_b1_3 e45_b1_4 e45_b1_5 e45_b2_0 e45_b2_1) e44_9 e44_b0_0 e44_b1_0 e44_b1_1 e44_b1_2 e44_b1_3 e44_b1_4 e44_b1_5 e44_b2_0 e44_b2_1 e44_b3_0 e44_b4_0 e44_b4_1 e44_b4_2 e44_b4_3 e44_b4_4 e44_b4_5 e44_k0 e44_k1 e44_k2 e44_k3) c9 c19 false cb0_0 cb1_0 cb1_1 cb1_2 cb1_3 cb1_4 cb1_5 cb2_0 cb2_1 cb3_0 cb4_0 cb4_1 cb4_2 y36.1 cb4_4 cb4_5 ck0 ck1 ck2 ck3
noncomputable def F.statsd_Parse.C21 {X : Type} (n : Nat) (kr : (List UInt8) → (List UInt8) → Int → (List ((Bool) × (Int) × (Int))) → Int → (List ((List UInt8) × (List UInt8))) → Int → Int → Int → Option X) (c7 : List UInt8) (c9 : Bool) (c16 : Int) (cb0_0 : List UInt8) (cb1_0 : List UInt8) (cb1_1 : Int) (cb1_2 : List ((Bool) × (Int) × (Int))) (cb1_3 : Int) (cb1_4 : List ((List UInt8) × (List UInt8))) (cb1_5 : Int) (cb2_0 : Int) (cb2_1 : Int) (cb3_0 : Int) (cb4_0 : List UInt8) (cb4_1 : Int) (cb4_2 : List ((Bool) × (Int) × (Int))) (cb4_3 : Int) (cb4_4 : List ((List UInt8) × (List UInt8))) (cb4_5 : Int) (cb5_0 : Bool) (cb5_1 : Int) (cb5_2 : Int) (cb6_0 : Int) (cb6_1 : Int) (ck0 : Nat) (ck1 : Nat) (ck2 : Nat) (ck3 : Nat) : Option X :=
  bif !c9 then
    kr cb0_0 c7 c16 ([(cb5_0, cb5_1, cb5_2)]) cb4_3 cb4_4 cb4_5 (0 : Int) (0 : Int)
  else
    (sub cb0_0 cb3_0 (cb0_0.length : Int)).bind fun x48 =>
      (F.strings_HasPrefix n x48 ([64])).bind fun y49 =>
        bif !y49 then
          (F.statsd_fault n (11 : Int) cb3_0).bind fun y50 =>
            kr cb0_0 y50.1.1 y50.1.2.1 y50.1.2.2.1 y50.1.2.2.2.1 y50.1.2.2.2.2.1 y50.1.2.2.2.2.2.1 y50.2.1.1 y50.2.1.2.1
        else
          (sub cb0_0 (IntKind.wrap .i64 (cb3_0 + (1 : Int))) (cb0_0.length : Int)).bind fun x51 =>
            (F.strings_Cut n x51 ([124])).bind fun y52 =>
              bif y52.2.2.1 then
                F.statsd_Parse.C28 n
                  (fun e53_b0_0 e53_b1_0 e53_b1_1 e53_b1_2 e53_b1_3 e53_b1_4 e53_b1_5 e53_b2_0 e53_b2_1 =>
                    kr e53_b0_0 e53_b1_0 e53_b1_1 e53_b1_2 e53_b1_3 e53_b1_4 e53_b1_5 e53_b2_0 e53_b2_1) y52.2.2.1 c16 y52.1 (IntKind.wrap .i64 (cb3_0 + (1 : Int))) cb0_0 cb1_0 cb1_1 cb1_2 cb1_3 cb1_4 cb1_5 cb2_0 cb2_1 (IntKind.wrap .i64 ((IntKind.wrap .i64 ((IntKind.wrap .i64 (cb3_0 + (1 : Int))) + (y52.1.length : Int))) + (1 : Int))) c7 c16 ([(cb5_0, cb5_1, cb5_2)]) cb4_3 cb4_4 cb4_5 cb5_0 cb5_1 cb5_2 cb6_0 cb6_1 ck0 ck1 1 ck3
              else
                F.statsd_Parse.C28 n
                  (fun e54_b0_0 e54_b1_0 e54_b1_1 e54_b1_2 e54_b1_3 e54_b1_4 e54_b1_5 e54_b2_0 e54_b2_1 =>
                    kr e54_b0_0 e54_b1_0 e54_b1_1 e54_b1_2 e54_b1_3 e54_b1_4 e54_b1_5 e54_b2_0 e54_b2_1) y52.2.2.1 c16 y52.1 (IntKind.wrap .i64 (cb3_0 + (1 : Int))) cb0_0 cb1_0 cb1_1 cb1_2 cb1_3 cb1_4 cb1_5 cb2_0 cb2_1 (IntKind.wrap .i64 ((IntKind.wrap .i64 (cb3_0 + (1 : Int))) + (y52.1.length : Int))) c7 c16 ([(cb5_0, cb5_1, cb5_2)]) cb4_3 cb4_4 cb4_5 cb5_0 cb5_1 cb5_2 cb6_0 cb6_1 ck0 ck1 1 ck3
noncomputable def F.statsd_Parse.C16 {X : Type} (n : Nat) (kr : (List UInt8) → (List UInt8) → Int → (List ((Bool) × (Int) × (Int))) → Int → (List ((List UInt8) × (List UInt8))) → Int → Int → Int → Option X) (c7 : List UInt8) (c9 : Bool) (c10 : List UInt8) (c11 : Int) (c14 : List UInt8) (c15 : Int) (cb0_0 : List UInt8) (cb1_0 : List UInt8) (cb1_1 : Int) (cb1_2 : List ((Bool) × (Int) × (Int))) (cb1_3 : Int) (cb1_4 : List ((List UInt8) × (List UInt8))) (cb1_5 : Int) (cb2_0 : Int) (cb2_1 : Int) (cb3_0 : Int) (cb4_0 : List UInt8) (cb4_1 : Int) (cb4_2 : List ((Bool) × (Int) × (Int))) (cb4_3 : Int) (cb4_4 : List ((List UInt8) × (List UInt8))) (cb4_5 : Int) (cb5_0 : Bool) (cb5_1 : Int) (cb5_2 : Int) (cb6_0 : Int) (cb6_1 : Int) (ck0 : Nat) (ck1 : Nat) (ck2 : Nat) (ck3 : Nat) : Option X :=
  (F.statsd_Kind n c14).bind fun y57 =>
    bif !(y57.2.1 == (0 : Int)) then
      (F.statsd_fault n (16 : Int) c15).bind fun y58 =>
        kr cb0_0 y58.1.1 y58.1.2.1 y58.1.2.2.1 y58.1.2.2.2.1 y58.1.2.2.2.2.1 y58.1.2.2.2.2.2.1 y58.2.1.1 y58.2.1.2.1
    else
    bif y57.1 == (2 : Int) then
      (F.strings_HasPrefix n c10 ([45])).bind fun y59 =>
        bif y59 then
          (F.statsd_fault n (26 : Int) c11).bind fun y60 =>
            kr cb0_0 y60.1.1 y60.1.2.1 y60.1.2.2.1 y60.1.2.2.2.1 y60.1.2.2.2.2.1 y60.1.2.2.2.2.2.1 y60.2.1.1 y60.2.1.2.1
        else
          F.statsd_Parse.C21 n
            (fun e61_b0_0 e61_b1_0 e61_b1_1 e61_b1_2 e61_b1_3 e61_b1_4 e61_b1_5 e61_b2_0 e61_b2_1 =>
              kr e61_b0_0 e61_b1_0 e61_b1_1 e61_b1_2 e61_b1_3 e61_b1_4 e61_b1_5 e61_b2_0 e61_b2_1) c7 c9 y57.1 cb0_0 cb1_0 cb1_1 cb1_2 cb1_3 cb1_4 cb1_5 cb2_0 cb2_1 cb3_0 cb4_0 cb4_1 cb4_2 cb4_3 cb4_4 cb4_5 cb5_0 cb5_1 cb5_2 cb6_0 cb6_1 ck0 ck1 ck2 ck3
    else
      F.statsd_Parse.C21 n
        (fun e62_b0_0 e62_b1_0 e62_b1_1 e62_b1_2 e62_b1_3 e62_b1_4 e62_b1_5 e62_b2_0 e62_b2_1 =>
          kr e62_b0_0 e62_b1_0 e62_b1_1 e62_b1_2 e62_b1_3 e62_b1_4 e62_b1_5 e62_b2_0 e62_b2_1) c7 c9 y57.1 cb0_0 cb1_0 cb1_1 cb1_2 cb1_3 cb1_4 cb1_5 cb2_0 cb2_1 cb3_0 cb4_0 cb4_1 cb4_2 cb4_3 cb4_4 cb4_5 cb5_0 cb5_1 cb5_2 cb6_0 cb6_1 ck0 ck1 ck2 ck3
noncomputable def F.statsd_Parse.C10 {X : Type} (n : Nat) (kr : (List UInt8) → (List UInt8) → Int → (List ((Bool) × (Int) × (Int))) → Int → (List ((List UInt8) × (List UInt8))) → Int → Int → Int → Option X) (c7 : List UInt8) (c9 : Bool) (c10 : List UInt8) (c11 : Int) (cb0_0 : List UInt8) (cb1_0 : List UInt8) (cb1_1 : Int) (cb1_2 : List ((Bool) × (Int) × (Int))) (cb1_3 : Int) (cb1_4 : List ((List UInt8) × (List UInt8))) (cb1_5 : Int) (cb2_0 : Int) (cb2_1 : Int) (cb3_0 : Int) (cb4_0 : List UInt8) (cb4_1 : Int) (cb4_2 : List ((Bool) × (Int) × (Int))) (cb4_3 : Int) (cb4_4 : List ((List UInt8) × (List UInt8))) (cb4_5 : Int) (ck0 : Nat) (ck1 : Nat) (ck2 : Nat) (ck3 : Nat) : Option X :=
  (F.dec_Parse n c10).bind fun y65 =>
    bif !((y65.2.1.1 == (0 : Int)) && (y65.2.1.2.1 == (0 : Int))) then
      (F.statsd_fault n (17 : Int) c11).bind fun y66 =>
        kr cb0_0 y66.1.1 y66.1.2.1 y66.1.2.2.1 y66.1.2.2.2.1 y66.1.2.2.2.2.1 y66.1.2.2.2.2.2.1 y66.2.1.1 y66.2.1.2.1
    else
    bif !c9 then
      (F.statsd_fault n (11 : Int) (cb0_0.length : Int)).bind fun y67 =>
        kr cb0_0 y67.1.1 y67.1.2.1 y67.1.2.2.1 y67.1.2.2.2.1 y67.1.2.2.2.2.1 y67.1.2.2.2.2.2.1 y67.2.1.1 y67.2.1.2.1
    else
      (sub cb0_0 cb3_0 (cb0_0.length : Int)).bind fun x68 =>
        (F.strings_Cut n x68 ([124])).bind fun y69 =>
          bif y69.2.2.1 then
            F.statsd_Parse.C16 n
              (fun e70_b0_0 e70_b1_0 e70_b1_1 e70_b1_2 e70_b1_3 e70_b1_4 e70_b1_5 e70_b2_0 e70_b2_1 =>
                kr e70_b0_0 e70_b1_0 e70_b1_1 e70_b1_2 e70_b1_3 e70_b1_4 e70_b1_5 e70_b2_0 e70_b2_1) c7 y69.2.2.1 c10 c11 y69.1 cb3_0 cb0_0 cb1_0 cb1_1 cb1_2 cb1_3 cb1_4 cb1_5 cb2_0 cb2_1 (IntKind.wrap .i64 ((IntKind.wrap .i64 (cb3_0 + (y69.1.length : Int))) + (1 : Int))) cb4_0 cb4_1 cb4_2 cb4_3 cb4_4 cb4_5 y65.1.1 y65.1.2.1 y65.1.2.2.1 y65.2.1.1 y65.2.1.2.1 ck0 ck1 ck2 ck3
          else
            F.statsd_Parse.C16 n
              (fun e71_b0_0 e71_b1_0 e71_b1_1 e71_b1_2 e71_b1_3 e71_b1_4 e71_b1_5 e71_b2_0 e71_b2_1 =>
                kr e71_b0_0 e71_b1_0 e71_b1_1 e71_b1_2 e71_b1_3 e71_b1_4 e71_b1_5 e71_b2_0 e71_b2_1) c7 y69.2.2.1 c10 c11 y69.1 cb3_0 cb0_0 cb1_0 cb1_1 cb1_2 cb1_3 cb1_4 cb1_5 cb2_0 cb2_1 (IntKind.wrap .i64 (cb3_0 + (y69.1.length : Int))) cb4_0 cb4_1 cb4_2 cb4_3 cb4_4 cb4_5 y65.1.1 y65.1.2.1 y65.1.2.2.1 y65.2.1.1 y65.2.1.2.1 ck0 ck1 ck2 ck3
noncomputable def F.statsd_Parse.C5 {X : Type} (n : Nat) (kr : (List UInt8) → (List UInt8) → Int → (List ((Bool) × (Int) × (Int))) → Int → (List ((List UInt8) × (List UInt8))) → Int → Int → Int → Option X) (c7 : List UInt8) (c9 : Bool) (cb0_0 : List UInt8) (cb1_0 : List UInt8) (cb1_1 : Int) (cb1_2 : List ((Bool) × (Int) × (Int))) (cb1_3 : Int) (cb1_4 : List ((List UInt8) × (List UInt8))) (cb1_5 : Int) (cb2_0 : Int) (cb2_1 : Int) (cb3_0 : Int) (cb4_0 : List UInt8) (cb4_1 : Int) (cb4_2 : List ((Bool) × (Int) × (Int))) (cb4_3 : Int) (cb4_4 : List ((List UInt8) × (List UInt8))) (cb4_5 : Int) (ck0 : Nat) (ck1 : Nat) (ck2 : Nat) (ck3 : Nat) : Option X :=
  (F.class_Text n (1 : Int) c7 (1 : Int) (200 : Int)).bind fun y74 =>
    bif !((y74.1 == (0 : Int)) && (y74.2.1 == (0 : Int))) then
      (F.statsd_fault n (15 : Int) (0 : Int)).bind fun y75 =>
        kr cb0_0 y75.1.1 y75.1.2.1 y75.1.2.2.1 y75.1.2.2.2.1 y75.1.2.2.2.2.1 y75.1.2.2.2.2.2.1 y75.2.1.1 y75.2.1.2.1
    else
    bif !c9 then
      (F.statsd_fault n (11 : Int) (cb0_0.length : Int)).bind fun y76 =>
        kr cb0_0 y76.1.1 y76.1.2.1 y76.1.2.2.1 y76.1.2.2.2.1 y76.1.2.2.2.2.1 y76.1.2.2.2.2.2.1 y76.2.1.1 y76.2.1.2.1
    else
      (sub cb0_0 cb3_0 (cb0_0.length : Int)).bind fun x77 =>
        (F.strings_Cut n x77 ([124])).bind fun y78 =>
          bif y78.2.2.1 then
            F.statsd_Parse.C10 n
              (fun e79_b0_0 e79_b1_0 e79_b1_1 e79_b1_2 e79_b1_3 e79_b1_4 e79_b1_5 e79_b2_0 e79_b2_1 =>
                kr e79_b0_0 e79_b1_0 e79_b1_1 e79_b1_2 e79_b1_3 e79_b1_4 e79_b1_5 e79_b2_0 e79_b2_1) c7 y78.2.2.1 y78.1 cb3_0 cb0_0 cb1_0 cb1_1 cb1_2 cb1_3 cb1_4 cb1_5 cb2_0 cb2_1 (IntKind.wrap .i64 ((IntKind.wrap .i64 (cb3_0 + (y78.1.length : Int))) + (1 : Int))) cb4_0 cb4_1 cb4_2 cb4_3 cb4_4 cb4_5 ck0 ck1 ck2 ck3
          else
            F.statsd_Parse.C10 n
              (fun e80_b0_0 e80_b1_0 e80_b1_1 e80_b1_2 e80_b1_3 e80_b1_4 e80_b1_5 e80_b2_0 e80_b2_1 =>
                kr e80_b0_0 e80_b1_0 e80_b1_1 e80_b1_2 e80_b1_3 e80_b1_4 e80_b1_5 e80_b2_0 e80_b2_1) c7 y78.2.2.1 y78.1 cb3_0 cb0_0 cb1_0 cb1_1 cb1_2 cb1_3 cb1_4 cb1_5 cb2_0 cb2_1 (IntKind.wrap .i64 (cb3_0 + (y78.1.length : Int))) cb4_0 cb4_1 cb4_2 cb4_3 cb4_4 cb4_5 ck0 ck1 ck2 ck3
noncomputable def F.statsd_Parse (n : Nat) (a0 : List UInt8) : Option (((List UInt8) × (Int) × (List ((Bool) × (Int) × (Int))) × (Int) × (List ((List UInt8) × (List UInt8))) × (Int) × Unit) × ((Int) × (Int) × Unit) × Unit) :=
  (sub a0 (0 : Int) (a0.length : Int)).bind fun x1 =>
    (F.strings_Cut n x1 ([58])).bind fun y2 =>
      bif y2.2.2.1 then
        F.statsd_Parse.C5 n
          (fun e81_b0_0 e81_b1_0 e81_b1_1 e81_b1_2 e81_b1_3 e81_b1_4 e81_b1_5 e81_b2_0 e81_b2_1 =>
            some (((e81_b1_0, e81_b1_1, e81_b1_2, e81_b1_3, e81_b1_4, e81_b1_5, ()), (e81_b2_0, e81_b2_1, ()), ()))) y2.1 y2.2.2.1 a0 [] (0 : Int) [] (0 : Int) [] (0 : Int) (0 : Int) (0 : Int) (IntKind.wrap .i64 ((IntKind.wrap .i64 ((0 : Int) + (y2.1.length : Int))) + (1 : Int))) [] (0 : Int) [] (1000000 : Int) [] (0 : Int) 0 0 0 0
      else
        F.statsd_Parse.C5 n
          (fun e82_b0_0 e82_b1_0 e82_b1_1 e82_b1_2 e82_b1_3 e82_b1_4 e82_b1_5 e82_b2_0 e82_b2_1 =>
            some (((e82_b1_0, e82_b1_1, e82_b1_2, e82_b1_3, e82_b1_4, e82_b1_5, ()), (e82_b2_0, e82_b2_1, ()), ()))) y2.1 y2.2.2.1 a0 [] (0 : Int) [] (0 : Int) [] (0 : Int) (0 : Int) (0 : Int) (IntKind.wrap .i64 ((0 : Int) + (y2.1.length : Int))) [] (0 : Int) [] (1000000 : Int) [] (0 : Int) 0 0 0 0
noncomputable def F.law10_awake (n : Nat) : Option (Bool) :=
  (F.statsd_Parse n ([97, 46, 98, 58, 49, 46, 53, 48, 124, 109, 115, 124, 64, 48, 46, 49])).bind fun y1 =>
    (F.statsd_Line n (y1.1.1, y1.1.2.1, y1.1.2.2.1, y1.1.2.2.2.1, y1.1.2.2.2.2.1, y1.1.2.2.2.2.2.1, ())).bind fun y2 =>
      (F.statsd_Parse n ([97, 58, 45, 49, 124, 103])).bind fun y3 =>
        (F.statsd_Parse n ([97, 58, 49, 124, 99, 124, 120])).bind fun y4 =>
          (F.statsd_Parse n ([97, 58, 49])).bind fun y5 =>
            bif !((y1.2.1.1 == (0 : Int)) && (y1.2.1.2.1 == (0 : Int))) then
              some (false)
            else
            bif !(y1.1.1 == ([97, 46, 98])) then
              some (false)
            else
            bif !(y1.1.2.1 == (3 : Int)) then
              some (false)
            else
            bif !(y1.1.2.2.2.1 == (100000 : Int)) then
              some (false)
            else
            bif !((y1.1.2.2.1.length : Int) == (1 : Int)) then
              some (false)
            else
              (idx y1.1.2.2.1 (0 : Int)).bind fun x6 =>
                bif !((x6.1 == false) && ((x6.2.1 == (15 : Int)) && (x6.2.2 == (-1 : Int)))) then
                  some (false)
                else
                bif y2.1 == ([97, 46, 98, 58, 49, 46, 53, 124, 109, 115, 124, 64, 48, 46, 49]) then
                  bif y2.2.1 == (0 : Int) then
                    bif (y3.2.1.1 == (26 : Int)) && (y3.2.1.2.1 == (2 : Int)) then
                      bif (y4.2.1.1 == (11 : Int)) && (y4.2.1.2.1 == (6 : Int)) then
                        some ((y5.2.1.1 == (11 : Int)) && (y5.2.1.2.1 == (3 : Int)))
                      else
                        some (false)
                    else
                      some (false)
                  else
                    some (false)
                else
                  some (false)
noncomputable def F.ref10_Word (n : Nat) (a0 : Int) : Option (List UInt8) :=
  bif a0 == (1 : Int) then
    some ([99])
  else
  bif a0 == (2 : Int) then
    some ([103])
  else
  bif a0 == (3 : Int) then
    some ([109, 115])
  else
  bif a0 == (4 : Int) then
    some ([104])
  else
    some ([])
noncomputable def F.ref10_Kind.L2.step {X : Type} (n : Nat) (rec : (List UInt8) → Int → Option X) (k0 : Unit → Option X) (kr : Int → Option X) (v0 : List UInt8) (v3 : Int) : Option X :=
  bif decide (v3 ≤ (4 : Int)) then
    (F.ref10_Word n v3).bind fun y1 =>
      bif y1 == v0 then
        kr v3
      else
        rec v0 (IntKind.wrap .i64 (v3 + (1 : Int)))
  else
    k0 ()
noncomputable def F.ref10_Kind.L2 {X : Type} (n : Nat) (k0 : Unit → Option X) (kr : Int → Option X) : Nat → (List UInt8) → Int → Option X
  | 0 => fun _ _ => none
  | m + 1 => fun v0 v3 => F.ref10_Kind.L2.step n (F.ref10_Kind.L2 n k0 kr m) k0 kr v0 v3
noncomputable def F.ref10_Kind (n : Nat) (a0 : List UInt8) : Option (Int) :=
  F.ref10_Kind.L2 n
    (fun (_ : Unit) =>
      some ((0 : Int)))
    (fun e3_2 =>
      some (e3_2)) n a0 (1 : Int)
noncomputable def F.law10_StatsdWords (n : Nat) (a0 : Int) (a1 : List UInt8) : Option (Bool) :=
  bif decide ((a1.length : Int) > (100 : Int)) then
    (F.law10_awake n ).bind fun y1 =>
      some (y1)
  else
    (O.word n a0).bind fun y2 =>
      (F.ref10_Word n a0).bind fun y3 =>
        bif y3 == [] then
          bif !(y2.1 == []) then
            some (false)
          else
          bif !(y2.2.1 == (16 : Int)) then
            some (false)
          else
            (F.statsd_Kind n a1).bind fun y4 =>
              (F.ref10_Kind n a1).bind fun y5 =>
                bif y5 == (0 : Int) then
                  bif y4.1 == (0 : Int) then
                    bif y4.2.1 == (16 : Int) then
                      (F.law10_awake n ).bind fun y6 =>
                        some (y6)
                    else
                      some (false)
                  else
                    some (false)
                else
                bif y4.1 == y5 then
                  bif y4.2.1 == (0 : Int) then
                    (F.law10_awake n ).bind fun y7 =>
                      some (y7)
                  else
                    some (false)
                else
                  some (false)
        else
          (F.statsd_Kind n y2.1).bind fun y8 =>
            bif !(y2.1 == y3) then
              some (false)
            else
            bif !(y2.2.1 == (0 : Int)) then
              some (false)
            else
            bif !(y8.1 == a0) then
              some (false)
            else
            bif !(y8.2.1 == (0 : Int)) then
              some (false)
            else
              (F.statsd_Kind n a1).bind fun y9 =>
                (F.ref10_Kind n a1).bind fun y10 =>
                  bif y10 == (0 : Int) then
                    bif y9.1 == (0 : Int) then
                      bif y9.2.1 == (16 : Int) then
                        (F.law10_awake n ).bind fun y11 =>
                          some (y11)
                      else
                        some (false)
                    else
                      some (false)
                  else
                  bif y9.1 == y10 then
                    bif y9.2.1 == (0 : Int) then
                      (F.law10_awake n ).bind fun y12 =>
                        some (y12)
                    else
                      some (false)
                  else
                    some (false)
noncomputable def F.law10_Small.L2.step {X : Type} (n : Nat) (rec : Int → (List UInt8) → Int → (List ((Bool) × (Int) × (Int))) → Int → (List ((List UInt8) × (List UInt8))) → Int → Option X) (k0 : (List UInt8) → Int → (List ((Bool) × (Int) × (Int))) → Int → (List ((List UInt8) × (List UInt8))) → Int → Option X) (kr : Bool → (List UInt8) → Int → (List ((Bool) × (Int) × (Int))) → Int → (List ((List UInt8) × (List UInt8))) → Int → Option X) (v3 : Int) (vb0_0 : List UInt8) (vb0_1 : Int) (vb0_2 : List ((Bool) × (Int) × (Int))) (vb0_3 : Int) (vb0_4 : List ((List UInt8) × (List UInt8))) (vb0_5 : Int) : Option X :=
  bif decide (v3 < (vb0_4.length : Int)) then
    bif decide (v3 < (51 : Int)) then
      (idx vb0_4 v3).bind fun x1 =>
        bif decide ((x1.1.length : Int) > (200 : Int)) then
          kr false vb0_0 vb0_1 vb0_2 vb0_3 vb0_4 vb0_5
        else
          (idx vb0_4 v3).bind fun x2 =>
            bif decide ((x2.2.length : Int) > (200 : Int)) then
              kr false vb0_0 vb0_1 vb0_2 vb0_3 vb0_4 vb0_5
            else
              rec (IntKind.wrap .i64 (v3 + (1 : Int))) vb0_0 vb0_1 vb0_2 vb0_3 vb0_4 vb0_5
    else
      k0 vb0_0 vb0_1 vb0_2 vb0_3 vb0_4 vb0_5
  else
    k0 vb0_0 vb0_1 vb0_2 vb0_3 vb0_4 vb0_5
noncomputable def F.law10_Small.L2 {X : Type} (n : Nat) (k0 : (List UInt8) → Int → (List ((Bool) × (Int) × (Int))) → Int → (List ((List UInt8) × (List UInt8))) → Int → Option X) (kr : Bool → (List UInt8) → Int → (List ((Bool) × (Int) × (Int))) → Int → (List ((List UInt8) × (List UInt8))) → Int → Option X) : Nat → Int → (List UInt8) → Int → (List ((Bool) × (Int) × (Int))) → Int → (List ((List UInt8) × (List UInt8))) → Int → Option X
  | 0 => fun _ _ _ _ _ _ _ => none
  | m + 1 => fun v3 vb0_0 vb0_1 vb0_2 vb0_3 vb0_4 vb0_5 => F.law10_Small.L2.step n (F.law10_Small.L2 n k0 kr m) k0 kr v3 vb0_0 vb0_1 vb0_2 vb0_3 vb0_4 vb0_5
noncomputable def F.law10_Small (n : Nat) (a0 : (List UInt8) × (Int) × (List ((Bool) × (Int) × (Int))) × (Int) × (List ((List UInt8) × (List UInt8))) × (Int) × Unit) : Option (Bool) :=
  F.law10_Small.L2 n
    (fun e3_b0_0 e3_b0_1 e3_b0_2 e3_b0_3 e3_b0_4 e3_b0_5 =>
      bif decide ((e3_b0_0.length : Int) ≤ (300 : Int)) then
        bif decide ((e3_b0_2.length : Int) ≤ (80 : Int)) then
          some (decide ((e3_b0_4.length : Int) ≤ (50 : Int)))
        else
          some (false)
      else
        some (false))
    (fun e4_2 e4_b0_0 e4_b0_1 e4_b0_2 e4_b0_3 e4_b0_4 e4_b0_5 =>
      some (e4_2)) n (0 : Int) a0.1 a0.2.1 a0.2.2.1 a0.2.2.2.1 a0.2.2.2.2.1 a0.2.2.2.2.2.1
noncomputable def F.ref03_Digits.go (n : Nat) : Nat → (Int) → Option (List UInt8)
  | 0 => fun _ => none
  | m + 1 => fun a0 =>
    bif decide (a0 < (10 : Int)) then
      (sub ([48, 49, 50, 51, 52, 53, 54, 55, 56, 57]) a0 (IntKind.wrap .u64 (a0 + (1 : Int)))).bind fun x1 =>
        some (x1)
    else
      (F.ref03_Digits.go n m (IntKind.wrap .u64 (a0.tdiv (10 : Int)))).bind fun y2 =>
        (sub ([48, 49, 50, 51, 52, 53, 54, 55, 56, 57]) (a0.tmod (10 : Int)) (IntKind.wrap .u64 ((a0.tmod (10 : Int)) + (1 : Int)))).bind fun x3 =>
          bif decide (y2.length + x3.length ≤ strMax) then
            some (y2 ++ x3)
          else
            none
noncomputable def F.ref03_Digits (n : Nat) (a0 : Int) : Option (List UInt8) := F.ref03_Digits.go n n a0
noncomputable def F.ref03_Fits (n : Nat) (a0 : List UInt8) : Option (Bool) :=
  bif decide ((a0.length : Int) < (20 : Int)) then
    some (true)
  else
  bif (a0.length : Int) == (20 : Int) then
    some (Op.bytesLess a0 ([49, 56, 52, 52, 54, 55, 52, 52, 48, 55, 51, 55, 48, 57, 53, 53, 49, 54, 49, 53]) || a0 == ([49, 56, 52, 52, 54, 55, 52, 52, 48, 55, 51, 55, 48, 57, 53, 53, 49, 54, 49, 53]))
  else
    some (false)
noncomputable def F.ref03_Value.L3.step {X : Type} (n : Nat) (rec : (List UInt8) → Int → Int → Option X) (k0 : Int → Option X) (v0 : List UInt8) (v3 : Int) (v4 : Int) : Option X :=
  bif decide (v4 < (v0.length : Int)) then
    (idx v0 v4).bind fun x1 =>
      rec v0 (IntKind.wrap .u64 ((IntKind.wrap .u64 ((10 : Int) * v3)) + (IntKind.wrap .u64 (IntKind.wrap .u8 (((x1).toNat) - (48 : Int)))))) (IntKind.wrap .i64 (v4 + (1 : Int)))
  else
    k0 v3
noncomputable def F.ref03_Value.L3 {X : Type} (n : Nat) (k0 : Int → Option X) : Nat → (List UInt8) → Int → Int → Option X
  | 0 => fun _ _ _ => none
  | m + 1 => fun v0 v3 v4 => F.ref03_Value.L3.step n (F.ref03_Value.L3 n k0 m) k0 v0 v3 v4
noncomputable def F.ref03_Value (n : Nat) (a0 : List UInt8) : Option (Int) :=
  F.ref03_Value.L3 n
    (fun e2_3 =>
      some (e2_3)) n a0 (0 : Int) (0 : Int)
noncomputable def F.ref03_Make.L1.step {X : Type} (n : Nat) (rec : Bool → (List UInt8) → Int → Bool → Int → Int → Option X) (k0 : Bool → (List UInt8) → Int → Bool → Int → Int → Option X) (v0 : Bool) (v1 : List UInt8) (v2 : Int) (vb0_0 : Bool) (vb0_1 : Int) (vb0_2 : Int) : Option X :=
  bif decide ((v1.length : Int) > (0 : Int)) then
    (idx v1 (0 : Int)).bind fun x1 =>
      bif ((x1).toNat) == (48 : Int) then
        (sub v1 (1 : Int) (v1.length : Int)).bind fun x2 =>
          rec v0 x2 v2 vb0_0 vb0_1 vb0_2
      else
        k0 v0 v1 v2 vb0_0 vb0_1 vb0_2
  else
    k0 v0 v1 v2 vb0_0 vb0_1 vb0_2
noncomputable def F.ref03_Make.L1 {X : Type} (n : Nat) (k0 : Bool → (List UInt8) → Int → Bool → Int → Int → Option X) : Nat → Bool → (List UInt8) → Int → Bool → Int → Int → Option X
  | 0 => fun _ _ _ _ _ _ => none
  | m + 1 => fun v0 v1 v2 vb0_0 vb0_1 vb0_2 => F.ref03_Make.L1.step n (F.ref03_Make.L1 n k0 m) k0 v0 v1 v2 vb0_0 vb0_1 vb0_2
noncomputable def F.ref03_Make.L7.step {X : Type} (n : Nat) (rec : Bool → (List UInt8) → Int → Bool → Int → Int → Option X) (k2 : Bool → (List UInt8) → Int → Bool → Int → Int → Option X) (v0 : Bool) (v1 : List UInt8) (v2 : Int) (vb0_0 : Bool) (vb0_1 : Int) (vb0_2 : Int) : Option X :=
  bif decide (v2 < (18 : Int)) then
    (idx v1 (IntKind.wrap .i64 ((v1.length : Int) - (1 : Int)))).bind fun x4 =>
      bif ((x4).toNat) == (48 : Int) then
        (sub v1 (0 : Int) (IntKind.wrap .i64 ((v1.length : Int) - (1 : Int)))).bind fun x5 =>
          rec v0 x5 (IntKind.wrap .i64 (v2 + (1 : Int))) vb0_0 vb0_1 vb0_2
      else
        k2 v0 v1 v2 vb0_0 vb0_1 vb0_2
  else
    k2 v0 v1 v2 vb0_0 vb0_1 vb0_2
noncomputable def F.ref03_Make.L7 {X : Type} (n : Nat) (k2 : Bool → (List UInt8) → Int → Bool → Int → Int → Option X) : Nat → Bool → (List UInt8) → Int → Bool → Int → Int → Option X
  | 0 => fun _ _ _ _ _ _ => none
  | m + 1 => fun v0 v1 v2 vb0_0 vb0_1 vb0_2 => F.ref03_Make.L7.step n (F.ref03_Make.L7 n k2 m) k2 v0 v1 v2 vb0_0 vb0_1 vb0_2
noncomputable def F.ref03_Make.L10.step {X : Type} (n : Nat) (rec : Bool → (List UInt8) → Int → Bool → Int → Int → Option X) (k4 : Bool → (List UInt8) → Int → Bool → Int → Int → Option X) (v0 : Bool) (v1 : List UInt8) (v2 : Int) (vb0_0 : Bool) (vb0_1 : Int) (vb0_2 : Int) : Option X :=
  bif decide (v2 > (18 : Int)) then
    bif decide (v1.length + 1 ≤ strMax) then
      rec v0 (v1 ++ ([48])) (IntKind.wrap .i64 (v2 - (1 : Int))) vb0_0 vb0_1 vb0_2
    else
      none
  else
    k4 v0 v1 v2 vb0_0 vb0_1 vb0_2
noncomputable def F.ref03_Make.L10 {X : Type} (n : Nat) (k4 : Bool → (List UInt8) → Int → Bool → Int → Int → Option X) : Nat → Bool → (List UInt8) → Int → Bool → Int → Int → Option X
  | 0 => fun _ _ _ _ _ _ => none
  | m + 1 => fun v0 v1 v2 vb0_0 vb0_1 vb0_2 => F.ref03_Make.L10.step n (F.ref03_Make.L10 n k4 m) k4 v0 v1 v2 vb0_0 vb0_1 vb0_2
noncomputable def F.ref03_Make (n : Nat) (a0 : Bool) (a1 : List UInt8) (a2 : Int) : Option (((Bool) × (Int) × (Int) × Unit) × (Bool) × Unit) :=
  F.ref03_Make.L1 n
    (fun e3_0 e3_1 e3_2 e3_b0_0 e3_b0_1 e3_b0_2 =>
      bif e3_1 == [] then
        some (((false, (0 : Int), (0 : Int), ()), true, ()))
      else
      bif decide (e3_2 > (1000 : Int)) then
        some (((false, (0 : Int), (0 : Int), ()), false, ()))
      else
      bif decide (e3_2 < (-1000000 : Int)) then
        some (((false, (0 : Int), (0 : Int), ()), false, ()))
      else
        F.ref03_Make.L7 n
          (fun e6_0 e6_1 e6_2 e6_b0_0 e6_b0_1 e6_b0_2 =>
            F.ref03_Make.L10 n
              (fun e7_0 e7_1 e7_2 e7_b0_0 e7_b0_1 e7_b0_2 =>
                bif decide (e7_2 < (-18 : Int)) then
                  some (((false, (0 : Int), (0 : Int), ()), false, ()))
                else
                  (F.ref03_Fits n e7_1).bind fun y8 =>
                    bif !y8 then
                      some (((false, (0 : Int), (0 : Int), ()), false, ()))
                    else
                      (F.ref03_Value n e7_1).bind fun y9 =>
                        some (((e7_0, y9, e7_2, ()), true, ()))) n e6_0 e6_1 e6_2 e6_b0_0 e6_b0_1 e6_b0_2) n e3_0 e3_1 e3_2 e3_b0_0 e3_b0_1 e3_b0_2) n a0 a1 a2 false (0 : Int) (0 : Int)
noncomputable def F.ref03_Check (n : Nat) (a0 : (Bool) × (Int) × (Int) × Unit) : Option (Int) :=
  bif !(a0.2.1 == (0 : Int)) then
    bif decide (a0.2.2.1 < (-18 : Int)) then
      some ((10 : Int))
    else
    bif decide (a0.2.2.1 > (18 : Int)) then
      some ((10 : Int))
    else
      (F.ref03_Digits n a0.2.1).bind fun y1 =>
        (F.ref03_Make n a0.1 y1 a0.2.2.1).bind fun y2 =>
          bif !y2.2.1 then
            some ((21 : Int))
          else
          bif !((y2.1.1 == a0.1) && ((y2.1.2.1 == a0.2.1) && (y2.1.2.2.1 == a0.2.2.1))) then
            some ((21 : Int))
          else
            some ((0 : Int))
  else
    (F.ref03_Digits n a0.2.1).bind fun y3 =>
      (F.ref03_Make n a0.1 y3 a0.2.2.1).bind fun y4 =>
        bif !y4.2.1 then
          some ((21 : Int))
        else
        bif !((y4.1.1 == a0.1) && ((y4.1.2.1 == a0.2.1) && (y4.1.2.2.1 == a0.2.2.1))) then
          some ((21 : Int))
        else
          some ((0 : Int))
noncomputable def F.ref07_Name.L2.step {X : Type} (n : Nat) (rec : (List UInt8) → Int → Option X) (k0 : (List UInt8) → Option X) (kr : Bool → Option X) (v0 : List UInt8) (v3 : Int) : Option X :=
  bif decide (v3 < (v0.length : Int)) then
    (idx v0 v3).bind fun x1 =>
      bif decide (((x1).toNat) ≥ (97 : Int)) then
        bif decide (((x1).toNat) ≤ (122 : Int)) then
          rec v0 (IntKind.wrap .i64 (v3 + (1 : Int)))
        else
        bif decide (((x1).toNat) ≥ (65 : Int)) then
          bif decide (((x1).toNat) ≤ (90 : Int)) then
            rec v0 (IntKind.wrap .i64 (v3 + (1 : Int)))
          else
          bif decide (((x1).toNat) ≥ (48 : Int)) then
            bif decide (((x1).toNat) ≤ (57 : Int)) then
              rec v0 (IntKind.wrap .i64 (v3 + (1 : Int)))
            else
            bif ((x1).toNat) == (95 : Int) then
              rec v0 (IntKind.wrap .i64 (v3 + (1 : Int)))
            else
            bif ((x1).toNat) == (46 : Int) then
              rec v0 (IntKind.wrap .i64 (v3 + (1 : Int)))
            else
            bif !(((x1).toNat) == (45 : Int)) then
              kr false
            else
              rec v0 (IntKind.wrap .i64 (v3 + (1 : Int)))
          else
          bif ((x1).toNat) == (95 : Int) then
            rec v0 (IntKind.wrap .i64 (v3 + (1 : Int)))
          else
          bif ((x1).toNat) == (46 : Int) then
            rec v0 (IntKind.wrap .i64 (v3 + (1 : Int)))
          else
          bif !(((x1).toNat) == (45 : Int)) then
            kr false
          else
            rec v0 (IntKind.wrap .i64 (v3 + (1 : Int)))
        else
        bif decide (((x1).toNat) ≥ (48 : Int)) then
          bif decide (((x1).toNat) ≤ (57 : Int)) then
            rec v0 (IntKind.wrap .i64 (v3 + (1 : Int)))
          else
          bif ((x1).toNat) == (95 : Int) then
            rec v0 (IntKind.wrap .i64 (v3 + (1 : Int)))
          else
          bif ((x1).toNat) == (46 : Int) then
            rec v0 (IntKind.wrap .i64 (v3 + (1 : Int)))
          else
          bif !(((x1).toNat) == (45 : Int)) then
            kr false
          else
            rec v0 (IntKind.wrap .i64 (v3 + (1 : Int)))
        else
        bif ((x1).toNat) == (95 : Int) then
          rec v0 (IntKind.wrap .i64 (v3 + (1 : Int)))
        else
        bif ((x1).toNat) == (46 : Int) then
          rec v0 (IntKind.wrap .i64 (v3 + (1 : Int)))
        else
        bif !(((x1).toNat) == (45 : Int)) then
          kr false
        else
          rec v0 (IntKind.wrap .i64 (v3 + (1 : Int)))
      else
      bif decide (((x1).toNat) ≥ (65 : Int)) then
        bif decide (((x1).toNat) ≤ (90 : Int)) then
          rec v0 (IntKind.wrap .i64 (v3 + (1 : Int)))
        else
        bif decide (((x1).toNat) ≥ (48 : Int)) then
          bif decide (((x1).toNat) ≤ (57 : Int)) then
            rec v0 (IntKind.wrap .i64 (v3 + (1 : Int)))
          else
          bif ((x1).toNat) == (95 : Int) then
            rec v0 (IntKind.wrap .i64 (v3 + (1 : Int)))
          else
          bif ((x1).toNat) == (46 : Int) then
            rec v0 (IntKind.wrap .i64 (v3 + (1 : Int)))
          else
          bif !(((x1).toNat) == (45 : Int)) then
            kr false
          else
            rec v0 (IntKind.wrap .i64 (v3 + (1 : Int)))
        else
        bif ((x1).toNat) == (95 : Int) then
          rec v0 (IntKind.wrap .i64 (v3 + (1 : Int)))
        else
        bif ((x1).toNat) == (46 : Int) then
          rec v0 (IntKind.wrap .i64 (v3 + (1 : Int)))
        else
        bif !(((x1).toNat) == (45 : Int)) then
          kr false
        else
          rec v0 (IntKind.wrap .i64 (v3 + (1 : Int)))
      else
      bif decide (((x1).toNat) ≥ (48 : Int)) then
        bif decide (((x1).toNat) ≤ (57 : Int)) then
          rec v0 (IntKind.wrap .i64 (v3 + (1 : Int)))
        else
        bif ((x1).toNat) == (95 : Int) then
          rec v0 (IntKind.wrap .i64 (v3 + (1 : Int)))
        else
        bif ((x1).toNat) == (46 : Int) then
          rec v0 (IntKind.wrap .i64 (v3 + (1 : Int)))
        else
        bif !(((x1).toNat) == (45 : Int)) then
          kr false
        else
          rec v0 (IntKind.wrap .i64 (v3 + (1 : Int)))
      else
      bif ((x1).toNat) == (95 : Int) then
        rec v0 (IntKind.wrap .i64 (v3 + (1 : Int)))
      else
      bif ((x1).toNat) == (46 : Int) then
        rec v0 (IntKind.wrap .i64 (v3 + (1 : Int)))
      else
      bif !(((x1).toNat) == (45 : Int)) then
        kr false
      else
        rec v0 (IntKind.wrap .i64 (v3 + (1 : Int)))
  else
    k0 v0
noncomputable def F.ref07_Name.L2 {X : Type} (n : Nat) (k0 : (List UInt8) → Option X) (kr : Bool → Option X) : Nat → (List UInt8) → Int → Option X
  | 0 => fun _ _ => none
  | m + 1 => fun v0 v3 => F.ref07_Name.L2.step n (F.ref07_Name.L2 n k0 kr m) k0 kr v0 v3
noncomputable def F.ref07_Name (n : Nat) (a0 : List UInt8) : Option (Bool) :=
  F.ref07_Name.L2 n
    (fun e2_0 =>
      bif decide ((e2_0.length : Int) ≥ (1 : Int)) then
        some (decide ((e2_0.length : Int) ≤ (200 : Int)))
      else
        some (false))
    (fun e3_2 =>
      some (e3_2)) n a0 (0 : Int)
noncomputable def F.ref04_Bytes (n : Nat) (a0 : Int) : Option (List UInt8) :=
  bif decide (52 + 10 ≤ strMax) then
    bif decide (((([65, 66, 67, 68, 69, 70, 71, 72, 73, 74, 75, 76, 77, 78, 79, 80, 81, 82, 83, 84, 85, 86, 87, 88, 89, 90, 97, 98, 99, 100, 101, 102, 103, 104, 105, 106, 107, 108, 109, 110, 111, 112, 113, 114, 115, 116, 117, 118, 119, 120, 121, 122]) ++ ([48, 49, 50, 51, 52, 53, 54, 55, 56, 57])).length) + 3 ≤ strMax) then
      bif a0 == (1 : Int) then
        some ((([65, 66, 67, 68, 69, 70, 71, 72, 73, 74, 75, 76, 77, 78, 79, 80, 81, 82, 83, 84, 85, 86, 87, 88, 89, 90, 97, 98, 99, 100, 101, 102, 103, 104, 105, 106, 107, 108, 109, 110, 111, 112, 113, 114, 115, 116, 117, 118, 119, 120, 121, 122]) ++ ([48, 49, 50, 51, 52, 53, 54, 55, 56, 57])) ++ ([95, 46, 45]))
      else
      bif a0 == (2 : Int) then
        bif decide ((((([65, 66, 67, 68, 69, 70, 71, 72, 73, 74, 75, 76, 77, 78, 79, 80, 81, 82, 83, 84, 85, 86, 87, 88, 89, 90, 97, 98, 99, 100, 101, 102, 103, 104, 105, 106, 107, 108, 109, 110, 111, 112, 113, 114, 115, 116, 117, 118, 119, 120, 121, 122]) ++ ([48, 49, 50, 51, 52, 53, 54, 55, 56, 57])) ++ ([95, 46, 45])).length) + 1 ≤ strMax) then
          some (((([65, 66, 67, 68, 69, 70, 71, 72, 73, 74, 75, 76, 77, 78, 79, 80, 81, 82, 83, 84, 85, 86, 87, 88, 89, 90, 97, 98, 99, 100, 101, 102, 103, 104, 105, 106, 107, 108, 109, 110, 111, 112, 113, 114, 115, 116, 117, 118, 119, 120, 121, 122]) ++ ([48, 49, 50, 51, 52, 53, 54, 55, 56, 57])) ++ ([95, 46, 45])) ++ ([47]))
        else
          none
      else
      bif a0 == (3 : Int) then
        bif decide ((((([65, 66, 67, 68, 69, 70, 71, 72, 73, 74, 75, 76, 77, 78, 79, 80, 81, 82, 83, 84, 85, 86, 87, 88, 89, 90, 97, 98, 99, 100, 101, 102, 103, 104, 105, 106, 107, 108, 109, 110, 111, 112, 113, 114, 115, 116, 117, 118, 119, 120, 121, 122]) ++ ([48, 49, 50, 51, 52, 53, 54, 55, 56, 57])) ++ ([95, 46, 45])).length) + 27 ≤ strMax) then
          some (((([65, 66, 67, 68, 69, 70, 71, 72, 73, 74, 75, 76, 77, 78, 79, 80, 81, 82, 83, 84, 85, 86, 87, 88, 89, 90, 97, 98, 99, 100, 101, 102, 103, 104, 105, 106, 107, 108, 109, 110, 111, 112, 113, 114, 115, 116, 117, 118, 119, 120, 121, 122]) ++ ([48, 49, 50, 51, 52, 53, 54, 55, 56, 57])) ++ ([95, 46, 45])) ++ ([47, 33, 34, 35, 36, 37, 38, 39, 40, 41, 42, 43, 58, 59, 60, 61, 62, 63, 64, 91, 92, 93, 94, 96, 123, 125, 126]))
        else
          none
      else
      bif a0 == (4 : Int) then
        some ([48, 49, 50, 51, 52, 53, 54, 55, 56, 57])
      else
        some ([])
    else
      none
  else
    none
noncomputable def F.ref04_Is.L3.step {X : Type} (n : Nat) (rec : Int → (List UInt8) → Int → Option X) (k0 : Unit → Option X) (kr : Bool → Option X) (v1 : Int) (v5 : List UInt8) (v6 : Int) : Option X :=
  bif decide (v6 < (v5.length : Int)) then
    (idx v5 v6).bind fun x2 =>
      bif ((x2).toNat) == v1 then
        kr true
      else
        rec v1 v5 (IntKind.wrap .i64 (v6 + (1 : Int)))
  else
    k0 ()
noncomputable def F.ref04_Is.L3 {X : Type} (n : Nat) (k0 : Unit → Option X) (kr : Bool → Option X) : Nat → Int → (List UInt8) → Int → Option X
  | 0 => fun _ _ _ => none
  | m + 1 => fun v1 v5 v6 => F.ref04_Is.L3.step n (F.ref04_Is.L3 n k0 kr m) k0 kr v1 v5 v6
noncomputable def F.ref04_Is (n : Nat) (a0 : Int) (a1 : Int) : Option (Bool) :=
  (F.ref04_Bytes n a0).bind fun y1 =>
    F.ref04_Is.L3 n
      (fun (_ : Unit) =>
        some (false))
      (fun e4_4 =>
        some (e4_4)) n a1 y1 (0 : Int)
noncomputable def F.ref04_Bad.L2.step {X : Type} (n : Nat) (rec : Int → (List UInt8) → Int → Option X) (k0 : Unit → Option X) (kr : Int → Option X) (v0 : Int) (v1 : List UInt8) (v5 : Int) : Option X :=
  bif decide (v5 < (v1.length : Int)) then
    (idx v1 v5).bind fun x1 =>
      (F.ref04_Is n v0 ((x1).toNat)).bind fun y2 =>
        bif !y2 then
          kr v5
        else
          rec v0 v1 (IntKind.wrap .i64 (v5 + (1 : Int)))
  else
    k0 ()
noncomputable def F.ref04_Bad.L2 {X : Type} (n : Nat) (k0 : Unit → Option X) (kr : Int → Option X) : Nat → Int → (List UInt8) → Int → Option X
  | 0 => fun _ _ _ => none
  | m + 1 => fun v0 v1 v5 => F.ref04_Bad.L2.step n (F.ref04_Bad.L2 n k0 kr m) k0 kr v0 v1 v5
noncomputable def F.ref04_Bad (n : Nat) (a0 : Int) (a1 : List UInt8) : Option (Int) :=
  F.ref04_Bad.L2 n
    (fun (_ : Unit) =>
      some ((-1 : Int)))
    (fun e4_4 =>
      some (e4_4)) n a0 a1 (0 : Int)
noncomputable def F.ref04_Text (n : Nat) (a0 : Int) (a1 : List UInt8) (a2 : Int) (a3 : Int) : Option ((Int) × (Int) × Unit) :=
  bif decide ((a1.length : Int) < a2) then
    some (((13 : Int), (a1.length : Int), ()))
  else
  bif decide ((a1.length : Int) > a3) then
    some (((12 : Int), a3, ()))
  else
    (F.ref04_Bad n a0 a1).bind fun y1 =>
      bif decide (y1 ≥ (0 : Int)) then
        some (((14 : Int), y1, ()))
      else
        some (((0 : Int), (0 : Int), ()))
noncomputable def F.ref06_Right (n : Nat) (a0 : (List UInt8) × (List UInt8) × Unit) : Option (Bool) :=
  (F.ref04_Text n (2 : Int) a0.1 (1 : Int) (64 : Int)).bind fun y1 =>
    bif (y1.1 == (0 : Int)) && (y1.2.1 == (0 : Int)) then
      (F.ref04_Text n (3 : Int) a0.2.1 (0 : Int) (100 : Int)).bind fun y2 =>
        some ((y2.1 == (0 : Int)) && (y2.2.1 == (0 : Int)))
    else
      some (false)
noncomputable def F.ref06_Check (n : Nat) (a0 : (List UInt8) × (List UInt8) × Unit) : Option (Int) :=
  (F.ref06_Right n (a0.1, a0.2.1, ())).bind fun y1 =>
    bif !y1 then
      some ((19 : Int))
    else
      some ((0 : Int))
noncomputable def F.ref07_Rest.L12.step {X : Type} (n : Nat) (rec : Int → (List UInt8) → Int → (List ((Bool) × (Int) × (Int))) → Int → (List ((List UInt8) × (List UInt8))) → Int → Option X) (k0 : (List UInt8) → Int → (List ((Bool) × (Int) × (Int))) → Int → (List ((List UInt8) × (List UInt8))) → Int → Option X) (kr : Int → (List UInt8) → Int → (List ((Bool) × (Int) × (Int))) → Int → (List ((List UInt8) × (List UInt8))) → Int → Option X) (v5 : Int) (vb0_0 : List UInt8) (vb0_1 : Int) (vb0_2 : List ((Bool) × (Int) × (Int))) (vb0_3 : Int) (vb0_4 : List ((List UInt8) × (List UInt8))) (vb0_5 : Int) : Option X :=
  bif decide (v5 < (vb0_4.length : Int)) then
    (idx vb0_4 v5).bind fun x2 =>
      (F.ref06_Check n (x2.1, x2.2, ())).bind fun y3 =>
        bif !(y3 == (0 : Int)) then
          kr (19 : Int) vb0_0 vb0_1 vb0_2 vb0_3 vb0_4 vb0_5
        else
          rec (IntKind.wrap .i64 (v5 + (1 : Int))) vb0_0 vb0_1 vb0_2 vb0_3 vb0_4 vb0_5
  else
    k0 vb0_0 vb0_1 vb0_2 vb0_3 vb0_4 vb0_5
noncomputable def F.ref07_Rest.L12 {X : Type} (n : Nat) (k0 : (List UInt8) → Int → (List ((Bool) × (Int) × (Int))) → Int → (List ((List UInt8) × (List UInt8))) → Int → Option X) (kr : Int → (List UInt8) → Int → (List ((Bool) × (Int) × (Int))) → Int → (List ((List UInt8) × (List UInt8))) → Int → Option X) : Nat → Int → (List UInt8) → Int → (List ((Bool) × (Int) × (Int))) → Int → (List ((List UInt8) × (List UInt8))) → Int → Option X
  | 0 => fun _ _ _ _ _ _ _ => none
  | m + 1 => fun v5 vb0_0 vb0_1 vb0_2 vb0_3 vb0_4 vb0_5 => F.ref07_Rest.L12.step n (F.ref07_Rest.L12 n k0 kr m) k0 kr v5 vb0_0 vb0_1 vb0_2 vb0_3 vb0_4 vb0_5
noncomputable def F.ref07_Rest (n : Nat) (a0 : (List UInt8) × (Int) × (List ((Bool) × (Int) × (Int))) × (Int) × (List ((List UInt8) × (List UInt8))) × (Int) × Unit) (a1 : Bool) : Option (Int) :=
  (F.ref07_Name n a0.1).bind fun y1 =>
    bif !y1 then
      some ((15 : Int))
    else
    bif decide (a0.2.1 < (1 : Int)) then
      some ((16 : Int))
    else
    bif decide (a0.2.1 > (5 : Int)) then
      some ((16 : Int))
    else
    bif !a1 then
      some ((17 : Int))
    else
    bif decide ((a0.2.2.1.length : Int) < (1 : Int)) then
      some ((17 : Int))
    else
    bif decide ((a0.2.2.1.length : Int) > (64 : Int)) then
      some ((17 : Int))
    else
    bif decide (a0.2.2.2.1 < (1 : Int)) then
      some ((18 : Int))
    else
    bif decide (a0.2.2.2.1 > (1000000 : Int)) then
      some ((18 : Int))
    else
    bif a0.2.1 == (2 : Int) then
      bif !(a0.2.2.2.1 == (1000000 : Int)) then
        some ((18 : Int))
      else
      bif decide ((a0.2.2.2.2.1.length : Int) > (32 : Int)) then
        some ((19 : Int))
      else
        F.ref07_Rest.L12 n
          (fun e4_b0_0 e4_b0_1 e4_b0_2 e4_b0_3 e4_b0_4 e4_b0_5 =>
            bif decide (e4_b0_5 < (0 : Int)) then
              some ((20 : Int))
            else
            bif decide (e4_b0_5 > (1099511627776 : Int)) then
              some ((20 : Int))
            else
              some ((0 : Int)))
          (fun e5_4 e5_b0_0 e5_b0_1 e5_b0_2 e5_b0_3 e5_b0_4 e5_b0_5 =>
            some (e5_4)) n (0 : Int) a0.1 a0.2.1 a0.2.2.1 a0.2.2.2.1 a0.2.2.2.2.1 a0.2.2.2.2.2.1
    else
    bif decide ((a0.2.2.2.2.1.length : Int) > (32 : Int)) then
      some ((19 : Int))
    else
      F.ref07_Rest.L12 n
        (fun e6_b0_0 e6_b0_1 e6_b0_2 e6_b0_3 e6_b0_4 e6_b0_5 =>
          bif decide (e6_b0_5 < (0 : Int)) then
            some ((20 : Int))
          else
          bif decide (e6_b0_5 > (1099511627776 : Int)) then
            some ((20 : Int))
          else
            some ((0 : Int)))
        (fun e7_4 e7_b0_0 e7_b0_1 e7_b0_2 e7_b0_3 e7_b0_4 e7_b0_5 =>
          some (e7_4)) n (0 : Int) a0.1 a0.2.1 a0.2.2.1 a0.2.2.2.1 a0.2.2.2.2.1 a0.2.2.2.2.2.1
noncomputable def F.ref07_Check.L3.step {X : Type} (n : Nat) (rec : Bool → Int → (List UInt8) → Int → (List ((Bool) × (Int) × (Int))) → Int → (List ((List UInt8) × (List UInt8))) → Int → Option X) (k0 : Bool → (List UInt8) → Int → (List ((Bool) × (Int) × (Int))) → Int → (List ((List UInt8) × (List UInt8))) → Int → Option X) (v3 : Bool) (v4 : Int) (vb0_0 : List UInt8) (vb0_1 : Int) (vb0_2 : List ((Bool) × (Int) × (Int))) (vb0_3 : Int) (vb0_4 : List ((List UInt8) × (List UInt8))) (vb0_5 : Int) : Option X :=
  bif decide (v4 < (vb0_2.length : Int)) then
    bif v3 then
      (idx vb0_2 v4).bind fun x1 =>
        (F.ref03_Check n (x1.1, x1.2.1, x1.2.2, ())).bind fun y2 =>
          rec (y2 == (0 : Int)) (IntKind.wrap .i64 (v4 + (1 : Int))) vb0_0 vb0_1 vb0_2 vb0_3 vb0_4 vb0_5
    else
      rec false (IntKind.wrap .i64 (v4 + (1 : Int))) vb0_0 vb0_1 vb0_2 vb0_3 vb0_4 vb0_5
  else
    k0 v3 vb0_0 vb0_1 vb0_2 vb0_3 vb0_4 vb0_5
noncomputable def F.ref07_Check.L3 {X : Type} (n : Nat) (k0 : Bool → (List UInt8) → Int → (List ((Bool) × (Int) × (Int))) → Int → (List ((List UInt8) × (List UInt8))) → Int → Option X) : Nat → Bool → Int → (List UInt8) → Int → (List ((Bool) × (Int) × (Int))) → Int → (List ((List UInt8) × (List UInt8))) → Int → Option X
  | 0 => fun _ _ _ _ _ _ _ _ => none
  | m + 1 => fun v3 v4 vb0_0 vb0_1 vb0_2 vb0_3 vb0_4 vb0_5 => F.ref07_Check.L3.step n (F.ref07_Check.L3 n k0 m) k0 v3 v4 vb0_0 vb0_1 vb0_2 vb0_3 vb0_4 vb0_5
noncomputable def F.ref07_Check (n : Nat) (a0 : (List UInt8) × (Int) × (List ((Bool) × (Int) × (Int))) × (Int) × (List ((List UInt8) × (List UInt8))) × (Int) × Unit) : Option (Int) :=
  F.ref07_Check.L3 n
    (fun e3_3 e3_b0_0 e3_b0_1 e3_b0_2 e3_b0_3 e3_b0_4 e3_b0_5 =>
      (F.ref07_Rest n (e3_b0_0, e3_b0_1, e3_b0_2, e3_b0_3, e3_b0_4, e3_b0_5, ()) e3_3).bind fun y4 =>
        some (y4)) n true (0 : Int) a0.1 a0.2.1 a0.2.2.1 a0.2.2.2.1 a0.2.2.2.2.1 a0.2.2.2.2.2.1
noncomputable def F.ref09_Says (n : Nat) (a0 : (List UInt8) × (Int) × (List ((Bool) × (Int) × (Int))) × (Int) × (List ((List UInt8) × (List UInt8))) × (Int) × Unit) (a1 : Int) : Option (Bool) :=
  bif (a0.2.2.1.length : Int) == (1 : Int) then
    bif a1 == (1 : Int) then
      bif (a0.2.2.2.2.1.length : Int) == (0 : Int) then
        bif a0.2.2.2.2.2.1 == (0 : Int) then
          bif !(a0.2.1 == (5 : Int)) then
            bif a0.2.1 == (2 : Int) then
              (idx a0.2.2.1 (0 : Int)).bind fun x1 =>
                some (!x1.1)
            else
              some (true)
          else
            some (false)
        else
          some (false)
      else
        some (false)
    else
    bif a1 == (3 : Int) then
      bif (a0.2.2.2.2.1.length : Int) == (0 : Int) then
        bif !(a0.2.2.2.2.2.1 == (0 : Int)) then
          some (a0.2.1 == (2 : Int))
        else
          some (false)
      else
        some (false)
    else
      some (true)
  else
  bif a1 == (1 : Int) then
    some (false)
  else
  bif a1 == (3 : Int) then
    some (false)
  else
    some (true)
noncomputable def F.ref09_Metric (n : Nat) (a0 : (List UInt8) × (Int) × (List ((Bool) × (Int) × (Int))) × (Int) × (List ((List UInt8) × (List UInt8))) × (Int) × Unit) (a1 : Int) : Option (Int) :=
  bif decide (a1 < (1 : Int)) then
    some ((29 : Int))
  else
  bif decide (a1 > (4 : Int)) then
    some ((29 : Int))
  else
    (F.ref07_Check n (a0.1, a0.2.1, a0.2.2.1, a0.2.2.2.1, a0.2.2.2.2.1, a0.2.2.2.2.2.1, ())).bind fun y1 =>
      bif y1 == (0 : Int) then
        (F.ref09_Says n (a0.1, a0.2.1, a0.2.2.1, a0.2.2.2.1, a0.2.2.2.2.1, a0.2.2.2.2.2.1, ()) a1).bind fun y2 =>
          bif !y2 then
            some ((26 : Int))
          else
            some (y1)
      else
        some (y1)
noncomputable def F.ref03_Text.L3.step {X : Type} (n : Nat) (rec : (List UInt8) → Int → Bool → Int → Int → Option X) (k0 : (List UInt8) → Bool → Int → Int → Option X) (v3 : List UInt8) (v4 : Int) (vb0_0 : Bool) (vb0_1 : Int) (vb0_2 : Int) : Option X :=
  bif decide (v4 < vb0_2) then
    bif decide (v3.length + 1 ≤ strMax) then
      rec (v3 ++ ([48])) (IntKind.wrap .i64 (v4 + (1 : Int))) vb0_0 vb0_1 vb0_2
    else
      none
  else
    k0 v3 vb0_0 vb0_1 vb0_2
noncomputable def F.ref03_Text.L3 {X : Type} (n : Nat) (k0 : (List UInt8) → Bool → Int → Int → Option X) : Nat → (List UInt8) → Int → Bool → Int → Int → Option X
  | 0 => fun _ _ _ _ _ => none
  | m + 1 => fun v3 v4 vb0_0 vb0_1 vb0_2 => F.ref03_Text.L3.step n (F.ref03_Text.L3 n k0 m) k0 v3 v4 vb0_0 vb0_1 vb0_2
noncomputable def F.ref03_Text.L7.step {X : Type} (n : Nat) (rec : (List UInt8) → Bool → Int → Int → Option X) (k2 : (List UInt8) → Bool → Int → Int → Option X) (v3 : List UInt8) (vb0_0 : Bool) (vb0_1 : Int) (vb0_2 : Int) : Option X :=
  bif decide ((v3.length : Int) ≤ (IntKind.wrap .i64 (0 - vb0_2))) then
    bif decide (1 + v3.length ≤ strMax) then
      rec (([48]) ++ v3) vb0_0 vb0_1 vb0_2
    else
      none
  else
    k2 v3 vb0_0 vb0_1 vb0_2
noncomputable def F.ref03_Text.L7 {X : Type} (n : Nat) (k2 : (List UInt8) → Bool → Int → Int → Option X) : Nat → (List UInt8) → Bool → Int → Int → Option X
  | 0 => fun _ _ _ _ => none
  | m + 1 => fun v3 vb0_0 vb0_1 vb0_2 => F.ref03_Text.L7.step n (F.ref03_Text.L7 n k2 m) k2 v3 vb0_0 vb0_1 vb0_2
noncomputable def F.ref03_Text (n : Nat) (a0 : (Bool) × (Int) × (Int) × Unit) : Option (List UInt8) :=
  (F.ref03_Digits n a0.2.1).bind fun y1 =>
    F.ref03_Text.L3 n
      (fun e2_3 e2_b0_0 e2_b0_1 e2_b0_2 =>
        bif decide (e2_b0_2 < (0 : Int)) then
          F.ref03_Text.L7 n
            (fun e3_3 e3_b0_0 e3_b0_1 e3_b0_2 =>
              (sub e3_3 (0 : Int) (IntKind.wrap .i64 ((e3_3.length : Int) + e3_b0_2))).bind fun x4 =>
                bif decide (x4.length + 1 ≤ strMax) then
                  (sub e3_3 (IntKind.wrap .i64 ((e3_3.length : Int) + e3_b0_2)) (e3_3.length : Int)).bind fun x5 =>
                    bif decide (((x4 ++ ([46])).length) + x5.length ≤ strMax) then
                      bif e3_b0_0 then
                        bif decide (1 + (((x4 ++ ([46])) ++ x5).length) ≤ strMax) then
                          some (([45]) ++ ((x4 ++ ([46])) ++ x5))
                        else
                          none
                      else
                        some ((x4 ++ ([46])) ++ x5)
                    else
                      none
                else
                  none) n e2_3 e2_b0_0 e2_b0_1 e2_b0_2
        else
        bif e2_b0_0 then
          bif decide (1 + e2_3.length ≤ strMax) then
            some (([45]) ++ e2_3)
          else
            none
        else
          some (e2_3)) n y1 (0 : Int) a0.1 a0.2.1 a0.2.2.1
noncomputable def F.ref05_Digits.go (n : Nat) : Nat → (Int) → Option (List UInt8)
  | 0 => fun _ => none
  | m + 1 => fun a0 =>
    bif decide (a0 < (10 : Int)) then
      (sub ([48, 49, 50, 51, 52, 53, 54, 55, 56, 57]) a0 (IntKind.wrap .u64 (a0 + (1 : Int)))).bind fun x1 =>
        some (x1)
    else
      (F.ref05_Digits.go n m (IntKind.wrap .u64 (a0.tdiv (10 : Int)))).bind fun y2 =>
        (sub ([48, 49, 50, 51, 52, 53, 54, 55, 56, 57]) (a0.tmod (10 : Int)) (IntKind.wrap .u64 ((a0.tmod (10 : Int)) + (1 : Int)))).bind fun x3 =>
          bif decide (y2.length + x3.length ≤ strMax) then
            some (y2 ++ x3)
          else
            none
noncomputable def F.ref05_Digits (n : Nat) (a0 : Int) : Option (List UInt8) := F.ref05_Digits.go n n a0
noncomputable def F.ref05_RateText.L4.step {X : Type} (n : Nat) (rec : (List UInt8) → Option X) (k0 : (List UInt8) → Option X) (v3 : List UInt8) : Option X :=
  bif decide ((v3.length : Int) < (6 : Int)) then
    bif decide (1 + v3.length ≤ strMax) then
      rec (([48]) ++ v3)
    else
      none
  else
    k0 v3
noncomputable def F.ref05_RateText.L4 {X : Type} (n : Nat) (k0 : (List UInt8) → Option X) : Nat → (List UInt8) → Option X
  | 0 => fun _ => none
  | m + 1 => fun v3 => F.ref05_RateText.L4.step n (F.ref05_RateText.L4 n k0 m) k0 v3
noncomputable def F.ref05_RateText.L6.step {X : Type} (n : Nat) (rec : (List UInt8) → Option X) (k2 : (List UInt8) → Option X) (v3 : List UInt8) : Option X :=
  (idx v3 (IntKind.wrap .i64 ((v3.length : Int) - (1 : Int)))).bind fun x3 =>
    bif ((x3).toNat) == (48 : Int) then
      (sub v3 (0 : Int) (IntKind.wrap .i64 ((v3.length : Int) - (1 : Int)))).bind fun x4 =>
        rec x4
    else
      k2 v3
noncomputable def F.ref05_RateText.L6 {X : Type} (n : Nat) (k2 : (List UInt8) → Option X) : Nat → (List UInt8) → Option X
  | 0 => fun _ => none
  | m + 1 => fun v3 => F.ref05_RateText.L6.step n (F.ref05_RateText.L6 n k2 m) k2 v3
noncomputable def F.ref05_RateText (n : Nat) (a0 : Int) : Option (List UInt8) :=
  bif a0 == (1000000 : Int) then
    some ([49])
  else
    (F.ref05_Digits n (IntKind.wrap .u64 (a0))).bind fun y1 =>
      F.ref05_RateText.L4 n
        (fun e2_3 =>
          F.ref05_RateText.L6 n
            (fun e5_3 =>
              bif decide (2 + e5_3.length ≤ strMax) then
                some (([48, 46]) ++ e5_3)
              else
                none) n e2_3) n y1
noncomputable def F.ref10_Line (n : Nat) (a0 : (List UInt8) × (Int) × (List ((Bool) × (Int) × (Int))) × (Int) × (List ((List UInt8) × (List UInt8))) × (Int) × Unit) : Option (List UInt8) :=
  bif decide (a0.1.length + 1 ≤ strMax) then
    (idx a0.2.2.1 (0 : Int)).bind fun x1 =>
      (F.ref03_Text n (x1.1, x1.2.1, x1.2.2, ())).bind fun y2 =>
        bif decide (((a0.1 ++ ([58])).length) + y2.length ≤ strMax) then
          bif decide ((((a0.1 ++ ([58])) ++ y2).length) + 1 ≤ strMax) then
            (F.ref10_Word n a0.2.1).bind fun y3 =>
              bif decide (((((a0.1 ++ ([58])) ++ y2) ++ ([124])).length) + y3.length ≤ strMax) then
                bif !(a0.2.2.2.1 == (1000000 : Int)) then
                  bif decide ((((((a0.1 ++ ([58])) ++ y2) ++ ([124])) ++ y3).length) + 2 ≤ strMax) then
                    (F.ref05_RateText n a0.2.2.2.1).bind fun y4 =>
                      bif decide (((((((a0.1 ++ ([58])) ++ y2) ++ ([124])) ++ y3) ++ ([124, 64])).length) + y4.length ≤ strMax) then
                        some ((((((a0.1 ++ ([58])) ++ y2) ++ ([124])) ++ y3) ++ ([124, 64])) ++ y4)
                      else
                        none
                  else
                    none
                else
                  some ((((a0.1 ++ ([58])) ++ y2) ++ ([124])) ++ y3)
              else
                none
          else
            none
        else
          none
  else
    none
noncomputable def F.law10_StatsdLines (n : Nat) (a0 : (List UInt8) × (Int) × (List ((Bool) × (Int) × (Int))) × (Int) × (List ((List UInt8) × (List UInt8))) × (Int) × Unit) : Option (Bool) :=
  (F.law10_Small n (a0.1, a0.2.1, a0.2.2.1, a0.2.2.2.1, a0.2.2.2.2.1, a0.2.2.2.2.2.1, ())).bind fun y1 =>
    bif !y1 then
      (F.law10_awake n ).bind fun y2 =>
        some (y2)
    else
      (F.statsd_Line n (a0.1, a0.2.1, a0.2.2.1, a0.2.2.2.1, a0.2.2.2.2.1, a0.2.2.2.2.2.1, ())).bind fun y3 =>
        (F.ref09_Metric n (a0.1, a0.2.1, a0.2.2.1, a0.2.2.2.1, a0.2.2.2.2.1, a0.2.2.2.2.2.1, ()) (1 : Int)).bind fun y4 =>
          bif !(y4 == (0 : Int)) then
            bif y3.1 == [] then
              bif y3.2.1 == y4 then
                (F.law10_awake n ).bind fun y5 =>
                  some (y5)
              else
                some (false)
            else
              some (false)
          else
            (F.ref10_Line n (a0.1, a0.2.1, a0.2.2.1, a0.2.2.2.1, a0.2.2.2.2.1, a0.2.2.2.2.2.1, ())).bind fun y6 =>
              bif y3.1 == y6 then
                bif y3.2.1 == (0 : Int) then
                  (F.law10_awake n ).bind fun y7 =>
                    some (y7)
                else
                  some (false)
              else
                some (false)
noncomputable def F.ref10_Find.L2.step {X : Type} (n : Nat) (rec : (List UInt8) → Int → Int → Option X) (k0 : (List UInt8) → Option X) (kr : Int → Option X) (v0 : List UInt8) (v2 : Int) (v7 : Int) : Option X :=
  bif decide (v7 < (v0.length : Int)) then
    (idx v0 v7).bind fun x1 =>
      bif ((x1).toNat) == v2 then
        kr v7
      else
        rec v0 v2 (IntKind.wrap .i64 (v7 + (1 : Int)))
  else
    k0 v0
noncomputable def F.ref10_Find.L2 {X : Type} (n : Nat) (k0 : (List UInt8) → Option X) (kr : Int → Option X) : Nat → (List UInt8) → Int → Int → Option X
  | 0 => fun _ _ _ => none
  | m + 1 => fun v0 v2 v7 => F.ref10_Find.L2.step n (F.ref10_Find.L2 n k0 kr m) k0 kr v0 v2 v7
noncomputable def F.ref10_Find (n : Nat) (a0 : List UInt8) (a1 : Int) (a2 : Int) : Option (Int) :=
  F.ref10_Find.L2 n
    (fun e2_0 =>
      some ((e2_0.length : Int)))
    (fun e3_6 =>
      some (e3_6)) n a0 a2 a1
noncomputable def F.ref10_Name (n : Nat) (a0 : List UInt8) : Option (Bool) :=
  (F.ref04_Text n (1 : Int) a0 (1 : Int) (200 : Int)).bind fun y1 =>
    some ((y1.1 == (0 : Int)) && (y1.2.1 == (0 : Int)))
noncomputable def F.ref10_wrong (n : Nat) (a0 : Int) (a1 : Int) : Option (((List UInt8) × (Int) × (List ((Bool) × (Int) × (Int))) × (Int) × (List ((List UInt8) × (List UInt8))) × (Int) × Unit) × ((Int) × (Int) × Unit) × Unit) :=
  some ((([], (0 : Int), [], (0 : Int), [], (0 : Int), ()), (a0, a1, ()), ()))
noncomputable def F.ref03_digit (n : Nat) (a0 : Int) : Option (Bool) :=
  bif decide (a0 ≥ (48 : Int)) then
    some (decide (a0 ≤ (57 : Int)))
  else
    some (false)
noncomputable def F.ref03_Parse.L8.step {X : Type} (n : Nat) (rec : (List UInt8) → Bool → Int → (List UInt8) → Int → Bool → Bool → Int → Int → Int → Int → Option X) (k0 : (List UInt8) → Bool → (List UInt8) → Int → Bool → Bool → Int → Int → Int → Int → Option X) (kr : Bool → Int → Int → Int → Int → Option X) (v0 : List UInt8) (v4 : Bool) (v5 : Int) (v6 : List UInt8) (v7 : Int) (v8 : Bool) (vb0_0 : Bool) (vb0_1 : Int) (vb0_2 : Int) (vb1_0 : Int) (vb1_1 : Int) : Option X :=
  bif decide (v5 < (v0.length : Int)) then
    (idx v0 v5).bind fun x2 =>
      (F.ref03_digit n ((x2).toNat)).bind fun y3 =>
        bif y3 then
          (sub v0 v5 (IntKind.wrap .i64 (v5 + (1 : Int)))).bind fun x4 =>
            bif decide (v6.length + x4.length ≤ strMax) then
              rec v0 v4 (IntKind.wrap .i64 (v5 + (1 : Int))) (v6 ++ x4) v7 false vb0_0 vb0_1 vb0_2 vb1_0 vb1_1
            else
              none
        else
          (idx v0 v5).bind fun x5 =>
            bif ((x5).toNat) == (46 : Int) then
              bif decide (v7 < (0 : Int)) then
                bif !v8 then
                  rec v0 v4 (IntKind.wrap .i64 (v5 + (1 : Int))) v6 (v6.length : Int) true vb0_0 vb0_1 vb0_2 vb1_0 vb1_1
                else
                  kr false (0 : Int) (0 : Int) (14 : Int) v5
              else
                kr false (0 : Int) (0 : Int) (14 : Int) v5
            else
              kr false (0 : Int) (0 : Int) (14 : Int) v5
  else
    k0 v0 v4 v6 v7 v8 vb0_0 vb0_1 vb0_2 vb1_0 vb1_1
noncomputable def F.ref03_Parse.L8 {X : Type} (n : Nat) (k0 : (List UInt8) → Bool → (List UInt8) → Int → Bool → Bool → Int → Int → Int → Int → Option X) (kr : Bool → Int → Int → Int → Int → Option X) : Nat → (List UInt8) → Bool → Int → (List UInt8) → Int → Bool → Bool → Int → Int → Int → Int → Option X
  | 0 => fun _ _ _ _ _ _ _ _ _ _ _ => none
  | m + 1 => fun v0 v4 v5 v6 v7 v8 vb0_0 vb0_1 vb0_2 vb1_0 vb1_1 => F.ref03_Parse.L8.step n (F.ref03_Parse.L8 n k0 kr m) k0 kr v0 v4 v5 v6 v7 v8 vb0_0 vb0_1 vb0_2 vb1_0 vb1_1
noncomputable def F.ref03_Parse (n : Nat) (a0 : List UInt8) : Option (((Bool) × (Int) × (Int) × Unit) × ((Int) × (Int) × Unit) × Unit) :=
  bif decide ((a0.length : Int) > (0 : Int)) then
    (idx a0 (0 : Int)).bind fun x1 =>
      bif ((x1).toNat) == (45 : Int) then
        F.ref03_Parse.L8 n
          (fun e6_0 e6_4 e6_6 e6_7 e6_8 e6_b0_0 e6_b0_1 e6_b0_2 e6_b1_0 e6_b1_1 =>
            bif e6_8 then
              some (((false, (0 : Int), (0 : Int), ()), ((11 : Int), (e6_0.length : Int), ()), ()))
            else
            bif decide (e6_7 ≥ (0 : Int)) then
              (F.ref03_Make n e6_4 e6_6 (IntKind.wrap .i64 (e6_7 - (e6_6.length : Int)))).bind fun y7 =>
                bif !y7.2.1 then
                  some (((false, (0 : Int), (0 : Int), ()), ((10 : Int), (0 : Int), ()), ()))
                else
                  some (((y7.1.1, y7.1.2.1, y7.1.2.2.1, ()), ((0 : Int), (0 : Int), ()), ()))
            else
              (F.ref03_Make n e6_4 e6_6 (0 : Int)).bind fun y8 =>
                bif !y8.2.1 then
                  some (((false, (0 : Int), (0 : Int), ()), ((10 : Int), (0 : Int), ()), ()))
                else
                  some (((y8.1.1, y8.1.2.1, y8.1.2.2.1, ()), ((0 : Int), (0 : Int), ()), ())))
          (fun e9_b0_0 e9_b0_1 e9_b0_2 e9_b1_0 e9_b1_1 =>
            some (((e9_b0_0, e9_b0_1, e9_b0_2, ()), (e9_b1_0, e9_b1_1, ()), ()))) n a0 (((x1).toNat) == (45 : Int)) (1 : Int) [] (-1 : Int) true false (0 : Int) (0 : Int) (0 : Int) (0 : Int)
      else
        F.ref03_Parse.L8 n
          (fun e10_0 e10_4 e10_6 e10_7 e10_8 e10_b0_0 e10_b0_1 e10_b0_2 e10_b1_0 e10_b1_1 =>
            bif e10_8 then
              some (((false, (0 : Int), (0 : Int), ()), ((11 : Int), (e10_0.length : Int), ()), ()))
            else
            bif decide (e10_7 ≥ (0 : Int)) then
              (F.ref03_Make n e10_4 e10_6 (IntKind.wrap .i64 (e10_7 - (e10_6.length : Int)))).bind fun y11 =>
                bif !y11.2.1 then
                  some (((false, (0 : Int), (0 : Int), ()), ((10 : Int), (0 : Int), ()), ()))
                else
                  some (((y11.1.1, y11.1.2.1, y11.1.2.2.1, ()), ((0 : Int), (0 : Int), ()), ()))
            else
              (F.ref03_Make n e10_4 e10_6 (0 : Int)).bind fun y12 =>
                bif !y12.2.1 then
                  some (((false, (0 : Int), (0 : Int), ()), ((10 : Int), (0 : Int), ()), ()))
                else
                  some (((y12.1.1, y12.1.2.1, y12.1.2.2.1, ()), ((0 : Int), (0 : Int), ()), ())))
          (fun e13_b0_0 e13_b0_1 e13_b0_2 e13_b1_0 e13_b1_1 =>
            some (((e13_b0_0, e13_b0_1, e13_b0_2, ()), (e13_b1_0, e13_b1_1, ()), ()))) n a0 (((x1).toNat) == (45 : Int)) (0 : Int) [] (-1 : Int) true false (0 : Int) (0 : Int) (0 : Int) (0 : Int)
  else
    F.ref03_Parse.L8 n
      (fun e14_0 e14_4 e14_6 e14_7 e14_8 e14_b0_0 e14_b0_1 e14_b0_2 e14_b1_0 e14_b1_1 =>
        bif e14_8 then
          some (((false, (0 : Int), (0 : Int), ()), ((11 : Int), (e14_0.length : Int), ()), ()))
        else
        bif decide (e14_7 ≥ (0 : Int)) then
          (F.ref03_Make n e14_4 e14_6 (IntKind.wrap .i64 (e14_7 - (e14_6.length : Int)))).bind fun y15 =>
            bif !y15.2.1 then
              some (((false, (0 : Int), (0 : Int), ()), ((10 : Int), (0 : Int), ()), ()))
            else
              some (((y15.1.1, y15.1.2.1, y15.1.2.2.1, ()), ((0 : Int), (0 : Int), ()), ()))
        else
          (F.ref03_Make n e14_4 e14_6 (0 : Int)).bind fun y16 =>
            bif !y16.2.1 then
              some (((false, (0 : Int), (0 : Int), ()), ((10 : Int), (0 : Int), ()), ()))
            else
              some (((y16.1.1, y16.1.2.1, y16.1.2.2.1, ()), ((0 : Int), (0 : Int), ()), ())))
      (fun e17_b0_0 e17_b0_1 e17_b0_2 e17_b1_0 e17_b1_1 =>
        some (((e17_b0_0, e17_b0_1, e17_b0_2, ()), (e17_b1_0, e17_b1_1, ()), ()))) n a0 false (0 : Int) [] (-1 : Int) true false (0 : Int) (0 : Int) (0 : Int) (0 : Int)
noncomputable def F.ref05_Value.L3.step {X : Type} (n : Nat) (rec : (List UInt8) → Int → Int → Option X) (k0 : Int → Option X) (kr : Int → Bool → Option X) (v0 : List UInt8) (v4 : Int) (v5 : Int) : Option X :=
  bif decide (v5 < (v0.length : Int)) then
    (idx v0 v5).bind fun x1 =>
      bif decide (v4 > (IntKind.wrap .i64 ((IntKind.wrap .i64 ((9223372036854775807 : Int) - (IntKind.wrap .i64 (IntKind.wrap .u8 (((x1).toNat) - (48 : Int)))))).tdiv (10 : Int)))) then
        kr (0 : Int) false
      else
        rec v0 (IntKind.wrap .i64 ((IntKind.wrap .i64 ((10 : Int) * v4)) + (IntKind.wrap .i64 (IntKind.wrap .u8 (((x1).toNat) - (48 : Int)))))) (IntKind.wrap .i64 (v5 + (1 : Int)))
  else
    k0 v4
noncomputable def F.ref05_Value.L3 {X : Type} (n : Nat) (k0 : Int → Option X) (kr : Int → Bool → Option X) : Nat → (List UInt8) → Int → Int → Option X
  | 0 => fun _ _ _ => none
  | m + 1 => fun v0 v4 v5 => F.ref05_Value.L3.step n (F.ref05_Value.L3 n k0 kr m) k0 kr v0 v4 v5
noncomputable def F.ref05_Value (n : Nat) (a0 : List UInt8) : Option ((Int) × (Bool) × Unit) :=
  F.ref05_Value.L3 n
    (fun e2_4 =>
      some ((e2_4, true, ())))
    (fun e3_2 e3_3 =>
      some ((e3_2, e3_3, ()))) n a0 (0 : Int) (0 : Int)
noncomputable def F.ref05_Rate.L17.step {X : Type} (n : Nat) (rec : (List UInt8) → Int → Int → Option X) (k0 : (List UInt8) → Int → Int → Option X) (v4 : List UInt8) (vb0_0 : Int) (vb0_1 : Int) : Option X :=
  bif decide ((v4.length : Int) < (6 : Int)) then
    bif decide (v4.length + 1 ≤ strMax) then
      rec (v4 ++ ([48])) vb0_0 vb0_1
    else
      none
  else
    k0 v4 vb0_0 vb0_1
noncomputable def F.ref05_Rate.L17 {X : Type} (n : Nat) (k0 : (List UInt8) → Int → Int → Option X) : Nat → (List UInt8) → Int → Int → Option X
  | 0 => fun _ _ _ => none
  | m + 1 => fun v4 vb0_0 vb0_1 => F.ref05_Rate.L17.step n (F.ref05_Rate.L17 n k0 m) k0 v4 vb0_0 vb0_1
noncomputable def F.ref05_Rate (n : Nat) (a0 : List UInt8) : Option ((Int) × ((Int) × (Int) × Unit) × Unit) :=
  bif a0 == ([49]) then
    some (((1000000 : Int), ((0 : Int), (0 : Int), ()), ()))
  else
  bif a0 == [] then
    some (((0 : Int), ((13 : Int), (0 : Int), ()), ()))
  else
    (idx a0 (0 : Int)).bind fun x1 =>
      bif !(((x1).toNat) == (48 : Int)) then
        some (((0 : Int), ((11 : Int), (0 : Int), ()), ()))
      else
      bif decide ((a0.length : Int) < (2 : Int)) then
        some (((0 : Int), ((11 : Int), (1 : Int), ()), ()))
      else
        (idx a0 (1 : Int)).bind fun x2 =>
          bif !(((x2).toNat) == (46 : Int)) then
            some (((0 : Int), ((11 : Int), (1 : Int), ()), ()))
          else
            (sub a0 (2 : Int) (a0.length : Int)).bind fun x3 =>
              bif x3 == [] then
                some (((0 : Int), ((13 : Int), (2 : Int), ()), ()))
              else
                (F.ref04_Bad n (4 : Int) x3).bind fun y4 =>
                  bif decide (y4 ≥ (0 : Int)) then
                    some (((0 : Int), ((14 : Int), (IntKind.wrap .i64 ((2 : Int) + y4)), ()), ()))
                  else
                  bif decide ((x3.length : Int) > (6 : Int)) then
                    some (((0 : Int), ((12 : Int), (8 : Int), ()), ()))
                  else
                    F.ref05_Rate.L17 n
                      (fun e5_4 e5_b0_0 e5_b0_1 =>
                        (F.ref05_Value n e5_4).bind fun y6 =>
                          bif y6.1 == (0 : Int) then
                            some (((0 : Int), ((10 : Int), (0 : Int), ()), ()))
                          else
                            some ((y6.1, ((0 : Int), (0 : Int), ()), ()))) n x3 (0 : Int) (0 : Int)
noncomputable def F.ref10_Parse.C26 {X : Type} (n : Nat) (kr : (List UInt8) → Int → (List ((Bool) × (Int) × (Int))) → Int → (List ((List UInt8) × (List UInt8))) → Int → Int → Int → Option X) (kn : (List UInt8) → Int → Int → (List UInt8) → Int → (List ((Bool) × (Int) × (Int))) → Int → (List ((List UInt8) × (List UInt8))) → Int → Int → Int → Bool → Int → Int → (List UInt8) → Int → (List ((Bool) × (Int) × (Int))) → Int → (List ((List UInt8) × (List UInt8))) → Int → Nat → Nat → Nat → Nat → Option X) (c0 : List UInt8) (c8 : Int) (c11 : Int) (c12 : Int) (c145 : Bool) (cb0_0 : List UInt8) (cb0_1 : Int) (cb0_2 : List ((Bool) × (Int) × (Int))) (cb0_3 : Int) (cb0_4 : List ((List UInt8) × (List UInt8))) (cb0_5 : Int) (cb1_0 : Int) (cb1_1 : Int) (cb2_0 : Bool) (cb2_1 : Int) (cb2_2 : Int) (cb3_0 : List UInt8) (cb3_1 : Int) (cb3_2 : List ((Bool) × (Int) × (Int))) (cb3_3 : Int) (cb3_4 : List ((List UInt8) × (List UInt8))) (cb3_5 : Int) (ck0 : Nat) (ck1 : Nat) (ck2 : Nat) (ck3 : Nat) : Option X :=
  bif c145 then
    (F.ref10_wrong n (18 : Int) (IntKind.wrap .i64 (c8 + (2 : Int)))).bind fun y25 =>
      kr y25.1.1 y25.1.2.1 y25.1.2.2.1 y25.1.2.2.2.1 y25.1.2.2.2.2.1 y25.1.2.2.2.2.2.1 y25.2.1.1 y25.2.1.2.1
  else
    kn c0 c11 c12 cb0_0 cb0_1 cb0_2 cb0_3 cb0_4 cb0_5 cb1_0 cb1_1 cb2_0 cb2_1 cb2_2 cb3_0 cb3_1 cb3_2 cb3_3 cb3_4 cb3_5 ck0 ck1 ck2 ck3
noncomputable def F.ref10_Parse.C27 {X : Type} (n : Nat) (kr : (List UInt8) → Int → (List ((Bool) × (Int) × (Int))) → Int → (List ((List UInt8) × (List UInt8))) → Int → Int → Int → Option X) (c0 : List UInt8) (c11 : Int) (c12 : Int) (cb0_0 : List UInt8) (cb0_1 : Int) (cb0_2 : List ((Bool) × (Int) × (Int))) (cb0_3 : Int) (cb0_4 : List ((List UInt8) × (List UInt8))) (cb0_5 : Int) (cb1_0 : Int) (cb1_1 : Int) (cb2_0 : Bool) (cb2_1 : Int) (cb2_2 : Int) (cb3_0 : List UInt8) (cb3_1 : Int) (cb3_2 : List ((Bool) × (Int) × (Int))) (cb3_3 : Int) (cb3_4 : List ((List UInt8) × (List UInt8))) (cb3_5 : Int) (ck0 : Nat) (ck1 : Nat) (ck2 : Nat) (ck3 : Nat) : Option X :=
  bif decide (c11 < (c0.length : Int)) then
    (F.ref10_wrong n (11 : Int) c11).bind fun y29 =>
      kr y29.1.1 y29.1.2.1 y29.1.2.2.1 y29.1.2.2.2.1 y29.1.2.2.2.2.1 y29.1.2.2.2.2.2.1 y29.2.1.1 y29.2.1.2.1
  else
    kr cb3_0 cb3_1 cb3_2 c12 cb3_4 cb3_5 (0 : Int) (0 : Int)
noncomputable def F.ref10_Parse.C18 {X : Type} (n : Nat) (kr : (List UInt8) → Int → (List ((Bool) × (Int) × (Int))) → Int → (List ((List UInt8) × (List UInt8))) → Int → Int → Int → Option X) (c0 : List UInt8) (c4 : Int) (c8 : Int) (c9 : Int) (cb0_0 : List UInt8) (cb0_1 : Int) (cb0_2 : List ((Bool) × (Int) × (Int))) (cb0_3 : Int) (cb0_4 : List ((List UInt8) × (List UInt8))) (cb0_5 : Int) (cb1_0 : Int) (cb1_1 : Int) (cb2_0 : Bool) (cb2_1 : Int) (cb2_2 : Int) (ck0 : Nat) (ck1 : Nat) : Option X :=
  (sub c0 (0 : Int) c4).bind fun x37 =>
    bif c8 == (c0.length : Int) then
      kr x37 c9 ([(cb2_0, cb2_1, cb2_2)]) (1000000 : Int) [] (0 : Int) (0 : Int) (0 : Int)
    else
    bif (IntKind.wrap .i64 (c8 + (1 : Int))) == (c0.length : Int) then
      (F.ref10_wrong n (11 : Int) (IntKind.wrap .i64 (c8 + (1 : Int)))).bind fun y38 =>
        kr y38.1.1 y38.1.2.1 y38.1.2.2.1 y38.1.2.2.2.1 y38.1.2.2.2.2.1 y38.1.2.2.2.2.2.1 y38.2.1.1 y38.2.1.2.1
    else
      (idx c0 (IntKind.wrap .i64 (c8 + (1 : Int)))).bind fun x39 =>
        bif !(((x39).toNat) == (64 : Int)) then
          (F.ref10_wrong n (11 : Int) (IntKind.wrap .i64 (c8 + (1 : Int)))).bind fun y40 =>
            kr y40.1.1 y40.1.2.1 y40.1.2.2.1 y40.1.2.2.2.1 y40.1.2.2.2.2.1 y40.1.2.2.2.2.2.1 y40.2.1.1 y40.2.1.2.1
        else
          (F.ref10_Find n c0 (IntKind.wrap .i64 (c8 + (2 : Int))) (124 : Int)).bind fun y41 =>
            (sub c0 (IntKind.wrap .i64 (c8 + (2 : Int))) y41).bind fun x42 =>
              (F.ref05_Rate n x42).bind fun y43 =>
                bif !(y43.2.1.1 == (0 : Int)) then
                  F.ref10_Parse.C26 n
                    (fun e44_b0_0 e44_b0_1 e44_b0_2 e44_b0_3 e44_b0_4 e44_b0_5 e44_b1_0 e44_b1_1 =>
                      kr e44_b0_0 e44_b0_1 e44_b0_2 e44_b0_3 e44_b0_4 e44_b0_5 e44_b1_0 e44_b1_1)
                    (fun e45_0 e45_11 e45_12 e45_b0_0 e45_b0_1 e45_b0_2 e45_b0_3 e45_b0_4 e45_b0_5 e45_b1_0 e45_b1_1 e45_b2_0 e45_b2_1 e45_b2_2 e45_b3_0 e45_b3_1 e45_b3_2 e45_b3_3 e45_b3_4 e45_b3_5 e45_k0 e45_k1 e45_k2 e45_k3 =>
                      F.ref10_Parse.C27 n
                        (fun e46_b0_0 e46_b0_1 e46_b0_2 e46_b0_3 e46_b0_4 e46_b0_5 e46_b1_0 e46_b1_1 =>
                          kr e46_b0_0 e46_b0_1 e46_b0_2 e46_b0_3 e46_b0_4 e46_b0_5 e46_b1_0 e46_b1_1) e45_0 e45_11 e45_12 e45_b0_0 e45_b0_1 e45_b0_2 e45_b0_3 e45_b0_4 e45_b0_5 e45_b1_0 e45_b1_1 e45_b2_0 e45_b2_1 e45_b2_2 e45_b3_0 e45_b3_1 e45_b3_2 e45_b3_3 e45_b3_4 e45_b3_5 e45_k0 e45_k1 e45_k2 e45_k3) c0 c8 y41 y43.1 true cb0_0 cb0_1 cb0_2 cb0_3 cb0_4 cb0_5 cb1_0 cb1_1 cb2_0 cb2_1 cb2_2 x37 c9 ([(cb2_0, cb2_1, cb2_2)]) (1000000 : Int) [] (0 : Int) ck0 ck1 1 0
                else
                bif c9 == (2 : Int) then
                  F.ref10_Parse.C26 n
                    (fun e47_b0_0 e47_b0_1 e47_b0_2 e47_b0_3 e47_b0_4 e47_b0_5 e47_b1_0 e47_b1_1 =>
                      kr e47_b0_0 e47_b0_1 e47_b0_2 e47_b0_3 e47_b0_4 e47_b0_5 e47_b1_0 e47_b1_1)
                    (fun e48_0 e48_11 e48_12 e48_b0_0 e48_b0_1 e48_b0_2 e48_b0_3 e48_b0_4 e48_b0_5 e48_b1_0 e48_b1_1 e48_b2_0 e48_b2_1 e48_b2_2 e48_b3_0 e48_b3_1 e48_b3_2 e48_b3_3 e48_b3_4 e48_b3_5 e48_k0 e48_k1 e48_k2 e48_k3 =>
                      F.ref10_Parse.C27 n
                        (fun e49_b0_0 e49_b0_1 e49_b0_2 e49_b0_3 e49_b0_4 e49_b0_5 e49_b1_0 e49_b1_1 =>
                          kr e49_b0_0 e49_b0_1 e49_b0_2 e49_b0_3 e49_b0_4 e49_b0_5 e49_b1_0 e49_b1_1) e48_0 e48_11 e48_12 e48_b0_0 e48_b0_1 e48_b0_2 e48_b0_3 e48_b0_4 e48_b0_5 e48_b1_0 e48_b1_1 e48_b2_0 e48_b2_1 e48_b2_2 e48_b3_0 e48_b3_1 e48_b3_2 e48_b3_3 e48_b3_4 e48_b3_5 e48_k0 e48_k1 e48_k2 e48_k3) c0 c8 y41 y43.1 (!(y43.1 == (1000000 : Int))) cb0_0 cb0_1 cb0_2 cb0_3 cb0_4 cb0_5 cb1_0 cb1_1 cb2_0 cb2_1 cb2_2 x37 c9 ([(cb2_0, cb2_1, cb2_2)]) (1000000 : Int) [] (0 : Int) ck0 ck1 1 0
                else
                  F.ref10_Parse.C26 n
                    (fun e50_b0_0 e50_b0_1 e50_b0_2 e50_b0_3 e50_b0_4 e50_b0_5 e50_b1_0 e50_b1_1 =>
                      kr e50_b0_0 e50_b0_1 e50_b0_2 e50_b0_3 e50_b0_4 e50_b0_5 e50_b1_0 e50_b1_1)
                    (fun e51_0 e51_11 e51_12 e51_b0_0 e51_b0_1 e51_b0_2 e51_b0_3 e51_b0_4 e51_b0_5 e51_b1_0 e51_b1_1 e51_b2_0 e51_b2_1 e51_b2_2 e51_b3_0 e51_b3_1 e51_b3_2 e51_b3_3 e51_b3_4 e51_b3_5 e51_k0 e51_k1 e51_k2 e51_k3 =>
                      F.ref10_Parse.C27 n
                        (fun e52_b0_0 e52_b0_1 e52_b0_2 e52_b0_3 e52_b0_4 e52_b0_5 e52_b1_0 e52_b1_1 =>
                          kr e52_b0_0 e52_b0_1 e52_b0_2 e52_b0_3 e52_b0_4 e52_b0_5 e52_b1_0 e52_b1_1) e51_0 e51_11 e51_12 e51_b0_0 e51_b0_1 e51_b0_2 e51_b0_3 e51_b0_4 e51_b0_5 e51_b1_0 e51_b1_1 e51_b2_0 e51_b2_1 e51_b2_2 e51_b3_0 e51_b3_1 e51_b3_2 e51_b3_3 e51_b3_4 e51_b3_5 e51_k0 e51_k1 e51_k2 e51_k3) c0 c8 y41 y43.1 false cb0_0 cb0_1 cb0_2 cb0_3 cb0_4 cb0_5 cb1_0 cb1_1 cb2_0 cb2_1 cb2_2 x37 c9 ([(cb2_0, cb2_1, cb2_2)]) (1000000 : Int) [] (0 : Int) ck0 ck1 1 0
noncomputable def F.ref10_Parse (n : Nat) (a0 : List UInt8) : Option (((List UInt8) × (Int) × (List ((Bool) × (Int) × (Int))) × (Int) × (List ((List UInt8) × (List UInt8))) × (Int) × Unit) × ((Int) × (Int) × Unit) × Unit) :=
  (F.ref10_Find n a0 (0 : Int) (58 : Int)).bind fun y1 =>
    (sub a0 (0 : Int) y1).bind fun x2 =>
      (F.ref10_Name n x2).bind fun y3 =>
        bif !y3 then
          (F.ref10_wrong n (15 : Int) (0 : Int)).bind fun y4 =>
            some (((y4.1.1, y4.1.2.1, y4.1.2.2.1, y4.1.2.2.2.1, y4.1.2.2.2.2.1, y4.1.2.2.2.2.2.1, ()), (y4.2.1.1, y4.2.1.2.1, ()), ()))
        else
        bif y1 == (a0.length : Int) then
          (F.ref10_wrong n (11 : Int) y1).bind fun y5 =>
            some (((y5.1.1, y5.1.2.1, y5.1.2.2.1, y5.1.2.2.2.1, y5.1.2.2.2.2.1, y5.1.2.2.2.2.2.1, ()), (y5.2.1.1, y5.2.1.2.1, ()), ()))
        else
          (F.ref10_Find n a0 (IntKind.wrap .i64 (y1 + (1 : Int))) (124 : Int)).bind fun y6 =>
            (sub a0 (IntKind.wrap .i64 (y1 + (1 : Int))) y6).bind fun x7 =>
              (F.ref03_Parse n x7).bind fun y8 =>
                bif !(y8.2.1.1 == (0 : Int)) then
                  (F.ref10_wrong n (17 : Int) (IntKind.wrap .i64 (y1 + (1 : Int)))).bind fun y9 =>
                    some (((y9.1.1, y9.1.2.1, y9.1.2.2.1, y9.1.2.2.2.1, y9.1.2.2.2.2.1, y9.1.2.2.2.2.2.1, ()), (y9.2.1.1, y9.2.1.2.1, ()), ()))
                else
                bif y6 == (a0.length : Int) then
                  (F.ref10_wrong n (11 : Int) y6).bind fun y10 =>
                    some (((y10.1.1, y10.1.2.1, y10.1.2.2.1, y10.1.2.2.2.1, y10.1.2.2.2.2.1, y10.1.2.2.2.2.2.1, ()), (y10.2.1.1, y10.2.1.2.1, ()), ()))
                else
                  (F.ref10_Find n a0 (IntKind.wrap .i64 (y6 + (1 : Int))) (124 : Int)).bind fun y11 =>
                    (sub a0 (IntKind.wrap .i64 (y6 + (1 : Int))) y11).bind fun x12 =>
                      (F.ref10_Kind n x12).bind fun y13 =>
                        bif y13 == (0 : Int) then
                          (F.ref10_wrong n (16 : Int) (IntKind.wrap .i64 (y6 + (1 : Int)))).bind fun y14 =>
                            some (((y14.1.1, y14.1.2.1, y14.1.2.2.1, y14.1.2.2.2.1, y14.1.2.2.2.2.1, y14.1.2.2.2.2.2.1, ()), (y14.2.1.1, y14.2.1.2.1, ()), ()))
                        else
                        bif y13 == (2 : Int) then
                          (idx a0 (IntKind.wrap .i64 (y1 + (1 : Int)))).bind fun x15 =>
                            bif ((x15).toNat) == (45 : Int) then
                              (F.ref10_wrong n (26 : Int) (IntKind.wrap .i64 (y1 + (1 : Int)))).bind fun y16 =>
                                some (((y16.1.1, y16.1.2.1, y16.1.2.2.1, y16.1.2.2.2.1, y16.1.2.2.2.2.1, y16.1.2.2.2.2.2.1, ()), (y16.2.1.1, y16.2.1.2.1, ()), ()))
                            else
                              F.ref10_Parse.C18 n
                                (fun e53_b0_0 e53_b0_1 e53_b0_2 e53_b0_3 e53_b0_4 e53_b0_5 e53_b1_0 e53_b1_1 =>
                                  some (((e53_b0_0, e53_b0_1, e53_b0_2, e53_b0_3, e53_b0_4, e53_b0_5, ()), (e53_b1_0, e53_b1_1, ()), ()))) a0 y1 y11 y13 [] (0 : Int) [] (0 : Int) [] (0 : Int) (0 : Int) (0 : Int) y8.1.1 y8.1.2.1 y8.1.2.2.1 0 0
                        else
                          F.ref10_Parse.C18 n
                            (fun e54_b0_0 e54_b0_1 e54_b0_2 e54_b0_3 e54_b0_4 e54_b0_5 e54_b1_0 e54_b1_1 =>
                              some (((e54_b0_0, e54_b0_1, e54_b0_2, e54_b0_3, e54_b0_4, e54_b0_5, ()), (e54_b1_0, e54_b1_1, ()), ()))) a0 y1 y11 y13 [] (0 : Int) [] (0 : Int) [] (0 : Int) (0 : Int) (0 : Int) y8.1.1 y8.1.2.1 y8.1.2.2.1 0 0
noncomputable def F.ref07_Equal.L4.step {X : Type} (n : Nat) (rec : Int → (List UInt8) → Int → (List ((Bool) × (Int) × (Int))) → Int → (List ((List UInt8) × (List UInt8))) → Int → (List UInt8) → Int → (List ((Bool) × (Int) × (Int))) → Int → (List ((List UInt8) × (List UInt8))) → Int → Option X) (k0 : (List UInt8) → Int → (List ((Bool) × (Int) × (Int))) → Int → (List ((List UInt8) × (List UInt8))) → Int → (List UInt8) → Int → (List ((Bool) × (Int) × (Int))) → Int → (List ((List UInt8) × (List UInt8))) → Int → Option X) (kr : Bool → (List UInt8) → Int → (List ((Bool) × (Int) × (Int))) → Int → (List ((List UInt8) × (List UInt8))) → Int → (List UInt8) → Int → (List ((Bool) × (Int) × (Int))) → Int → (List ((List UInt8) × (List UInt8))) → Int → Option X) (v5 : Int) (vb0_0 : List UInt8) (vb0_1 : Int) (vb0_2 : List ((Bool) × (Int) × (Int))) (vb0_3 : Int) (vb0_4 : List ((List UInt8) × (List UInt8))) (vb0_5 : Int) (vb1_0 : List UInt8) (vb1_1 : Int) (vb1_2 : List ((Bool) × (Int) × (Int))) (vb1_3 : Int) (vb1_4 : List ((List UInt8) × (List UInt8))) (vb1_5 : Int) : Option X :=
  bif decide (v5 < (vb0_2.length : Int)) then
    (idx vb0_2 v5).bind fun x1 =>
      (idx vb1_2 v5).bind fun x2 =>
        bif !((x1.1 == x2.1) && ((x1.2.1 == x2.2.1) && (x1.2.2 == x2.2.2))) then
          kr false vb0_0 vb0_1 vb0_2 vb0_3 vb0_4 vb0_5 vb1_0 vb1_1 vb1_2 vb1_3 vb1_4 vb1_5
        else
          rec (IntKind.wrap .i64 (v5 + (1 : Int))) vb0_0 vb0_1 vb0_2 vb0_3 vb0_4 vb0_5 vb1_0 vb1_1 vb1_2 vb1_3 vb1_4 vb1_5
  else
    k0 vb0_0 vb0_1 vb0_2 vb0_3 vb0_4 vb0_5 vb1_0 vb1_1 vb1_2 vb1_3 vb1_4 vb1_5
noncomputable def F.ref07_Equal.L4 {X : Type} (n : Nat) (k0 : (List UInt8) → Int → (List ((Bool) × (Int) × (Int))) → Int → (List ((List UInt8) × (List UInt8))) → Int → (List UInt8) → Int → (List ((Bool) × (Int) × (Int))) → Int → (List ((List UInt8) × (List UInt8))) → Int → Option X) (kr : Bool → (List UInt8) → Int → (List ((Bool) × (Int) × (Int))) → Int → (List ((List UInt8) × (List UInt8))) → Int → (List UInt8) → Int → (List ((Bool) × (Int) × (Int))) → Int → (List ((List UInt8) × (List UInt8))) → Int → Option X) : Nat → Int → (List UInt8) → Int → (List ((Bool) × (Int) × (Int))) → Int → (List ((List UInt8) × (List UInt8))) → Int → (List UInt8) → Int → (List ((Bool) × (Int) × (Int))) → Int → (List ((List UInt8) × (List UInt8))) → Int → Option X
  | 0 => fun _ _ _ _ _ _ _ _ _ _ _ _ _ => none
  | m + 1 => fun v5 vb0_0 vb0_1 vb0_2 vb0_3 vb0_4 vb0_5 vb1_0 vb1_1 vb1_2 vb1_3 vb1_4 vb1_5 => F.ref07_Equal.L4.step n (F.ref07_Equal.L4 n k0 kr m) k0 kr v5 vb0_0 vb0_1 vb0_2 vb0_3 vb0_4 vb0_5 vb1_0 vb1_1 vb1_2 vb1_3 vb1_4 vb1_5
noncomputable def F.ref07_Equal.L9.step {X : Type} (n : Nat) (rec : Int → (List UInt8) → Int → (List ((Bool) × (Int) × (Int))) → Int → (List ((List UInt8) × (List UInt8))) → Int → (List UInt8) → Int → (List ((Bool) × (Int) × (Int))) → Int → (List ((List UInt8) × (List UInt8))) → Int → Option X) (k2 : (List UInt8) → Int → (List ((Bool) × (Int) × (Int))) → Int → (List ((List UInt8) × (List UInt8))) → Int → (List UInt8) → Int → (List ((Bool) × (Int) × (Int))) → Int → (List ((List UInt8) × (List UInt8))) → Int → Option X) (kr : Bool → (List UInt8) → Int → (List ((Bool) × (Int) × (Int))) → Int → (List ((List UInt8) × (List UInt8))) → Int → (List UInt8) → Int → (List ((Bool) × (Int) × (Int))) → Int → (List ((List UInt8) × (List UInt8))) → Int → Option X) (v6 : Int) (vb0_0 : List UInt8) (vb0_1 : Int) (vb0_2 : List ((Bool) × (Int) × (Int))) (vb0_3 : Int) (vb0_4 : List ((List UInt8) × (List UInt8))) (vb0_5 : Int) (vb1_0 : List UInt8) (vb1_1 : Int) (vb1_2 : List ((Bool) × (Int) × (Int))) (vb1_3 : Int) (vb1_4 : List ((List UInt8) × (List UInt8))) (vb1_5 : Int) : Option X :=
  bif decide (v6 < (vb0_4.length : Int)) then
    (idx vb0_4 v6).bind fun x4 =>
      (idx vb1_4 v6).bind fun x5 =>
        bif !((x4.1 == x5.1) && (x4.2 == x5.2)) then
          kr false vb0_0 vb0_1 vb0_2 vb0_3 vb0_4 vb0_5 vb1_0 vb1_1 vb1_2 vb1_3 vb1_4 vb1_5
        else
          rec (IntKind.wrap .i64 (v6 + (1 : Int))) vb0_0 vb0_1 vb0_2 vb0_3 vb0_4 vb0_5 vb1_0 vb1_1 vb1_2 vb1_3 vb1_4 vb1_5
  else
    k2 vb0_0 vb0_1 vb0_2 vb0_3 vb0_4 vb0_5 vb1_0 vb1_1 vb1_2 vb1_3 vb1_4 vb1_5
noncomputable def F.ref07_Equal.L9 {X : Type} (n : Nat) (k2 : (List UInt8) → Int → (List ((Bool) × (Int) × (Int))) → Int → (List ((List UInt8) × (List UInt8))) → Int → (List UInt8) → Int → (List ((Bool) × (Int) × (Int))) → Int → (List ((List UInt8) × (List UInt8))) → Int → Option X) (kr : Bool → (List UInt8) → Int → (List ((Bool) × (Int) × (Int))) → Int → (List ((List UInt8) × (List UInt8))) → Int → (List UInt8) → Int → (List ((Bool) × (Int) × (Int))) → Int → (List ((List UInt8) × (List UInt8))) → Int → Option X) : Nat → Int → (List UInt8) → Int → (List ((Bool) × (Int) × (Int))) → Int → (List ((List UInt8) × (List UInt8))) → Int → (List UInt8) → Int → (List ((Bool) × (Int) × (Int))) → Int → (List ((List UInt8) × (List UInt8))) → Int → Option X
  | 0 => fun _ _ _ _ _ _ _ _ _ _ _ _ _ => none
  | m + 1 => fun v6 vb0_0 vb0_1 vb0_2 vb0_3 vb0_4 vb0_5 vb1_0 vb1_1 vb1_2 vb1_3 vb1_4 vb1_5 => F.ref07_Equal.L9.step n (F.ref07_Equal.L9 n k2 kr m) k2 kr v6 vb0_0 vb0_1 vb0_2 vb0_3 vb0_4 vb0_5 vb1_0 vb1_1 vb1_2 vb1_3 vb1_4 vb1_5
noncomputable def F.ref07_Equal (n : Nat) (a0 : (List UInt8) × (Int) × (List ((Bool) × (Int) × (Int))) × (Int) × (List ((List UInt8) × (List UInt8))) × (Int) × Unit) (a1 : (List UInt8) × (Int) × (List ((Bool) × (Int) × (Int))) × (Int) × (List ((List UInt8) × (List UInt8))) × (Int) × Unit) : Option (Bool) :=
  bif !(a0.1 == a1.1) then
    some (false)
  else
  bif !(a0.2.1 == a1.2.1) then
    some (false)
  else
  bif !(a0.2.2.2.1 == a1.2.2.2.1) then
    some (false)
  else
  bif !(a0.2.2.2.2.2.1 == a1.2.2.2.2.2.1) then
    some (false)
  else
  bif !((a0.2.2.1.length : Int) == (a1.2.2.1.length : Int)) then
    some (false)
  else
  bif !((a0.2.2.2.2.1.length : Int) == (a1.2.2.2.2.1.length : Int)) then
    some (false)
  else
    F.ref07_Equal.L4 n
      (fun e3_b0_0 e3_b0_1 e3_b0_2 e3_b0_3 e3_b0_4 e3_b0_5 e3_b1_0 e3_b1_1 e3_b1_2 e3_b1_3 e3_b1_4 e3_b1_5 =>
        F.ref07_Equal.L9 n
          (fun e6_b0_0 e6_b0_1 e6_b0_2 e6_b0_3 e6_b0_4 e6_b0_5 e6_b1_0 e6_b1_1 e6_b1_2 e6_b1_3 e6_b1_4 e6_b1_5 =>
            some (true))
          (fun e7_4 e7_b0_0 e7_b0_1 e7_b0_2 e7_b0_3 e7_b0_4 e7_b0_5 e7_b1_0 e7_b1_1 e7_b1_2 e7_b1_3 e7_b1_4 e7_b1_5 =>
            some (e7_4)) n (0 : Int) e3_b0_0 e3_b0_1 e3_b0_2 e3_b0_3 e3_b0_4 e3_b0_5 e3_b1_0 e3_b1_1 e3_b1_2 e3_b1_3 e3_b1_4 e3_b1_5)
      (fun e8_4 e8_b0_0 e8_b0_1 e8_b0_2 e8_b0_3 e8_b0_4 e8_b0_5 e8_b1_0 e8_b1_1 e8_b1_2 e8_b1_3 e8_b1_4 e8_b1_5 =>
        some (e8_4)) n (0 : Int) a0.1 a0.2.1 a0.2.2.1 a0.2.2.2.1 a0.2.2.2.2.1 a0.2.2.2.2.2.1 a1.1 a1.2.1 a1.2.2.1 a1.2.2.2.1 a1.2.2.2.2.1 a1.2.2.2.2.2.1
noncomputable def F.law10_StatsdParses (n : Nat) (a0 : List UInt8) : Option (Bool) :=
  bif decide ((a0.length : Int) > (600 : Int)) then
    (F.law10_awake n ).bind fun y1 =>
      some (y1)
  else
    (F.statsd_Parse n a0).bind fun y2 =>
      (F.ref10_Parse n a0).bind fun y3 =>
        (F.ref07_Equal n (y2.1.1, y2.1.2.1, y2.1.2.2.1, y2.1.2.2.2.1, y2.1.2.2.2.2.1, y2.1.2.2.2.2.2.1, ()) (y3.1.1, y3.1.2.1, y3.1.2.2.1, y3.1.2.2.2.1, y3.1.2.2.2.2.1, y3.1.2.2.2.2.2.1, ())).bind fun y4 =>
          bif y4 then
            bif (y2.2.1.1 == y3.2.1.1) && (y2.2.1.2.1 == y3.2.1.2.1) then
              (F.law10_awake n ).bind fun y5 =>
                some (y5)
            else
              some (false)
          else
            some (false)
noncomputable def F.law10_many.L3.step {X : Type} (n : Nat) (rec : Int → (List UInt8) → Int → Option X) (k0 : (List UInt8) → Option X) (v0 : Int) (v3 : List UInt8) (v4 : Int) : Option X :=
  bif decide (v4 < v0) then
    bif decide (v4 < (5 : Int)) then
      bif decide (v3.length + 1 ≤ strMax) then
        rec v0 (v3 ++ ([48])) (IntKind.wrap .i64 (v4 + (1 : Int)))
      else
        none
    else
      k0 v3
  else
    k0 v3
noncomputable def F.law10_many.L3 {X : Type} (n : Nat) (k0 : (List UInt8) → Option X) : Nat → Int → (List UInt8) → Int → Option X
  | 0 => fun _ _ _ => none
  | m + 1 => fun v0 v3 v4 => F.law10_many.L3.step n (F.law10_many.L3 n k0 m) k0 v0 v3 v4
noncomputable def F.law10_many (n : Nat) (a0 : Int) : Option (List UInt8) :=
  F.law10_many.L3 n
    (fun e1_3 =>
      some (e1_3)) n a0 [] (0 : Int)
noncomputable def F.slices_Equal_api_Dec_api_Dec.L4.step {X : Type} (n : Nat) (rec : (List ((Bool) × (Int) × (Int))) → (List ((Bool) × (Int) × (Int))) → Int → Int → Option X) (k0 : Unit → Option X) (kr : Bool → Option X) (v0 : List ((Bool) × (Int) × (Int))) (v1 : List ((Bool) × (Int) × (Int))) (v12 : Int) (v13 : Int) : Option X :=
  bif decide (v13 < v12) then
    (idx v0 v13).bind fun x1 =>
      (idx v1 v13).bind fun x2 =>
        bif !((x1.1 == x2.1) && ((x1.2.1 == x2.2.1) && (x1.2.2 == x2.2.2))) then
          kr false
        else
          rec v0 v1 v12 (IntKind.wrap .i64 (v13 + (1 : Int)))
  else
    k0 ()
noncomputable def F.slices_Equal_api_Dec_api_Dec.L4 {X : Type} (n : Nat) (k0 : Unit → Option X) (kr : Bool → Option X) : Nat → (List ((Bool) × (Int) × (Int))) → (List ((Bool) × (Int) × (Int))) → Int → Int → Option X
  | 0 => fun _ _ _ _ => none
  | m + 1 => fun v0 v1 v12 v13 => F.slices_Equal_api_Dec_api_Dec.L4.step n (F.slices_Equal_api_Dec_api_Dec.L4 n k0 kr m) k0 kr v0 v1 v12 v13
noncomputable def F.slices_Equal_api_Dec_api_Dec (n : Nat) (a0 : List ((Bool) × (Int) × (Int))) (a1 : List ((Bool) × (Int) × (Int))) : Option (Bool) :=
  bif !((a0.length : Int) == (a1.length : Int)) then
    some (false)
  else
    F.slices_Equal_api_Dec_api_Dec.L4 n
      (fun (_ : Unit) =>
        some (true))
      (fun e4_4 =>
        some (e4_4)) n a0 a1 (a0.length : Int) (0 : Int)
noncomputable def F.metric_equal_api_Dec (n : Nat) (a0 : List ((Bool) × (Int) × (Int))) (a1 : List ((Bool) × (Int) × (Int))) : Option (Bool) :=
  (F.slices_Equal_api_Dec_api_Dec n a0 a1).bind fun y1 =>
    some (y1)
noncomputable def F.slices_Equal_api_Tag_api_Tag.L4.step {X : Type} (n : Nat) (rec : (List ((List UInt8) × (List UInt8))) → (List ((List UInt8) × (List UInt8))) → Int → Int → Option X) (k0 : Unit → Option X) (kr : Bool → Option X) (v0 : List ((List UInt8) × (List UInt8))) (v1 : List ((List UInt8) × (List UInt8))) (v12 : Int) (v13 : Int) : Option X :=
  bif decide (v13 < v12) then
    (idx v0 v13).bind fun x1 =>
      (idx v1 v13).bind fun x2 =>
        bif !((x1.1 == x2.1) && (x1.2 == x2.2)) then
          kr false
        else
          rec v0 v1 v12 (IntKind.wrap .i64 (v13 + (1 : Int)))
  else
    k0 ()
noncomputable def F.slices_Equal_api_Tag_api_Tag.L4 {X : Type} (n : Nat) (k0 : Unit → Option X) (kr : Bool → Option X) : Nat → (List ((List UInt8) × (List UInt8))) → (List ((List UInt8) × (List UInt8))) → Int → Int → Option X
  | 0 => fun _ _ _ _ => none
  | m + 1 => fun v0 v1 v12 v13 => F.slices_Equal_api_Tag_api_Tag.L4.step n (F.slices_Equal_api_Tag_api_Tag.L4 n k0 kr m) k0 kr v0 v1 v12 v13
noncomputable def F.slices_Equal_api_Tag_api_Tag (n : Nat) (a0 : List ((List UInt8) × (List UInt8))) (a1 : List ((List UInt8) × (List UInt8))) : Option (Bool) :=
  bif !((a0.length : Int) == (a1.length : Int)) then
    some (false)
  else
    F.slices_Equal_api_Tag_api_Tag.L4 n
      (fun (_ : Unit) =>
        some (true))
      (fun e4_4 =>
        some (e4_4)) n a0 a1 (a0.length : Int) (0 : Int)
noncomputable def F.metric_equal_api_Tag (n : Nat) (a0 : List ((List UInt8) × (List UInt8))) (a1 : List ((List UInt8) × (List UInt8))) : Option (Bool) :=
  (F.slices_Equal_api_Tag_api_Tag n a0 a1).bind fun y1 =>
    some (y1)
noncomputable def F.metric_Equal (n : Nat) (a0 : (List UInt8) × (Int) × (List ((Bool) × (Int) × (Int))) × (Int) × (List ((List UInt8) × (List UInt8))) × (Int) × Unit) (a1 : (List UInt8) × (Int) × (List ((Bool) × (Int) × (Int))) × (Int) × (List ((List UInt8) × (List UInt8))) × (Int) × Unit) : Option (Bool) :=
  bif a0.1 == a1.1 then
    bif a0.2.1 == a1.2.1 then
      bif a0.2.2.2.1 == a1.2.2.2.1 then
        bif a0.2.2.2.2.2.1 == a1.2.2.2.2.2.1 then
          (F.metric_equal_api_Dec n a0.2.2.1 a1.2.2.1).bind fun y1 =>
            bif y1 then
              (F.metric_equal_api_Tag n a0.2.2.2.2.1 a1.2.2.2.2.1).bind fun y2 =>
                some (y2)
            else
              some (false)
        else
          some (false)
      else
        some (false)
    else
      some (false)
  else
    some (false)
noncomputable def F.law10_StatsdForms.C27 {X : Type} (n : Nat) (kr : Bool → Option X) (c14 : List UInt8) (cb0_0 : List UInt8) (cb0_1 : Int) (cb0_2 : List ((Bool) × (Int) × (Int))) (cb0_3 : Int) (cb0_4 : List ((List UInt8) × (List UInt8))) (cb0_5 : Int) : Option X :=
  (F.statsd_Parse n c14).bind fun y25 =>
    bif (y25.2.1.1 == (0 : Int)) && (y25.2.1.2.1 == (0 : Int)) then
      (F.metric_Equal n (y25.1.1, y25.1.2.1, y25.1.2.2.1, y25.1.2.2.2.1, y25.1.2.2.2.2.1, y25.1.2.2.2.2.2.1, ()) (cb0_0, cb0_1, cb0_2, cb0_3, cb0_4, cb0_5, ())).bind fun y26 =>
        bif y26 then
          (F.law10_awake n ).bind fun y27 =>
            kr y27
        else
          kr false
    else
      kr false
noncomputable def F.law10_StatsdForms.C16 {X : Type} (n : Nat) (kr : Bool → Option X) (c2 : Bool) (c9 : List UInt8) (c11 : List UInt8) (c13 : List UInt8) (cb0_0 : List UInt8) (cb0_1 : Int) (cb0_2 : List ((Bool) × (Int) × (Int))) (cb0_3 : Int) (cb0_4 : List ((List UInt8) × (List UInt8))) (cb0_5 : Int) (cb1_0 : Int) (cb1_1 : Int) (cb1_2 : Int) : Option X :=
  bif decide (cb0_0.length + 1 ≤ strMax) then
    bif decide (((cb0_0 ++ ([58])).length) + c13.length ≤ strMax) then
      (F.law10_many n cb1_0).bind fun y32 =>
        bif decide ((((cb0_0 ++ ([58])) ++ c13).length) + y32.length ≤ strMax) then
          bif decide (((((cb0_0 ++ ([58])) ++ c13) ++ y32).length) + c9.length ≤ strMax) then
            (F.law10_many n cb1_1).bind fun y33 =>
              bif decide ((((((cb0_0 ++ ([58])) ++ c13) ++ y32) ++ c9).length) + y33.length ≤ strMax) then
                bif decide (((((((cb0_0 ++ ([58])) ++ c13) ++ y32) ++ c9) ++ y33).length) + 1 ≤ strMax) then
                  bif decide ((((((((cb0_0 ++ ([58])) ++ c13) ++ y32) ++ c9) ++ y33) ++ ([124])).length) + c11.length ≤ strMax) then
                    (F.num_RateText n cb0_3).bind fun y34 =>
                      bif !(y34.2.1 == (0 : Int)) then
                        kr false
                      else
                      bif !(cb0_3 == (1000000 : Int)) then
                        (F.law10_many n cb1_2).bind fun y35 =>
                          bif decide (y34.1.length + y35.length ≤ strMax) then
                            bif decide (((y34.1 ++ y35).length : Int) > (8 : Int)) then
                              bif decide (((((((((cb0_0 ++ ([58])) ++ c13) ++ y32) ++ c9) ++ y33) ++ ([124])) ++ c11).length) + 2 ≤ strMax) then
                                bif decide ((((((((((cb0_0 ++ ([58])) ++ c13) ++ y32) ++ c9) ++ y33) ++ ([124])) ++ c11) ++ ([124, 64])).length) + y34.1.length ≤ strMax) then
                                  F.law10_StatsdForms.C27 n
                                    (fun e36_6 =>
                                      kr e36_6) (((((((((cb0_0 ++ ([58])) ++ c13) ++ y32) ++ c9) ++ y33) ++ ([124])) ++ c11) ++ ([124, 64])) ++ y34.1) cb0_0 cb0_1 cb0_2 cb0_3 cb0_4 cb0_5
                                else
                                  none
                              else
                                none
                            else
                            bif decide (((((((((cb0_0 ++ ([58])) ++ c13) ++ y32) ++ c9) ++ y33) ++ ([124])) ++ c11).length) + 2 ≤ strMax) then
                              bif decide ((((((((((cb0_0 ++ ([58])) ++ c13) ++ y32) ++ c9) ++ y33) ++ ([124])) ++ c11) ++ ([124, 64])).length) + ((y34.1 ++ y35).length) ≤ strMax) then
                                F.law10_StatsdForms.C27 n
                                  (fun e37_6 =>
                                    kr e37_6) (((((((((cb0_0 ++ ([58])) ++ c13) ++ y32) ++ c9) ++ y33) ++ ([124])) ++ c11) ++ ([124, 64])) ++ (y34.1 ++ y35)) cb0_0 cb0_1 cb0_2 cb0_3 cb0_4 cb0_5
                              else
                                none
                            else
                              none
                          else
                            none
                      else
                      bif c2 then
                        bif decide (((((((((cb0_0 ++ ([58])) ++ c13) ++ y32) ++ c9) ++ y33) ++ ([124])) ++ c11).length) + 3 ≤ strMax) then
                          F.law10_StatsdForms.C27 n
                            (fun e38_6 =>
                              kr e38_6) ((((((((cb0_0 ++ ([58])) ++ c13) ++ y32) ++ c9) ++ y33) ++ ([124])) ++ c11) ++ ([124, 64, 49])) cb0_0 cb0_1 cb0_2 cb0_3 cb0_4 cb0_5
                        else
                          none
                      else
                        F.law10_StatsdForms.C27 n
                          (fun e39_6 =>
                            kr e39_6) (((((((cb0_0 ++ ([58])) ++ c13) ++ y32) ++ c9) ++ y33) ++ ([124])) ++ c11) cb0_0 cb0_1 cb0_2 cb0_3 cb0_4 cb0_5
                  else
                    none
                else
                  none
              else
                none
          else
            none
        else
          none
    else
      none
  else
    none
noncomputable def F.law10_StatsdForms.C14 {X : Type} (n : Nat) (kr : Bool → Option X) (c2 : Bool) (c9 : List UInt8) (c11 : List UInt8) (c13 : List UInt8) (cb0_0 : List UInt8) (cb0_1 : Int) (cb0_2 : List ((Bool) × (Int) × (Int))) (cb0_3 : Int) (cb0_4 : List ((List UInt8) × (List UInt8))) (cb0_5 : Int) (cb1_0 : Int) (cb1_1 : Int) (cb1_2 : Int) : Option X :=
  (idx cb0_2 (0 : Int)).bind fun x43 =>
    bif decide (x43.2.2 ≥ (0 : Int)) then
      bif decide (cb1_1 > (0 : Int)) then
        bif decide (c9.length + 1 ≤ strMax) then
          F.law10_StatsdForms.C16 n
            (fun e44_6 =>
              kr e44_6) c2 (c9 ++ ([46])) c11 c13 cb0_0 cb0_1 cb0_2 cb0_3 cb0_4 cb0_5 cb1_0 cb1_1 cb1_2
        else
          none
      else
        F.law10_StatsdForms.C16 n
          (fun e45_6 =>
            kr e45_6) c2 c9 c11 c13 cb0_0 cb0_1 cb0_2 cb0_3 cb0_4 cb0_5 cb1_0 cb1_1 cb1_2
    else
      F.law10_StatsdForms.C16 n
        (fun e46_6 =>
          kr e46_6) c2 c9 c11 c13 cb0_0 cb0_1 cb0_2 cb0_3 cb0_4 cb0_5 cb1_0 cb1_1 cb1_2
noncomputable def F.law10_StatsdForms (n : Nat) (a0 : (List UInt8) × (Int) × (List ((Bool) × (Int) × (Int))) × (Int) × (List ((List UInt8) × (List UInt8))) × (Int) × Unit) (a1 : (Int) × (Int) × (Int) × Unit) (a2 : Bool) : Option (Bool) :=
  (F.law10_Small n (a0.1, a0.2.1, a0.2.2.1, a0.2.2.2.1, a0.2.2.2.2.1, a0.2.2.2.2.2.1, ())).bind fun y1 =>
    bif !y1 then
      (F.law10_awake n ).bind fun y2 =>
        some (y2)
    else
    bif decide (a1.1 < (0 : Int)) then
      (F.law10_awake n ).bind fun y3 =>
        some (y3)
    else
    bif decide (a1.1 > (5 : Int)) then
      (F.law10_awake n ).bind fun y4 =>
        some (y4)
    else
    bif decide (a1.2.1 < (0 : Int)) then
      (F.law10_awake n ).bind fun y5 =>
        some (y5)
    else
    bif decide (a1.2.1 > (5 : Int)) then
      (F.law10_awake n ).bind fun y6 =>
        some (y6)
    else
    bif decide (a1.2.2.1 < (0 : Int)) then
      (F.law10_awake n ).bind fun y7 =>
        some (y7)
    else
    bif decide (a1.2.2.1 > (5 : Int)) then
      (F.law10_awake n ).bind fun y8 =>
        some (y8)
    else
      (F.statsd_Line n (a0.1, a0.2.1, a0.2.2.1, a0.2.2.2.1, a0.2.2.2.2.1, a0.2.2.2.2.2.1, ())).bind fun y9 =>
        bif !(y9.2.1 == (0 : Int)) then
          (F.law10_awake n ).bind fun y10 =>
            some (y10)
        else
        bif !((a0.2.2.1.length : Int) == (1 : Int)) then
          (F.law10_awake n ).bind fun y11 =>
            some (y11)
        else
          (idx a0.2.2.1 (0 : Int)).bind fun x12 =>
            (F.dec_Text n (x12.1, x12.2.1, x12.2.2, ())).bind fun y13 =>
              (O.word n a0.2.1).bind fun y14 =>
                bif !(y13.2.1 == (0 : Int)) then
                  some (false)
                else
                bif !(y14.2.1 == (0 : Int)) then
                  some (false)
                else
                bif decide ((y13.1.length : Int) < (1 : Int)) then
                  some (false)
                else
                  (idx y13.1 (0 : Int)).bind fun x15 =>
                    bif ((x15).toNat) == (45 : Int) then
                      (sub y13.1 (1 : Int) (y13.1.length : Int)).bind fun x16 =>
                        F.law10_StatsdForms.C14 n
                          (fun e47_6 =>
                            some (e47_6)) a2 x16 y14.1 ([45]) a0.1 a0.2.1 a0.2.2.1 a0.2.2.2.1 a0.2.2.2.2.1 a0.2.2.2.2.2.1 a1.1 a1.2.1 a1.2.2.1
                    else
                      F.law10_StatsdForms.C14 n
                        (fun e48_6 =>
                          some (e48_6)) a2 y13.1 y14.1 [] a0.1 a0.2.1 a0.2.2.1 a0.2.2.2.1 a0.2.2.2.2.1 a0.2.2.2.2.2.1 a1.1 a1.2.1 a1.2.2.1
noncomputable def F.law10_StatsdBehind.C13 {X : Type} (n : Nat) (kr : Bool → Option X) (c2 : Int) (c7 : List UInt8) (cb0_0 : List UInt8) (cb0_1 : Int) (cb0_2 : List ((Bool) × (Int) × (Int))) (cb0_3 : Int) (cb0_4 : List ((List UInt8) × (List UInt8))) (cb0_5 : Int) : Option X :=
  bif decide (c2 < (0 : Int)) then
    (F.law10_awake n ).bind fun y17 =>
      kr y17
  else
  bif decide (c2 ≥ (c7.length : Int)) then
    (F.law10_awake n ).bind fun y18 =>
      kr y18
  else
    (sub c7 (0 : Int) c2).bind fun x19 =>
      (F.statsd_Parse n x19).bind fun y20 =>
        bif !((y20.2.1.1 == (0 : Int)) && (y20.2.1.2.1 == (0 : Int))) then
          bif decide (y20.2.1.2.1 ≤ c2) then
            (F.law10_awake n ).bind fun y21 =>
              kr y21
          else
            (F.metric_Equal n (y20.1.1, y20.1.2.1, y20.1.2.2.1, y20.1.2.2.2.1, y20.1.2.2.2.2.1, y20.1.2.2.2.2.2.1, ()) (cb0_0, cb0_1, cb0_2, cb0_3, cb0_4, cb0_5, ())).bind fun y22 =>
              bif !y22 then
                (F.law10_awake n ).bind fun y23 =>
                  kr y23
              else
                kr false
        else
          (F.metric_Equal n (y20.1.1, y20.1.2.1, y20.1.2.2.1, y20.1.2.2.2.1, y20.1.2.2.2.2.1, y20.1.2.2.2.2.2.1, ()) (cb0_0, cb0_1, cb0_2, cb0_3, cb0_4, cb0_5, ())).bind fun y24 =>
            bif !y24 then
              (F.law10_awake n ).bind fun y25 =>
                kr y25
            else
              kr false
noncomputable def F.law10_StatsdBehind.C11 {X : Type} (n : Nat) (kr : Bool → Option X) (kn : Int → (List UInt8) → (List UInt8) → Int → (List ((Bool) × (Int) × (Int))) → Int → (List ((List UInt8) × (List UInt8))) → Int → Option X) (c2 : Int) (c7 : List UInt8) (c63 : Bool) (cb0_0 : List UInt8) (cb0_1 : Int) (cb0_2 : List ((Bool) × (Int) × (Int))) (cb0_3 : Int) (cb0_4 : List ((List UInt8) × (List UInt8))) (cb0_5 : Int) (cb1_0 : List UInt8) (cb1_1 : Int) (cb1_2 : List ((Bool) × (Int) × (Int))) (cb1_3 : Int) (cb1_4 : List ((List UInt8) × (List UInt8))) (cb1_5 : Int) (cb2_0 : Int) (cb2_1 : Int) : Option X :=
  bif c63 then
    bif !((cb2_0 == (11 : Int)) && (cb2_1 == (IntKind.wrap .i64 ((c7.length : Int) + (1 : Int))))) then
      kr false
    else
      (F.metric_Equal n (cb1_0, cb1_1, cb1_2, cb1_3, cb1_4, cb1_5, ()) ([], (0 : Int), [], (0 : Int), [], (0 : Int), ())).bind fun y28 =>
        bif !y28 then
          kr false
        else
          kn c2 c7 cb0_0 cb0_1 cb0_2 cb0_3 cb0_4 cb0_5
  else
    kn c2 c7 cb0_0 cb0_1 cb0_2 cb0_3 cb0_4 cb0_5
noncomputable def F.law10_StatsdBehind (n : Nat) (a0 : (List UInt8) × (Int) × (List ((Bool) × (Int) × (Int))) × (Int) × (List ((List UInt8) × (List UInt8))) × (Int) × Unit) (a1 : List UInt8) (a2 : Int) : Option (Bool) :=
  (F.law10_Small n (a0.1, a0.2.1, a0.2.2.1, a0.2.2.2.1, a0.2.2.2.2.1, a0.2.2.2.2.2.1, ())).bind fun y1 =>
    bif !y1 then
      (F.law10_awake n ).bind fun y2 =>
        some (y2)
    else
    bif decide ((a1.length : Int) > (100 : Int)) then
      (F.law10_awake n ).bind fun y3 =>
        some (y3)
    else
      (F.statsd_Line n (a0.1, a0.2.1, a0.2.2.1, a0.2.2.2.1, a0.2.2.2.2.1, a0.2.2.2.2.2.1, ())).bind fun y4 =>
        bif !(y4.2.1 == (0 : Int)) then
          bif y4.1 == [] then
            (F.law10_awake n ).bind fun y5 =>
              some (y5)
          else
            some (false)
        else
        bif decide (y4.1.length + 1 ≤ strMax) then
          bif decide (((y4.1 ++ ([124])).length) + a1.length ≤ strMax) then
            (F.statsd_Parse n ((y4.1 ++ ([124])) ++ a1)).bind fun y6 =>
              bif !(a0.2.2.2.1 == (1000000 : Int)) then
                bif !((y6.2.1.1 == (11 : Int)) && (y6.2.1.2.1 == (y4.1.length : Int))) then
                  some (false)
                else
                  (F.metric_Equal n (y6.1.1, y6.1.2.1, y6.1.2.2.1, y6.1.2.2.2.1, y6.1.2.2.2.2.1, y6.1.2.2.2.2.2.1, ()) ([], (0 : Int), [], (0 : Int), [], (0 : Int), ())).bind fun y7 =>
                    bif !y7 then
                      some (false)
                    else
                      F.law10_StatsdBehind.C13 n
                        (fun e26_6 =>
                          some (e26_6)) a2 y4.1 a0.1 a0.2.1 a0.2.2.1 a0.2.2.2.1 a0.2.2.2.2.1 a0.2.2.2.2.2.1
              else
              bif decide ((a1.length : Int) < (1 : Int)) then
                F.law10_StatsdBehind.C11 n
                  (fun e29_6 =>
                    some (e29_6))
                  (fun e30_2 e30_7 e30_b0_0 e30_b0_1 e30_b0_2 e30_b0_3 e30_b0_4 e30_b0_5 =>
                    F.law10_StatsdBehind.C13 n
                      (fun e31_6 =>
                        some (e31_6)) e30_2 e30_7 e30_b0_0 e30_b0_1 e30_b0_2 e30_b0_3 e30_b0_4 e30_b0_5) a2 y4.1 true a0.1 a0.2.1 a0.2.2.1 a0.2.2.2.1 a0.2.2.2.2.1 a0.2.2.2.2.2.1 y6.1.1 y6.1.2.1 y6.1.2.2.1 y6.1.2.2.2.1 y6.1.2.2.2.2.1 y6.1.2.2.2.2.2.1 y6.2.1.1 y6.2.1.2.1
              else
                (idx a1 (0 : Int)).bind fun x32 =>
                  F.law10_StatsdBehind.C11 n
                    (fun e33_6 =>
                      some (e33_6))
                    (fun e34_2 e34_7 e34_b0_0 e34_b0_1 e34_b0_2 e34_b0_3 e34_b0_4 e34_b0_5 =>
                      F.law10_StatsdBehind.C13 n
                        (fun e35_6 =>
                          some (e35_6)) e34_2 e34_7 e34_b0_0 e34_b0_1 e34_b0_2 e34_b0_3 e34_b0_4 e34_b0_5) a2 y4.1 (!(((x32).toNat) == (64 : Int))) a0.1 a0.2.1 a0.2.2.1 a0.2.2.2.1 a0.2.2.2.2.1 a0.2.2.2.2.2.1 y6.1.1 y6.1.2.1 y6.1.2.2.1 y6.1.2.2.2.1 y6.1.2.2.2.2.1 y6.1.2.2.2.2.2.1 y6.2.1.1 y6.2.1.2.1
          else
            none
        else
          none
noncomputable def F.tag_Less (n : Nat) (a0 : (List UInt8) × (List UInt8) × Unit) (a1 : (List UInt8) × (List UInt8) × Unit) : Option (Bool) :=
  bif !(a0.1 == a1.1) then
    some (Op.bytesLess a0.1 a1.1)
  else
    some (Op.bytesLess a0.2.1 a1.2.1)
noncomputable def F.tag_Is.L2.step {X : Type} (n : Nat) (rec : (List ((List UInt8) × (List UInt8))) → Int → Option X) (k0 : Unit → Option X) (kr : Bool → Option X) (v0 : List ((List UInt8) × (List UInt8))) (v3 : Int) : Option X :=
  bif decide (v3 < (v0.length : Int)) then
    (idx v0 (IntKind.wrap .i64 (v3 - (1 : Int)))).bind fun x1 =>
      (idx v0 v3).bind fun x2 =>
        (F.tag_Less n (x1.1, x1.2, ()) (x2.1, x2.2, ())).bind fun y3 =>
          bif !y3 then
            kr false
          else
            rec v0 (IntKind.wrap .i64 (v3 + (1 : Int)))
  else
    k0 ()
noncomputable def F.tag_Is.L2 {X : Type} (n : Nat) (k0 : Unit → Option X) (kr : Bool → Option X) : Nat → (List ((List UInt8) × (List UInt8))) → Int → Option X
  | 0 => fun _ _ => none
  | m + 1 => fun v0 v3 => F.tag_Is.L2.step n (F.tag_Is.L2 n k0 kr m) k0 kr v0 v3
noncomputable def F.tag_Is (n : Nat) (a0 : List ((List UInt8) × (List UInt8))) : Option (Bool) :=
  F.tag_Is.L2 n
    (fun (_ : Unit) =>
      some (true))
    (fun e5_2 =>
      some (e5_2)) n a0 (1 : Int)
noncomputable def F.metric_Is (n : Nat) (a0 : (List UInt8) × (Int) × (List ((Bool) × (Int) × (Int))) × (Int) × (List ((List UInt8) × (List UInt8))) × (Int) × Unit) : Option (Bool) :=
  (F.metric_Check n (a0.1, a0.2.1, a0.2.2.1, a0.2.2.2.1, a0.2.2.2.2.1, a0.2.2.2.2.2.1, ())).bind fun y1 =>
    bif y1 == (0 : Int) then
      (F.tag_Is n a0.2.2.2.2.1).bind fun y2 =>
        some (y2)
    else
      some (false)
noncomputable def F.law10_StatsdBack.C10 {X : Type} (n : Nat) (kr : Bool → Option X) (c1 : List UInt8) : Option X :=
  (F.statsd_Parse n c1).bind fun y15 =>
    bif !((y15.2.1.1 == (0 : Int)) && (y15.2.1.2.1 == (0 : Int))) then
      (F.metric_Equal n (y15.1.1, y15.1.2.1, y15.1.2.2.1, y15.1.2.2.2.1, y15.1.2.2.2.2.1, y15.1.2.2.2.2.2.1, ()) ([], (0 : Int), [], (0 : Int), [], (0 : Int), ())).bind fun y16 =>
        bif y16 then
          bif !(y15.2.1.1 == (0 : Int)) then
            bif decide (y15.2.1.2.1 ≥ (0 : Int)) then
              bif decide (y15.2.1.2.1 ≤ (c1.length : Int)) then
                (F.law10_awake n ).bind fun y17 =>
                  kr y17
              else
                kr false
            else
              kr false
          else
            kr false
        else
          kr false
    else
      (F.statsd_Line n (y15.1.1, y15.1.2.1, y15.1.2.2.1, y15.1.2.2.2.1, y15.1.2.2.2.2.1, y15.1.2.2.2.2.2.1, ())).bind fun y18 =>
        (F.statsd_Parse n y18.1).bind fun y19 =>
          (F.metric_Is n (y15.1.1, y15.1.2.1, y15.1.2.2.1, y15.1.2.2.2.1, y15.1.2.2.2.2.1, y15.1.2.2.2.2.2.1, ())).bind fun y20 =>
            bif y20 then
              (F.expr_Metric n (y15.1.1, y15.1.2.1, y15.1.2.2.1, y15.1.2.2.2.1, y15.1.2.2.2.2.1, y15.1.2.2.2.2.2.1, ()) (1 : Int)).bind fun y21 =>
                bif y21 == (0 : Int) then
                  bif y18.2.1 == (0 : Int) then
                    bif (y19.2.1.1 == y15.2.1.1) && (y19.2.1.2.1 == y15.2.1.2.1) then
                      (F.metric_Equal n (y15.1.1, y15.1.2.1, y15.1.2.2.1, y15.1.2.2.2.1, y15.1.2.2.2.2.1, y15.1.2.2.2.2.2.1, ()) (y19.1.1, y19.1.2.1, y19.1.2.2.1, y19.1.2.2.2.1, y19.1.2.2.2.2.1, y19.1.2.2.2.2.2.1, ())).bind fun y22 =>
                        bif y22 then
                          bif decide ((y18.1.length : Int) ≤ (c1.length : Int)) then
                            (F.law10_awake n ).bind fun y23 =>
                              kr y23
                          else
                            kr false
                        else
                          kr false
                    else
                      kr false
                  else
                    kr false
                else
                  kr false
            else
              kr false
noncomputable def F.law10_StatsdBack (n : Nat) (a0 : (List UInt8) × (Int) × (List ((Bool) × (Int) × (Int))) × (Int) × (List ((List UInt8) × (List UInt8))) × (Int) × Unit) (a1 : List UInt8) : Option (Bool) :=
  (F.law10_Small n (a0.1, a0.2.1, a0.2.2.1, a0.2.2.2.1, a0.2.2.2.2.1, a0.2.2.2.2.2.1, ())).bind fun y1 =>
    bif !y1 then
      (F.law10_awake n ).bind fun y2 =>
        some (y2)
    else
    bif decide ((a1.length : Int) > (600 : Int)) then
      (F.law10_awake n ).bind fun y3 =>
        some (y3)
    else
      (F.statsd_Line n (a0.1, a0.2.1, a0.2.2.1, a0.2.2.2.1, a0.2.2.2.2.1, a0.2.2.2.2.2.1, ())).bind fun y4 =>
        bif !(y4.2.1 == (0 : Int)) then
          bif !(y4.1 == []) then
            some (false)
          else
            (F.expr_Metric n (a0.1, a0.2.1, a0.2.2.1, a0.2.2.2.1, a0.2.2.2.2.1, a0.2.2.2.2.2.1, ()) (1 : Int)).bind fun y5 =>
              bif !(y5 == y4.2.1) then
                some (false)
              else
                F.law10_StatsdBack.C10 n
                  (fun e24_4 =>
                    some (e24_4)) a1
        else
          (F.statsd_Parse n y4.1).bind fun y25 =>
            bif !((y25.2.1.1 == (0 : Int)) && (y25.2.1.2.1 == (0 : Int))) then
              some (false)
            else
              (F.metric_Equal n (y25.1.1, y25.1.2.1, y25.1.2.2.1, y25.1.2.2.2.1, y25.1.2.2.2.2.1, y25.1.2.2.2.2.2.1, ()) (a0.1, a0.2.1, a0.2.2.1, a0.2.2.2.1, a0.2.2.2.2.1, a0.2.2.2.2.2.1, ())).bind fun y26 =>
                bif !y26 then
                  some (false)
                else
                  F.law10_StatsdBack.C10 n
                    (fun e27_4 =>
                      some (e27_4)) a1
end Go.AM
namespace Go.Proofs
open Go.Shelf
def Tryz.lays161_ren : Go.Shelf.Ren := ⟨fun | 161 => 62 | 231 => 103 | 227 => 81 | 233 => 104 | 235 => 105 | 228 => 119 | 197 => 135 | 151 => 121 | 260 => 150 | 152 => 145 | 137 => 153 | 119 => 154 | 224 => 132 | 225 => 131 | 217 => 130 | 266 => 148 | n => n, fun | 9 => 9 | 4 => 4 | 3 => 3 | 5 => 5 | 117 => 121 | 116 => 120 | 0 => 0 | 124 => 124 | 105 => 148 | 21 => 21 | 119 => 172 | 46 => 104 | 139 => 175 | 138 => 174 | n => n, fun | 3 => 2 | 4 => 3 | n => n⟩
theorem Tryz.lays161 : Go.Proofs.Lays.n161 Tryz.prog Tryz.lays161_ren := {
  mixed := by kernel_rfl
  f119 := Tryz.func154.trans (congrArg some (by kernel_rfl))
  f137 := Tryz.func153.trans (congrArg some (by kernel_rfl))
  f151 := Tryz.func121.trans (congrArg some (by kernel_rfl))
  f152 := Tryz.func145.trans (congrArg some (by kernel_rfl))
  f161 := Tryz.func62.trans (congrArg some (by kernel_rfl))
  f197 := Tryz.func135.trans (congrArg some (by kernel_rfl))
  f217 := Tryz.func130.trans (congrArg some (by kernel_rfl))
  f224 := Tryz.func132.trans (congrArg some (by kernel_rfl))
  f225 := Tryz.func131.trans (congrArg some (by kernel_rfl))
  f227 := Tryz.func81.trans (congrArg some (by kernel_rfl))
  f228 := Tryz.func119.trans (congrArg some (by kernel_rfl))
  f231 := Tryz.func103.trans (congrArg some (by kernel_rfl))
  f233 := Tryz.func104.trans (congrArg some (by kernel_rfl))
  f235 := Tryz.func105.trans (congrArg some (by kernel_rfl))
  f260 := Tryz.func150.trans (congrArg some (by kernel_rfl))
  f266 := Tryz.func148.trans (congrArg some (by kernel_rfl))
  t0 := Tryz.underlying0
  a0 := Tryz.isAgg0
  z0 := Tryz.sizeOf0
  v0 := Tryz.zeroValue0
  t3 := Tryz.underlying3
  a3 := Tryz.isAgg3
  z3 := Tryz.sizeOf3
  v3 := Tryz.zeroValue3
  t4 := Tryz.underlying4
  a4 := Tryz.isAgg4
  z4 := Tryz.sizeOf4
  v4 := Tryz.zeroValue4
  t5 := Tryz.underlying5
  a5 := Tryz.isAgg5
  z5 := Tryz.sizeOf5
  v5 := Tryz.zeroValue5
  t9 := Tryz.underlying9
  a9 := Tryz.isAgg9
  z9 := Tryz.sizeOf9
  v9 := Tryz.zeroValue9
  t21 := Tryz.underlying21
  a21 := Tryz.isAgg21
  z21 := Tryz.sizeOf21
  v21 := Tryz.zeroValue21
  t46 := Tryz.underlying104
  a46 := Tryz.isAgg104
  z46 := Tryz.sizeOf104
  v46 := Tryz.zeroValue104
  t105 := Tryz.underlying148
  a105 := Tryz.isAgg148
  z105 := Tryz.sizeOf148
  v105 := Tryz.zeroValue148
  t116 := Tryz.underlying120
  a116 := Tryz.isAgg120
  z116 := Tryz.sizeOf120
  t117 := Tryz.underlying121
  a117 := Tryz.isAgg121
  z117 := Tryz.sizeOf121
  v117 := Tryz.zeroValue121
  t119 := Tryz.underlying172
  a119 := Tryz.isAgg172
  z119 := Tryz.sizeOf172
  t124 := Tryz.underlying124
  a124 := Tryz.isAgg124
  z124 := Tryz.sizeOf124
  v124 := Tryz.zeroValue124
  t138 := Tryz.underlying174
  a138 := Tryz.isAgg174
  z138 := Tryz.sizeOf174
  v138 := Tryz.zeroValue174
  t139 := Tryz.underlying175
  a139 := Tryz.isAgg175
  z139 := Tryz.sizeOf175
  v139 := Tryz.zeroValue175
  g3 := by kernel_rfl
  g4 := by kernel_rfl }
open Go.RowKit in
theorem Tryz.strings_TrimLeft_one (s : ByteArray) (c : UInt8) (hc : c.toNat < 128) (w : World) :
    Calls Tryz.prog 62 #[.string s, .string ⟨#[c]⟩] w fun e w' => e = .returned (.string ⟨(Lib.trimLeftB s.data.toList c).toArray⟩) ∧ w' = w := Any.strings_TrimLeft_one Tryz.lays161 s c hc w
def Tryz.lays162_ren : Go.Shelf.Ren := ⟨fun | 162 => 48 | 232 => 80 | 227 => 81 | 234 => 82 | 236 => 83 | 228 => 119 | 271 => 120 | 151 => 121 | 120 => 144 | 197 => 135 | 152 => 145 | 260 => 150 | 137 => 153 | 119 => 154 | 224 => 132 | 225 => 131 | 217 => 130 | 266 => 148 | n => n, fun | 9 => 9 | 4 => 4 | 3 => 3 | 5 => 5 | 117 => 121 | 116 => 120 | 0 => 0 | 124 => 124 | 21 => 21 | 105 => 148 | 46 => 104 | 119 => 172 | 139 => 175 | 138 => 174 | n => n, fun | 3 => 2 | 4 => 3 | n => n⟩
theorem Tryz.lays162 : Go.Proofs.Lays.n162 Tryz.prog Tryz.lays162_ren := {
  mixed := by kernel_rfl
  f119 := Tryz.func154.trans (congrArg some (by kernel_rfl))
  f120 := Tryz.func144.trans (congrArg some (by kernel_rfl))
  f137 := Tryz.func153.trans (congrArg some (by kernel_rfl))
  f151 := Tryz.func121.trans (congrArg some (by kernel_rfl))
  f152 := Tryz.func145.trans (congrArg some (by kernel_rfl))
  f162 := Tryz.func48.trans (congrArg some (by kernel_rfl))
  f197 := Tryz.func135.trans (congrArg some (by kernel_rfl))
  f217 := Tryz.func130.trans (congrArg some (by kernel_rfl))
  f224 := Tryz.func132.trans (congrArg some (by kernel_rfl))
  f225 := Tryz.func131.trans (congrArg some (by kernel_rfl))
  f227 := Tryz.func81.trans (congrArg some (by kernel_rfl))
  f228 := Tryz.func119.trans (congrArg some (by kernel_rfl))
  f232 := Tryz.func80.trans (congrArg some (by kernel_rfl))
  f234 := Tryz.func82.trans (congrArg some (by kernel_rfl))
  f236 := Tryz.func83.trans (congrArg some (by kernel_rfl))
  f260 := Tryz.func150.trans (congrArg some (by kernel_rfl))
  f266 := Tryz.func148.trans (congrArg some (by kernel_rfl))
  f271 := Tryz.func120.trans (congrArg some (by kernel_rfl))
  t0 := Tryz.underlying0
  a0 := Tryz.isAgg0
  z0 := Tryz.sizeOf0
  v0 := Tryz.zeroValue0
  t3 := Tryz.underlying3
  a3 := Tryz.isAgg3
  z3 := Tryz.sizeOf3
  v3 := Tryz.zeroValue3
  t4 := Tryz.underlying4
  a4 := Tryz.isAgg4
  z4 := Tryz.sizeOf4
  v4 := Tryz.zeroValue4
  t5 := Tryz.underlying5
  a5 := Tryz.isAgg5
  z5 := Tryz.sizeOf5
  v5 := Tryz.zeroValue5
  t9 := Tryz.underlying9
  a9 := Tryz.isAgg9
  z9 := Tryz.sizeOf9
  v9 := Tryz.zeroValue9
  t21 := Tryz.underlying21
  a21 := Tryz.isAgg21
  z21 := Tryz.sizeOf21
  v21 := Tryz.zeroValue21
  t46 := Tryz.underlying104
  a46 := Tryz.isAgg104
  z46 := Tryz.sizeOf104
  v46 := Tryz.zeroValue104
  t105 := Tryz.underlying148
  a105 := Tryz.isAgg148
  z105 := Tryz.sizeOf148
  v105 := Tryz.zeroValue148
  t116 := Tryz.underlying120
  a116 := Tryz.isAgg120
  z116 := Tryz.sizeOf120
  t117 := Tryz.underlying121
  a117 := Tryz.isAgg121
  z117 := Tryz.sizeOf121
  v117 := Tryz.zeroValue121
  t119 := Tryz.underlying172
  a119 := Tryz.isAgg172
  z119 := Tryz.sizeOf172
  t124 := Tryz.underlying124
  a124 := Tryz.isAgg124
  z124 := Tryz.sizeOf124
  v124 := Tryz.zeroValue124
  t138 := Tryz.underlying174
  a138 := Tryz.isAgg174
  z138 := Tryz.sizeOf174
  v138 := Tryz.zeroValue174
  t139 := Tryz.underlying175
  a139 := Tryz.isAgg175
  z139 := Tryz.sizeOf175
  v139 := Tryz.zeroValue175
  g3 := by kernel_rfl
  g4 := by kernel_rfl }
open Go.RowKit in
theorem Tryz.strings_TrimRight_one (s : ByteArray) (c : UInt8) (hc : c.toNat < 128) (w : World) (hs : s.size ≤ 9223372036854775807) :
    Calls Tryz.prog 48 #[.string s, .string ⟨#[c]⟩] w fun e w' => e = .returned (.string ⟨(Lib.trimRightB s.data.toList c).toArray⟩) ∧ w' = w := Any.strings_TrimRight_one Tryz.lays162 s c hc w hs
def Tryz.lays283_ren : Go.Shelf.Ren := ⟨fun | 283 => 111 | n => n, fun | 3 => 3 | 9 => 9 | 4 => 4 | n => n, fun | n => n⟩
theorem Tryz.lays283 : Go.Proofs.Lays.n283 Tryz.prog Tryz.lays283_ren := {
  mixed := by kernel_rfl
  f283 := Tryz.func111.trans (congrArg some (by kernel_rfl))
  t3 := Tryz.underlying3
  a3 := Tryz.isAgg3
  z3 := Tryz.sizeOf3
  v3 := Tryz.zeroValue3
  t4 := Tryz.underlying4
  a4 := Tryz.isAgg4
  z4 := Tryz.sizeOf4
  v4 := Tryz.zeroValue4
  t9 := Tryz.underlying9
  a9 := Tryz.isAgg9
  z9 := Tryz.sizeOf9
  v9 := Tryz.zeroValue9 }
open Go.Lib in
theorem Tryz.internal_strconv_small (i : Nat) (h : i < 100) (w : World) :
    Calls Tryz.prog 111 #[.int .i64 i] w fun e w' => e = .returned (.string ⟨(Lib.decDigits i).toArray⟩) ∧ w' = w := Any.internal_strconv_small Tryz.lays283 i h w
def Tryz.laysM284_ren : Go.Shelf.Ren := ⟨fun | 284 => 112 | 129 => 138 | 317 => 137 | 318 => 139 | n => n, fun | 53 => 47 | 3 => 3 | 212 => 160 | 0 => 0 | 4 => 4 | 46 => 104 | 5 => 5 | 9 => 9 | n => n, fun | 17 => 1 | n => n⟩
theorem Tryz.laysM284 : Go.Proofs.LaysM.n284 Tryz.prog Tryz.laysM284_ren := {
  mixed := by kernel_rfl
  f129 := Tryz.func138.trans (congrArg some (by kernel_rfl))
  f284 := Tryz.func112.trans (congrArg some (by kernel_rfl))
  f317 := Tryz.func137.trans (congrArg some (by kernel_rfl))
  f318 := Tryz.func139.trans (congrArg some (by kernel_rfl))
  t0 := Tryz.underlying0
  a0 := Tryz.isAgg0
  z0 := Tryz.sizeOf0
  v0 := Tryz.zeroValue0
  t3 := Tryz.underlying3
  a3 := Tryz.isAgg3
  z3 := Tryz.sizeOf3
  v3 := Tryz.zeroValue3
  t4 := Tryz.underlying4
  a4 := Tryz.isAgg4
  z4 := Tryz.sizeOf4
  v4 := Tryz.zeroValue4
  t5 := Tryz.underlying5
  a5 := Tryz.isAgg5
  z5 := Tryz.sizeOf5
  v5 := Tryz.zeroValue5
  t9 := Tryz.underlying9
  a9 := Tryz.isAgg9
  z9 := Tryz.sizeOf9
  v9 := Tryz.zeroValue9
  t46 := Tryz.underlying104
  a46 := Tryz.isAgg104
  z46 := Tryz.sizeOf104
  v46 := Tryz.zeroValue104
  t53 := Tryz.underlying47
  a53 := Tryz.isAgg47
  z53 := Tryz.sizeOf47
  v53 := Tryz.zeroValue47
  t212 := Tryz.underlying160
  a212 := Tryz.isAgg160
  z212 := Tryz.sizeOf160
  v212 := Tryz.zeroValue160
  g17 := by kernel_rfl
  i0 := by kernel_rfl
  i3 := by kernel_rfl
  i4 := by kernel_rfl
  i5 := by kernel_rfl
  i9 := by kernel_rfl
  i46 := by kernel_rfl
  i53 := by kernel_rfl
  i212 := by kernel_rfl
  m17 := by kernel_rfl }
open Go.Lib in
theorem Tryz.internal_strconv_numDigits (u : Nat) (h1 : 1 ≤ u) (h2 : u < 18446744073709551616) (w : World) (htab : Lib.TabIs Tryz.prog w "internal/strconv.uint64pow10" .u64 Lib.pow10Tab) :
    Calls Tryz.prog 112 #[.int .u64 u] w fun e w' => e = .returned (.int .i64 (Lib.nDigits u)) ∧ w' = w := Any.internal_strconv_numDigits Tryz.laysM284 u h1 h2 w htab
def Tryz.lays285_ren : Go.Shelf.Ren := ⟨fun | 285 => 113 | n => n, fun | 37 => 108 | 53 => 47 | 3 => 3 | 4 => 4 | 51 => 143 | 9 => 9 | 5 => 5 | 0 => 0 | n => n, fun | n => n⟩
theorem Tryz.lays285 : Go.Proofs.Lays.n285 Tryz.prog Tryz.lays285_ren := {
  mixed := by kernel_rfl
  f285 := Tryz.func113.trans (congrArg some (by kernel_rfl))
  t0 := Tryz.underlying0
  a0 := Tryz.isAgg0
  z0 := Tryz.sizeOf0
  v0 := Tryz.zeroValue0
  t3 := Tryz.underlying3
  a3 := Tryz.isAgg3
  z3 := Tryz.sizeOf3
  v3 := Tryz.zeroValue3
  t4 := Tryz.underlying4
  a4 := Tryz.isAgg4
  z4 := Tryz.sizeOf4
  v4 := Tryz.zeroValue4
  t5 := Tryz.underlying5
  a5 := Tryz.isAgg5
  z5 := Tryz.sizeOf5
  v5 := Tryz.zeroValue5
  t9 := Tryz.underlying9
  a9 := Tryz.isAgg9
  z9 := Tryz.sizeOf9
  v9 := Tryz.zeroValue9
  t37 := Tryz.underlying108
  a37 := Tryz.isAgg108
  z37 := Tryz.sizeOf108
  v37 := Tryz.zeroValue108
  t51 := Tryz.underlying143
  a51 := Tryz.isAgg143
  z51 := Tryz.sizeOf143
  v51 := Tryz.zeroValue143
  t53 := Tryz.underlying47
  a53 := Tryz.isAgg47
  z53 := Tryz.sizeOf47
  v53 := Tryz.zeroValue47 }
open Go.RowKit Go.Sort Go.Lib in
theorem Tryz.internal_strconv_formatBase10 (blk off cap : Nat) (u : Nat) (d : Array UInt8) (w : World) (hH : Holds (fun (b : UInt8) => Value.int .u8 (b.toNat : Int)) w blk off d) (hu : u < 10 ^ d.size) (hu64 : u < 18446744073709551616) (hsz : d.size < 4611686018427387904) :
    Calls Tryz.prog 113 #[.slice (some ⟨blk, off, none⟩) d.size cap, .int .u64 u] w fun e w' =>
      e = .returned (.tuple #[]) ∧ ∃ (n v' : Nat) (dk : Array UInt8), w' = (putRow (fun (b : UInt8) => Value.int .u8 (b.toNat : Int)) w blk off dk).drewN n ∧ FmtInv d.size u 0 v' dk := Any.internal_strconv_formatBase10 Tryz.lays285 blk off cap u d w hH hu hu64 hsz
def Tryz.laysM171_ren : Go.Shelf.Ren := ⟨fun | 171 => 47 | 243 => 79 | 246 => 118 | 283 => 111 | 284 => 112 | 285 => 113 | 286 => 114 | 129 => 138 | 317 => 137 | 318 => 139 | 319 => 140 | 320 => 141 | 337 => 151 | 338 => 152 | n => n, fun | 3 => 3 | 9 => 9 | 2 => 2 | 4 => 4 | 171 => 138 | 0 => 0 | 53 => 47 | 37 => 108 | 5 => 5 | 173 => 141 | 212 => 160 | 51 => 143 | 20 => 20 | 213 => 161 | 46 => 104 | 232 => 176 | 233 => 177 | n => n, fun | 17 => 1 | 18 => 4 | 19 => 5 | n => n⟩
theorem Tryz.laysM171 : Go.Proofs.LaysM.n171 Tryz.prog Tryz.laysM171_ren := {
  mixed := by kernel_rfl
  f129 := Tryz.func138.trans (congrArg some (by kernel_rfl))
  f171 := Tryz.func47.trans (congrArg some (by kernel_rfl))
  f243 := Tryz.func79.trans (congrArg some (by kernel_rfl))
  f246 := Tryz.func118.trans (congrArg some (by kernel_rfl))
  f283 := Tryz.func111.trans (congrArg some (by kernel_rfl))
  f284 := Tryz.func112.trans (congrArg some (by kernel_rfl))
  f285 := Tryz.func113.trans (congrArg some (by kernel_rfl))
  f286 := Tryz.func114.trans (congrArg some (by kernel_rfl))
  f317 := Tryz.func137.trans (congrArg some (by kernel_rfl))
  f318 := Tryz.func139.trans (congrArg some (by kernel_rfl))
  f319 := Tryz.func140.trans (congrArg some (by kernel_rfl))
  f320 := Tryz.func141.trans (congrArg some (by kernel_rfl))
  f337 := Tryz.func151.trans (congrArg some (by kernel_rfl))
  f338 := Tryz.func152.trans (congrArg some (by kernel_rfl))
  t0 := Tryz.underlying0
  a0 := Tryz.isAgg0
  z0 := Tryz.sizeOf0
  v0 := Tryz.zeroValue0
  t2 := Tryz.underlying2
  a2 := Tryz.isAgg2
  z2 := Tryz.sizeOf2
  v2 := Tryz.zeroValue2
  t3 := Tryz.underlying3
  a3 := Tryz.isAgg3
  z3 := Tryz.sizeOf3
  v3 := Tryz.zeroValue3
  t4 := Tryz.underlying4
  a4 := Tryz.isAgg4
  z4 := Tryz.sizeOf4
  v4 := Tryz.zeroValue4
  t5 := Tryz.underlying5
  a5 := Tryz.isAgg5
  z5 := Tryz.sizeOf5
  v5 := Tryz.zeroValue5
  t9 := Tryz.underlying9
  a9 := Tryz.isAgg9
  z9 := Tryz.sizeOf9
  v9 := Tryz.zeroValue9
  t20 := Tryz.underlying20
  a20 := Tryz.isAgg20
  z20 := Tryz.sizeOf20
  v20 := Tryz.zeroValue20
  t37 := Tryz.underlying108
  a37 := Tryz.isAgg108
  z37 := Tryz.sizeOf108
  v37 := Tryz.zeroValue108
  t46 := Tryz.underlying104
  a46 := Tryz.isAgg104
  z46 := Tryz.sizeOf104
  v46 := Tryz.zeroValue104
  t51 := Tryz.underlying143
  a51 := Tryz.isAgg143
  z51 := Tryz.sizeOf143
  v51 := Tryz.zeroValue143
  t53 := Tryz.underlying47
  a53 := Tryz.isAgg47
  z53 := Tryz.sizeOf47
  v53 := Tryz.zeroValue47
  t171 := Tryz.underlying138
  a171 := Tryz.isAgg138
  z171 := Tryz.sizeOf138
  v171 := Tryz.zeroValue138
  t173 := Tryz.underlying141
  a173 := Tryz.isAgg141
  z173 := Tryz.sizeOf141
  v173 := Tryz.zeroValue141
  t212 := Tryz.underlying160
  a212 := Tryz.isAgg160
  z212 := Tryz.sizeOf160
  v212 := Tryz.zeroValue160
  t213 := Tryz.underlying161
  a213 := Tryz.isAgg161
  z213 := Tryz.sizeOf161
  t232 := Tryz.underlying176
  a232 := Tryz.isAgg176
  z232 := Tryz.sizeOf176
  v232 := Tryz.zeroValue176
  t233 := Tryz.underlying177
  a233 := Tryz.isAgg177
  z233 := Tryz.sizeOf177
  v233 := Tryz.zeroValue177
  g17 := by kernel_rfl
  g18 := by kernel_rfl
  g19 := by kernel_rfl
  i0 := by kernel_rfl
  i2 := by kernel_rfl
  i3 := by kernel_rfl
  i4 := by kernel_rfl
  i5 := by kernel_rfl
  i9 := by kernel_rfl
  i20 := by kernel_rfl
  i37 := by kernel_rfl
  i46 := by kernel_rfl
  i51 := by kernel_rfl
  i53 := by kernel_rfl
  i171 := by kernel_rfl
  i173 := by kernel_rfl
  i212 := by kernel_rfl
  i232 := by kernel_rfl
  i233 := by kernel_rfl
  m17 := by kernel_rfl
  m18 := by kernel_rfl
  m19 := by kernel_rfl }
open Go.RowKit Go.Sort Go.Lib in
theorem Tryz.strconv_Itoa (n : Int) (h0 : -9223372036854775808 ≤ n) (h1 : n ≤ 9223372036854775807) (w : World) (htab : Lib.TabIs Tryz.prog w "internal/strconv.uint64pow10" .u64 Lib.pow10Tab) :
    Calls Tryz.prog 47 #[.int .i64 n] w fun e w' => e = .returned (.string ⟨(Lib.itoa n).toArray⟩) ∧ ∃ k os, w' = grow (w.drewN k) os := Any.strconv_Itoa Tryz.laysM171 n h0 h1 w htab
def Tryz.lays219_ren : Go.Shelf.Ren := ⟨fun | 219 => 98 | 217 => 130 | 225 => 131 | 224 => 132 | 267 => 133 | 266 => 148 | 314 => 149 | n => n, fun | 9 => 9 | 3 => 3 | 4 => 4 | 5 => 5 | 46 => 104 | 146 => 144 | 51 => 143 | n => n, fun | 1 => 0 | n => n⟩
theorem Tryz.lays219 : Go.Proofs.Lays.n219 Tryz.prog Tryz.lays219_ren := {
  mixed := by kernel_rfl
  f217 := Tryz.func130.trans (congrArg some (by kernel_rfl))
  f219 := Tryz.func98.trans (congrArg some (by kernel_rfl))
  f224 := Tryz.func132.trans (congrArg some (by kernel_rfl))
  f225 := Tryz.func131.trans (congrArg some (by kernel_rfl))
  f266 := Tryz.func148.trans (congrArg some (by kernel_rfl))
  f267 := Tryz.func133.trans (congrArg some (by kernel_rfl))
  f314 := Tryz.func149.trans (congrArg some (by kernel_rfl))
  t3 := Tryz.underlying3
  a3 := Tryz.isAgg3
  z3 := Tryz.sizeOf3
  v3 := Tryz.zeroValue3
  t4 := Tryz.underlying4
  a4 := Tryz.isAgg4
  z4 := Tryz.sizeOf4
  v4 := Tryz.zeroValue4
  t5 := Tryz.underlying5
  a5 := Tryz.isAgg5
  z5 := Tryz.sizeOf5
  v5 := Tryz.zeroValue5
  t9 := Tryz.underlying9
  a9 := Tryz.isAgg9
  z9 := Tryz.sizeOf9
  v9 := Tryz.zeroValue9
  t46 := Tryz.underlying104
  a46 := Tryz.isAgg104
  z46 := Tryz.sizeOf104
  v46 := Tryz.zeroValue104
  t51 := Tryz.underlying143
  a51 := Tryz.isAgg143
  z51 := Tryz.sizeOf143
  v51 := Tryz.zeroValue143
  t146 := Tryz.underlying144
  a146 := Tryz.isAgg144
  z146 := Tryz.sizeOf144
  v146 := Tryz.zeroValue144
  g1 := by kernel_rfl }
open Go.RowKit Go.Lib in
theorem Tryz.stringslite_Index_one (s : ByteArray) (c : UInt8) (w : World) :
    Calls Tryz.prog 98 #[.string s, .string ⟨#[c]⟩] w fun e w' => e = .returned (.int .i64 (Lib.indexByte s.data.toList c)) ∧ w' = w := Any.stringslite_Index_one Tryz.lays219 s c w
def Tryz.lays264_ren : Go.Shelf.Ren := ⟨fun | 264 => 106 | n => n, fun | 53 => 47 | 46 => 104 | n => n, fun | n => n⟩
theorem Tryz.lays264 : Go.Proofs.Lays.n264 Tryz.prog Tryz.lays264_ren := {
  mixed := by kernel_rfl
  f264 := Tryz.func106.trans (congrArg some (by kernel_rfl))
  t46 := Tryz.underlying104
  a46 := Tryz.isAgg104
  z46 := Tryz.sizeOf104
  v46 := Tryz.zeroValue104
  t53 := Tryz.underlying47
  a53 := Tryz.isAgg47
  z53 := Tryz.sizeOf47
  v53 := Tryz.zeroValue47 }
open Go.RowKit Go.Lib in
theorem Tryz.bits_Mul64 (x y : Nat) (hx : x < 18446744073709551616) (hy : y < 18446744073709551616) (w : World) :
    Calls Tryz.prog 106 #[.int .u64 x, .int .u64 y] w fun e w' => e = .returned (.tuple #[.int .u64 ((x * y / 18446744073709551616 : Nat) : Int), .int .u64 ((x * y % 18446744073709551616 : Nat) : Int)]) ∧ w' = w := Any.bits_Mul64 Tryz.lays264 x y hx hy w
def Tryz.lays105_ren : Go.Shelf.Ren := ⟨fun | 105 => 46 | 212 => 74 | 99 => 36 | 165 => 75 | 166 => 76 | 170 => 77 | 169 => 78 | 263 => 115 | 264 => 106 | 206 => 65 | 240 => 116 | 241 => 117 | 276 => 142 | 277 => 143 | n => n, fun | 9 => 9 | 3 => 3 | 4 => 4 | 20 => 20 | 0 => 0 | 46 => 104 | 109 => 105 | 5 => 5 | 72 => 110 | 76 => 114 | 51 => 143 | 146 => 144 | 53 => 47 | 148 => 134 | 70 => 107 | 37 => 108 | 75 => 113 | 127 => 146 | 164 => 163 | 80 => 117 | n => n, fun | n => n⟩
theorem Tryz.lays105 : Go.Proofs.Lays.n105 Tryz.prog Tryz.lays105_ren := {
  mixed := by kernel_rfl
  f99 := Tryz.func36.trans (congrArg some (by kernel_rfl))
  f105 := Tryz.func46.trans (congrArg some (by kernel_rfl))
  f165 := Tryz.func75.trans (congrArg some (by kernel_rfl))
  f166 := Tryz.func76.trans (congrArg some (by kernel_rfl))
  f169 := Tryz.func78.trans (congrArg some (by kernel_rfl))
  f170 := Tryz.func77.trans (congrArg some (by kernel_rfl))
  f206 := Tryz.func65.trans (congrArg some (by kernel_rfl))
  f212 := Tryz.func74.trans (congrArg some (by kernel_rfl))
  f240 := Tryz.func116.trans (congrArg some (by kernel_rfl))
  f241 := Tryz.func117.trans (congrArg some (by kernel_rfl))
  f263 := Tryz.func115.trans (congrArg some (by kernel_rfl))
  f264 := Tryz.func106.trans (congrArg some (by kernel_rfl))
  f276 := Tryz.func142.trans (congrArg some (by kernel_rfl))
  f277 := Tryz.func143.trans (congrArg some (by kernel_rfl))
  t0 := Tryz.underlying0
  a0 := Tryz.isAgg0
  z0 := Tryz.sizeOf0
  v0 := Tryz.zeroValue0
  t3 := Tryz.underlying3
  a3 := Tryz.isAgg3
  z3 := Tryz.sizeOf3
  v3 := Tryz.zeroValue3
  t4 := Tryz.underlying4
  a4 := Tryz.isAgg4
  z4 := Tryz.sizeOf4
  v4 := Tryz.zeroValue4
  t5 := Tryz.underlying5
  a5 := Tryz.isAgg5
  z5 := Tryz.sizeOf5
  v5 := Tryz.zeroValue5
  t9 := Tryz.underlying9
  a9 := Tryz.isAgg9
  z9 := Tryz.sizeOf9
  v9 := Tryz.zeroValue9
  t20 := Tryz.underlying20
  a20 := Tryz.isAgg20
  z20 := Tryz.sizeOf20
  v20 := Tryz.zeroValue20
  t37 := Tryz.underlying108
  a37 := Tryz.isAgg108
  z37 := Tryz.sizeOf108
  v37 := Tryz.zeroValue108
  t46 := Tryz.underlying104
  a46 := Tryz.isAgg104
  z46 := Tryz.sizeOf104
  v46 := Tryz.zeroValue104
  t51 := Tryz.underlying143
  a51 := Tryz.isAgg143
  z51 := Tryz.sizeOf143
  v51 := Tryz.zeroValue143
  t53 := Tryz.underlying47
  a53 := Tryz.isAgg47
  z53 := Tryz.sizeOf47
  v53 := Tryz.zeroValue47
  t70 := Tryz.underlying107
  a70 := Tryz.isAgg107
  z70 := Tryz.sizeOf107
  v70 := Tryz.zeroValue107
  t72 := Tryz.underlying110
  a72 := Tryz.isAgg110
  z72 := Tryz.sizeOf110
  v72 := Tryz.zeroValue110
  t75 := Tryz.underlying113
  a75 := Tryz.isAgg113
  z75 := Tryz.sizeOf113
  v75 := Tryz.zeroValue113
  t76 := Tryz.underlying114
  a76 := Tryz.isAgg114
  z76 := Tryz.sizeOf114
  v76 := Tryz.zeroValue114
  t109 := Tryz.underlying105
  a109 := Tryz.isAgg105
  z109 := Tryz.sizeOf105
  v109 := Tryz.zeroValue105
  t127 := Tryz.underlying146
  a127 := Tryz.isAgg146
  z127 := Tryz.sizeOf146
  v127 := Tryz.zeroValue146
  t146 := Tryz.underlying144
  a146 := Tryz.isAgg144
  z146 := Tryz.sizeOf144
  v146 := Tryz.zeroValue144
  t148 := Tryz.underlying134
  a148 := Tryz.isAgg134
  z148 := Tryz.sizeOf134
  v148 := Tryz.zeroValue134
  t164 := Tryz.underlying163
  a164 := Tryz.isAgg163
  z164 := Tryz.sizeOf163
  v164 := Tryz.zeroValue163 }
theorem Tryz.Builder_Extra_105 : Builder.Extra Tryz.prog Tryz.lays105_ren := {
  sizeBuilder := by kernel_rfl
  liesBuilder := by kernel_rfl
  t5 := Tryz.underlying5
  a5 := Tryz.isAgg5
  z5 := Tryz.sizeOf5
  v5 := Tryz.zeroValue5
  infoByte := by kernel_rfl
  cellsByte := by kernel_rfl
  sizeByte := by kernel_rfl
  neB5 := by decide }
open Go.RowKit Go.Lib in
theorem Tryz.strings_Repeat (s : ByteArray) (c : Nat) (w : World) (hc : c ≤ 9223372036854775807) (hlen : s.size * c ≤ 140737488355328) :
    Calls Tryz.prog 46 #[.string s, .int .i64 c] w fun e w' => e = .returned (.string ⟨(Lib.repeatL s.data.toList c).toArray⟩) ∧ Below w.heap.size w w' := Any.strings_Repeat Tryz.lays105 Tryz.Builder_Extra_105 s c w hc hlen
end Go.Proofs
set_option linter.unusedVariables false
set_option linter.unusedSimpArgs false
namespace Go.Proofs
open Go.RowKit Go.Sort Go.Lib
set_option maxHeartbeats 6400000 in
set_option maxRecDepth 100000 in
theorem Tryz.internal_strconv_FormatUint_10 (u : Nat) (hu64 : u < 18446744073709551616) (w : World) (htab : Lib.TabIs Tryz.prog w "internal/strconv.uint64pow10" .u64 Lib.pow10Tab) :
    Calls Tryz.prog 73 #[.int .u64 u, .int .i64 10] w fun e w' => e = .returned (.string ⟨(Lib.decDigits u).toArray⟩) ∧ ∃ k os, w' = grow (w.drewN k) os := by
  have mixed : Tryz.prog.follows .mixedOrders := by kernel_rfl
  have e283 : ∀ args w, (callFunc 111 args).run Tryz.prog w = .ok (.enter 111 args) w := enters_of Tryz.func111 (by kernel_rfl) rfl
  have e284 : ∀ args w, (callFunc 112 args).run Tryz.prog w = .ok (.enter 112 args) w := enters_of Tryz.func112 (by kernel_rfl) rfl
  have e285 : ∀ args w, (callFunc 113 args).run Tryz.prog w = .ok (.enter 113 args) w := enters_of Tryz.func113 (by kernel_rfl) rfl
  by_cases hs : u < 100
  · have hcv : IntKind.wrap .i64 (u : Int) = u := by rw [IntKind.wrap_i64]; omega
    go_enter Tryz.func73, Tryz.ntmps73
    go_wp2_with (go_at_fn 111; refine (Tryz.internal_strconv_small u hs _).mono ?_; rintro e w' ⟨rfl, rfl⟩)
    go_ret
    exact ⟨rfl, 0, #[], by simp [World.drewN_zero]⟩
  · have hu1 : 1 ≤ u := by omega
    have hnd20 : Lib.nDigits u ≤ 20 := by have := Lib.numDigits_eq u hu1 hu64; split at this <;> omega
    have hb3 : Lib.nDigits u ≤ 24 := by omega
    have hal : Tryz.prog.arrayLen 138 = 24 := by simp [Program.arrayLen, Tryz.underlying138]
    have hsl1 : ∀ W, (Instr.sliceAt 138 (.pointer (some ⟨w.heap.size, 0, none⟩)) none (some (.int .i64 (Lib.nDigits u : Int))) none).run Tryz.prog W = .ok (.slice (some ⟨w.heap.size, 0, none⟩) (Lib.nDigits u) 24) W := fun W => by
      rw [run_sliceAt_array_h W 138 ⟨w.heap.size, 0, none⟩ (by simp [Program.arrayLen, Program.elem, Tryz.underlying138]) .i64 (Lib.nDigits u : Int) (by omega) (by rw [hal]; omega)]
      go_simp
      all_goals omega
    have hH0 := Lib.holds_zero0 w 138 (Lib.nDigits u) (by omega)
    have hfmt := Tryz.internal_strconv_formatBase10 w.heap.size 0 24 u (Array.replicate (Lib.nDigits u) 0) (w.alloc (.cells Lib.zeros24 138)) hH0 (by rw [Array.size_replicate]; exact Lib.lt_pow_nDigits u) hu64 (by rw [Array.size_replicate]; omega)
    rw [Array.size_replicate] at hfmt
    have HH0 := Lib.hid hH0
    clear hH0 hal
    go_enter Tryz.func73, Tryz.ntmps73
    go_wp2_with (first
      | (go_at_fn 112; refine (Tryz.internal_strconv_numDigits u hu1 hu64 _ (Lib.tabIs_alloc htab _)).mono ?_; rintro e w' ⟨rfl, rfl⟩))
    go_at_fn 113
    refine hfmt.mono ?_
    rintro e w' ⟨rfl, k, v', dk, rfl, hF⟩
    have hcv : (convert 108 9 (.slice (some ⟨w.heap.size, 0, none⟩) (Lib.nDigits u) 24)).run Tryz.prog ((putRow (fun (b : UInt8) => Value.int .u8 (b.toNat : Int)) (w.alloc (.cells Lib.zeros24 138)) w.heap.size 0 dk).drewN k) = .ok (.string ⟨(Lib.decDigits u).toArray⟩) ((putRow (fun (b : UInt8) => Value.int .u8 (b.toNat : Int)) (w.alloc (.cells Lib.zeros24 138)) w.heap.size 0 dk).drewN k) := by
      have h := run_convert_bytes_back (P := Tryz.prog) ((putRow (fun (b : UInt8) => Value.int .u8 (b.toNat : Int)) (w.alloc (.cells Lib.zeros24 138)) w.heap.size 0 dk).drewN k) 108 9 5 ⟨w.heap.size, 0, none⟩ 24 (Lib.decDigits u) Tryz.underlying108 Tryz.underlying5 Tryz.underlying9 (fun j hj => by
        rw [Lib.row_is_numeral hF j hj, Lib.add_plain, World.cell?_drewN]
        exact cell?_putRow (fun (b : UInt8) => Value.int .u8 (b.toNat : Int)) _ w.heap.size 0 _ dk HH0.out (by rw [hF.size, Array.size_replicate]) j (by rw [hF.size]; rw [Lib.decDigits_length] at hj; exact hj))
      rw [Lib.decDigits_length] at h
      exact h
    go_wp2
    go_ret
    obtain ⟨os, eo⟩ := Lib.fin_at w (.cells Lib.zeros24 138) dk k 0
    exact ⟨rfl, k, os, eo⟩
set_option maxRecDepth 100000 in
theorem Tryz.strconv_FormatUint_10 (u : Nat) (hu64 : u < 18446744073709551616) (w : World) (htab : Lib.TabIs Tryz.prog w "internal/strconv.uint64pow10" .u64 Lib.pow10Tab) :
    Calls Tryz.prog 45 #[.int .u64 u, .int .i64 10] w fun e w' => e = .returned (.string ⟨(Lib.decDigits u).toArray⟩) ∧ ∃ k os, w' = grow (w.drewN k) os := by
  have e51 : ∀ args w, (callFunc 73 args).run Tryz.prog w = .ok (.enter 73 args) w := enters_of Tryz.func73 (by kernel_rfl) rfl
  go_enter Tryz.func45, Tryz.ntmps45
  go_wp2_with (go_at_fn 73; refine (Tryz.internal_strconv_FormatUint_10 u hu64 _ htab).mono ?_; rintro e w' ⟨rfl, k, os, rfl⟩)
  go_ret
  exact ⟨rfl, k, os, rfl⟩
end Go.Proofs
set_option linter.unusedVariables false
set_option linter.unusedSimpArgs false
namespace Go.Proofs
open Go.RowKit Go.AM
set_option maxHeartbeats 6400000 in
set_option maxRecDepth 100000 in
theorem Tryz.words_call (w : World) : Calls Tryz.prog 43 #[] w fun e w' => e = .returned (.map (some w.heap.size)) ∧ w' = w.alloc (.map wordsMap 4) := by
  have mixed : Tryz.prog.follows .mixedOrders := by kernel_rfl
  have h0 : (Instr.makeMap 71 none).run Tryz.prog w = .ok (.map (some w.heap.size)) (w.alloc (.map #[] 0)) := rfl
  have up := fun es c key v h => mapUpdate_int (P := Tryz.prog) (t := 71) (k := 3) (e := 9) Tryz.underlying71 Tryz.underlying3 w es c key v h
  have h1 := up #[] 0 1 (.string ⟨#[99]⟩) (by simp)
  have h2 := up #[⟨.int .i64 1, .string ⟨#[99]⟩, 0⟩] 1 2 (.string ⟨#[103]⟩) (by simp)
  have h3 := up #[⟨.int .i64 1, .string ⟨#[99]⟩, 0⟩, ⟨.int .i64 2, .string ⟨#[103]⟩, 1⟩] 2 3 (.string ⟨#[109, 115]⟩) (by simp)
  have h4 := up #[⟨.int .i64 1, .string ⟨#[99]⟩, 0⟩, ⟨.int .i64 2, .string ⟨#[103]⟩, 1⟩, ⟨.int .i64 3, .string ⟨#[109, 115]⟩, 2⟩] 3 4 (.string ⟨#[104]⟩) (by simp)
  clear up
  simp only [List.push_toArray, List.nil_append, List.cons_append] at h1 h2 h3 h4
  go_enter Tryz.func43, Tryz.ntmps43
  go_wp2
  go_ret
  exact ⟨rfl, rfl⟩
set_option maxHeartbeats 6400000 in
set_option maxRecDepth 100000 in
theorem Tryz.statsd_Word (k : Int) (w : World) : Calls Tryz.prog 17 #[.int .i64 k] w fun e w' => e = .returned (.tuple #[.string ⟨(wordL k).toArray⟩, .int .i64 (wordE k)]) ∧ Below w.heap.size w w' := by
  have mixed : Tryz.prog.follows .mixedOrders := by kernel_rfl
  have e1 : ∀ args w, (callFunc 43 args).run Tryz.prog w = .ok (.enter 43 args) w := enters_of Tryz.func43 (by kernel_rfl) rfl
  have hz : ∀ w', (zeroValue 9).run Tryz.prog w' = .ok (.string ⟨#[]⟩) w' := fun w' => by rfl
  obtain ⟨v, b, hv, hb, hvb, hl⟩ : ∃ (v : List UInt8) (b : Bool), v = wordL k ∧ b = decide (k = 1 ∨ k = 2 ∨ k = 3 ∨ k = 4) ∧ (b = false → v = []) ∧ (Instr.lookup 71 (.map (some w.heap.size)) (.int .i64 k) true).run Tryz.prog (w.alloc (.map wordsMap 4)) = .ok (.tuple #[.string ⟨v.toArray⟩, .bool b]) (w.alloc (.map wordsMap 4)) := by
    by_cases h1 : k = 1
    · subst h1; exact ⟨[99], true, rfl, rfl, (fun h => by cases h), lookup_int (P := Tryz.prog) (k := 3) (e := 9) Tryz.underlying71 Tryz.underlying3 w wordsMap 4 1 (i := 0) rfl rfl⟩
    by_cases h2 : k = 2
    · subst h2; exact ⟨[103], true, rfl, rfl, (fun h => by cases h), lookup_int (P := Tryz.prog) (k := 3) (e := 9) Tryz.underlying71 Tryz.underlying3 w wordsMap 4 2 (i := 1) rfl rfl⟩
    by_cases h3 : k = 3
    · subst h3; exact ⟨[109, 115], true, rfl, rfl, (fun h => by cases h), lookup_int (P := Tryz.prog) (k := 3) (e := 9) Tryz.underlying71 Tryz.underlying3 w wordsMap 4 3 (i := 2) rfl rfl⟩
    by_cases h4 : k = 4
    · subst h4; exact ⟨[104], true, rfl, rfl, (fun h => by cases h), lookup_int (P := Tryz.prog) (k := 3) (e := 9) Tryz.underlying71 Tryz.underlying3 w wordsMap 4 4 (i := 3) rfl rfl⟩
    refine ⟨[], false, ?_, ?_, (fun _ => rfl), lookup_int_no (P := Tryz.prog) (k := 3) (e := 9) Tryz.underlying71 Tryz.underlying3 w wordsMap 4 k ?_ hz⟩
    · unfold wordL; rw [if_neg h1, if_neg h2, if_neg h3, if_neg h4]
    · simp [h1, h2, h3, h4]
    · intro x hx
      simp only [wordsMap, List.mem_cons, List.mem_nil_iff, or_false] at hx
      rcases hx with rfl | rfl | rfl | rfl
      · exact ⟨1, rfl, Ne.symm h1⟩
      · exact ⟨2, rfl, Ne.symm h2⟩
      · exact ⟨3, rfl, Ne.symm h3⟩
      · exact ⟨4, rfl, Ne.symm h4⟩
  have hE : wordE k = if b then 0 else 16 := by subst hb; unfold wordE; simp
  rw [← hv, hE]
  clear hv hE hb hz
  cases b
  · obtain rfl := hvb rfl
    go_enter Tryz.func17, Tryz.ntmps17
    go_wp2_with (go_at_fn 43; refine (Tryz.words_call _).mono ?_; rintro e w' ⟨rfl, rfl⟩)
    all_goals go_ret2
    all_goals exact ⟨rfl, below_new _⟩
  · go_enter Tryz.func17, Tryz.ntmps17
    go_wp2_with (go_at_fn 43; refine (Tryz.words_call _).mono ?_; rintro e w' ⟨rfl, rfl⟩)
    all_goals go_ret2
    all_goals exact ⟨rfl, below_new _⟩
end Go.Proofs
