/- NumRateBack: for every input true, and the input reads as it did. -/
import Derived.Test.YthfaagjjkdoedaaDoorQ2
import Derived.Shelf.Strings.Trim
import Derived.Shelf.Small.Utf8
import Derived.Shelf.Small.Strs
import Derived.Shelf.Strconv.Atoi
import Derived.Shelf.Strconv.Itoa0
import Derived.Shelf.Strconv.Itoa1
import Derived.Shelf.LaysM
import Derived.Shelf.Strconv.Itoa2
import Derived.Shelf.Strconv.Itoa3
import Derived.Shelf.Strconv.AtoiErrFast
import Derived.Shelf.Strconv.ParseIntEmpty
import Derived.Shelf.Strconv.AtoiFail
import Derived.Shelf.Strconv.Clone
import Derived.Shelf.Strconv.SyntaxError
import Derived.Shelf.LaysC
import Derived.Shelf.Strconv.ToError
import Derived.Shelf.Strconv.Lower
import Derived.Shelf.Strconv.ParseUint10
import Derived.Shelf.Strconv.ParseUint10Empty
import Derived.Shelf.Strconv.ParseUint10Any
import Derived.Shelf.Strconv.ParseInt10
import Derived.Shelf.Strconv.AtoiLong
import Derived.Shelf.Strconv.AtoiInnerAll
import Derived.Shelf.Strconv.RangeError
import Derived.Shelf.Strconv.ToErrorRange
import Derived.Shelf.Strconv.AtoiAll
import Derived.Shelf.Strconv.ErrVarAll
import Derived.Shelf.Strings.Search1
import Derived.Shelf.Unicode.Decode
import Derived.Shelf.Strings.Runes
import Derived.Shelf.Strings.AsciiSet
import Derived.Shelf.Unicode.DecodeSlow
import Derived.Shelf.Unicode.DecodeAny
import Derived.Shelf.Unicode.DecodeLast
import Derived.Test.YthfaagjjkdoedaaDoorProg
import Derived.KernelRfl
import Derived.Test.YthfaagjjkdoedaaDoorRows
import Derived.Lib.ItoaNum
import Derived.Lib.ItoaLen
import Derived.Lib.AtoiAll
import Derived.Lib.TrimByte
import Derived.Test.YthfaagjjkdoedaaDoorCards
import Derived.Test.YthfaagjjkdoedaaDoorTie
import Derived.OpenShut
set_option linter.unusedVariables false
namespace Go.AM
noncomputable def F.num_RateText (n : Nat) (a0 : Int) : Option ((List UInt8) × (Int) × Unit) :=
  bif decide (a0 < (1 : Int)) then
    some (([], (10 : Int), ()))
  else
  bif decide (a0 > (1000000 : Int)) then
    some (([], (10 : Int), ()))
  else
  bif a0 == (1000000 : Int) then
    some (([49], (0 : Int), ()))
  else
    (O.itoa n (IntKind.wrap .i64 ((1000000 : Int) + a0))).bind fun y1 =>
      (sub y1 (1 : Int) (y1.length : Int)).bind fun x2 =>
        (O.trimR n x2 ([48])).bind fun y3 =>
          bif decide (2 + y3.length ≤ strMax) then
            some ((([48, 46]) ++ y3, (0 : Int), ()))
          else
            none
noncomputable def F.num_fault (n : Nat) (a0 : Int) (a1 : Int) : Option ((Int) × ((Int) × (Int) × Unit) × Unit) :=
  some (((0 : Int), (a0, a1, ()), ()))
noncomputable def F.class_may (n : Nat) (a0 : Int) : Option (Bool) :=
  bif decide (a0 ≥ (1 : Int)) then
    some (decide (a0 ≤ (4 : Int)))
  else
    some (false)
noncomputable def F.class_between (n : Nat) (a0 : Int) (a1 : Int) (a2 : Int) : Option (Bool) :=
  bif decide (a0 ≥ a1) then
    some (decide (a0 ≤ a2))
  else
    some (false)
noncomputable def F.class_Is (n : Nat) (a0 : Int) (a1 : Int) : Option (Bool) :=
  bif a0 == (3 : Int) then
    (F.class_between n a1 (33 : Int) (126 : Int)).bind fun y1 =>
      bif y1 then
        bif !(a1 == (44 : Int)) then
          some (!(a1 == (124 : Int)))
        else
          some (false)
      else
        some (false)
  else
  bif a0 == (2 : Int) then
    bif a1 == (47 : Int) then
      some (true)
    else
      (F.class_between n a1 (65 : Int) (90 : Int)).bind fun y2 =>
        bif y2 then
          some (true)
        else
          (F.class_between n a1 (97 : Int) (122 : Int)).bind fun y3 =>
            bif y3 then
              some (true)
            else
            bif a1 == (95 : Int) then
              some (true)
            else
            bif a1 == (46 : Int) then
              some (true)
            else
            bif a1 == (45 : Int) then
              some (true)
            else
              (F.class_between n a1 (48 : Int) (57 : Int)).bind fun y4 =>
                some (y4)
  else
  bif a0 == (1 : Int) then
    (F.class_between n a1 (65 : Int) (90 : Int)).bind fun y5 =>
      bif y5 then
        some (true)
      else
        (F.class_between n a1 (97 : Int) (122 : Int)).bind fun y6 =>
          bif y6 then
            some (true)
          else
          bif a1 == (95 : Int) then
            some (true)
          else
          bif a1 == (46 : Int) then
            some (true)
          else
          bif a1 == (45 : Int) then
            some (true)
          else
            (F.class_between n a1 (48 : Int) (57 : Int)).bind fun y7 =>
              some (y7)
  else
  bif a0 == (4 : Int) then
    (F.class_between n a1 (48 : Int) (57 : Int)).bind fun y8 =>
      some (y8)
  else
    some (false)
noncomputable def F.class_Bad.L4.step {X : Type} (n : Nat) (rec : Int → (List UInt8) → Int → Int → Option X) (k0 : Unit → Option X) (kr : Int → Int → Option X) (v0 : Int) (v1 : List UInt8) (v11 : Int) (v12 : Int) : Option X :=
  bif decide (v12 < v11) then
    (idx v1 v12).bind fun x2 =>
      (F.class_Is n v0 ((x2).toNat)).bind fun y3 =>
        bif !y3 then
          kr v12 (0 : Int)
        else
          rec v0 v1 v11 (IntKind.wrap .i64 (v12 + (1 : Int)))
  else
    k0 ()
noncomputable def F.class_Bad.L4 {X : Type} (n : Nat) (k0 : Unit → Option X) (kr : Int → Int → Option X) : Nat → Int → (List UInt8) → Int → Int → Option X
  | 0 => fun _ _ _ _ => none
  | m + 1 => fun v0 v1 v11 v12 => F.class_Bad.L4.step n (F.class_Bad.L4 n k0 kr m) k0 kr v0 v1 v11 v12
noncomputable def F.class_Bad (n : Nat) (a0 : Int) (a1 : List UInt8) : Option ((Int) × (Int) × Unit) :=
  (F.class_may n a0).bind fun y1 =>
    bif !y1 then
      some (((0 : Int), (1 : Int), ()))
    else
      F.class_Bad.L4 n
        (fun (_ : Unit) =>
          some (((-1 : Int), (0 : Int), ())))
        (fun e5_4 e5_5 =>
          some ((e5_4, e5_5, ()))) n a0 a1 (a1.length : Int) (0 : Int)
noncomputable def F.class_Text (n : Nat) (a0 : Int) (a1 : List UInt8) (a2 : Int) (a3 : Int) : Option ((Int) × (Int) × Unit) :=
  (F.class_Bad n a0 a1).bind fun y1 =>
    bif !(y1.2.1 == (0 : Int)) then
      some (((1 : Int), (0 : Int), ()))
    else
    bif decide (a2 < (0 : Int)) then
      some (((1 : Int), (0 : Int), ()))
    else
    bif decide (a3 < a2) then
      some (((1 : Int), (0 : Int), ()))
    else
    bif decide ((a1.length : Int) < a2) then
      some (((13 : Int), (a1.length : Int), ()))
    else
    bif decide ((a1.length : Int) > a3) then
      some (((12 : Int), a3, ()))
    else
    bif decide (y1.1 ≥ (0 : Int)) then
      some (((14 : Int), y1.1, ()))
    else
      some (((0 : Int), (0 : Int), ()))
noncomputable def F.num_Rate.L5.step {X : Type} (n : Nat) (rec : (List UInt8) → ((Int) × (Int) × Unit) → Int → Int → Int → Int → Int → Option X) (k0 : (List UInt8) → Int → Int → Int → Int → Option X) (v0 : List UInt8) (v16 : (Int) × (Int) × Unit) (v17 : Int) (vb0_0 : Int) (vb0_1 : Int) (vb1_0 : Int) (vb1_1 : Int) : Option X :=
  bif decide (v17 < (2 : Int)) then
    bif v17 == (0 : Int) then
      bif v17 == (v0.length : Int) then
        bif v17 == (0 : Int) then
          k0 v0 vb0_0 vb0_1 (13 : Int) (0 : Int)
        else
        bif decide (v17 ≥ (v0.length : Int)) then
          k0 v0 vb0_0 vb0_1 (11 : Int) v17
        else
          (idx v0 v17).bind fun x1 =>
            bif !(((x1).toNat) == v16.1) then
              k0 v0 vb0_0 vb0_1 (11 : Int) v17
            else
              rec v0 (v16.1, v16.2.1, ()) (IntKind.wrap .i64 (v17 + (1 : Int))) vb0_0 vb0_1 vb1_0 vb1_1
      else
      bif decide (v17 ≥ (v0.length : Int)) then
        k0 v0 vb0_0 vb0_1 (11 : Int) v17
      else
        (idx v0 v17).bind fun x2 =>
          bif !(((x2).toNat) == v16.1) then
            k0 v0 vb0_0 vb0_1 (11 : Int) v17
          else
            rec v0 (v16.1, v16.2.1, ()) (IntKind.wrap .i64 (v17 + (1 : Int))) vb0_0 vb0_1 vb1_0 vb1_1
    else
    bif v17 == (1 : Int) then
      bif v17 == (v0.length : Int) then
        bif v17 == (0 : Int) then
          k0 v0 vb0_0 vb0_1 (13 : Int) (0 : Int)
        else
        bif decide (v17 ≥ (v0.length : Int)) then
          k0 v0 vb0_0 vb0_1 (11 : Int) v17
        else
          (idx v0 v17).bind fun x3 =>
            bif !(((x3).toNat) == v16.2.1) then
              k0 v0 vb0_0 vb0_1 (11 : Int) v17
            else
              rec v0 (v16.1, v16.2.1, ()) (IntKind.wrap .i64 (v17 + (1 : Int))) vb0_0 vb0_1 vb1_0 vb1_1
      else
      bif decide (v17 ≥ (v0.length : Int)) then
        k0 v0 vb0_0 vb0_1 (11 : Int) v17
      else
        (idx v0 v17).bind fun x4 =>
          bif !(((x4).toNat) == v16.2.1) then
            k0 v0 vb0_0 vb0_1 (11 : Int) v17
          else
            rec v0 (v16.1, v16.2.1, ()) (IntKind.wrap .i64 (v17 + (1 : Int))) vb0_0 vb0_1 vb1_0 vb1_1
    else
      none
  else
    k0 v0 vb0_0 vb0_1 vb1_0 vb1_1
noncomputable def F.num_Rate.L5 {X : Type} (n : Nat) (k0 : (List UInt8) → Int → Int → Int → Int → Option X) : Nat → (List UInt8) → ((Int) × (Int) × Unit) → Int → Int → Int → Int → Int → Option X
  | 0 => fun _ _ _ _ _ _ _ => none
  | m + 1 => fun v0 v16 v17 vb0_0 vb0_1 vb1_0 vb1_1 => F.num_Rate.L5.step n (F.num_Rate.L5 n k0 m) k0 v0 v16 v17 vb0_0 vb0_1 vb1_0 vb1_1
noncomputable def F.num_Rate.L23.step {X : Type} (n : Nat) (rec : (List UInt8) → Int → Int → Int → Int → Int → Int → Int → Int → Option X) (k3 : Int → Int → Int → Int → Int → Int → Int → Option X) (v7 : List UInt8) (v81 : Int) (vb0_0 : Int) (vb0_1 : Int) (vb1_0 : Int) (vb1_1 : Int) (vb2_0 : Int) (vb2_1 : Int) (vb3_0 : Int) : Option X :=
  bif decide (v81 < (6 : Int)) then
    bif decide (v81 < (v7.length : Int)) then
      (idx v7 v81).bind fun x11 =>
        rec v7 (IntKind.wrap .i64 (v81 + (1 : Int))) vb0_0 vb0_1 vb1_0 vb1_1 vb2_0 vb2_1 (IntKind.wrap .i64 ((IntKind.wrap .i64 ((10 : Int) * vb3_0)) + (IntKind.wrap .i64 (IntKind.wrap .u8 (((x11).toNat) - (48 : Int))))))
    else
      rec v7 (IntKind.wrap .i64 (v81 + (1 : Int))) vb0_0 vb0_1 vb1_0 vb1_1 vb2_0 vb2_1 (IntKind.wrap .i64 ((IntKind.wrap .i64 ((10 : Int) * vb3_0)) + (0 : Int)))
  else
    k3 vb0_0 vb0_1 vb1_0 vb1_1 vb2_0 vb2_1 vb3_0
noncomputable def F.num_Rate.L23 {X : Type} (n : Nat) (k3 : Int → Int → Int → Int → Int → Int → Int → Option X) : Nat → (List UInt8) → Int → Int → Int → Int → Int → Int → Int → Int → Option X
  | 0 => fun _ _ _ _ _ _ _ _ _ => none
  | m + 1 => fun v7 v81 vb0_0 vb0_1 vb1_0 vb1_1 vb2_0 vb2_1 vb3_0 => F.num_Rate.L23.step n (F.num_Rate.L23 n k3 m) k3 v7 v81 vb0_0 vb0_1 vb1_0 vb1_1 vb2_0 vb2_1 vb3_0
noncomputable def F.num_Rate (n : Nat) (a0 : List UInt8) : Option ((Int) × ((Int) × (Int) × Unit) × Unit) :=
  bif a0 == ([49]) then
    some (((1000000 : Int), ((0 : Int), (0 : Int), ()), ()))
  else
    F.num_Rate.L5 n
      (fun e5_0 e5_b0_0 e5_b0_1 e5_b1_0 e5_b1_1 =>
        bif !((e5_b1_0 == (0 : Int)) && (e5_b1_1 == (0 : Int))) then
          (F.num_fault n e5_b1_0 e5_b1_1).bind fun y6 =>
            some ((y6.1, (y6.2.1.1, y6.2.1.2.1, ()), ()))
        else
          (sub e5_0 (2 : Int) (e5_0.length : Int)).bind fun x7 =>
            (F.class_Text n (4 : Int) x7 (1 : Int) (IntKind.wrap .i64 ((x7.length : Int) + (1 : Int)))).bind fun y8 =>
              bif !((y8.1 == (0 : Int)) && (y8.2.1 == (0 : Int))) then
                (F.num_fault n y8.1 (IntKind.wrap .i64 ((2 : Int) + y8.2.1))).bind fun y9 =>
                  some ((y9.1, (y9.2.1.1, y9.2.1.2.1, ()), ()))
              else
              bif decide ((x7.length : Int) > (6 : Int)) then
                (F.num_fault n (12 : Int) (8 : Int)).bind fun y10 =>
                  some ((y10.1, (y10.2.1.1, y10.2.1.2.1, ()), ()))
              else
                F.num_Rate.L23 n
                  (fun e12_b0_0 e12_b0_1 e12_b1_0 e12_b1_1 e12_b2_0 e12_b2_1 e12_b3_0 =>
                    bif e12_b3_0 == (0 : Int) then
                      (F.num_fault n (10 : Int) (0 : Int)).bind fun y13 =>
                        some ((y13.1, (y13.2.1.1, y13.2.1.2.1, ()), ()))
                    else
                      some ((e12_b3_0, ((0 : Int), (0 : Int), ()), ()))) n x7 (0 : Int) e5_b0_0 e5_b0_1 e5_b1_0 e5_b1_1 y8.1 y8.2.1 (0 : Int)) n a0 ((48 : Int), (46 : Int), ()) (0 : Int) (0 : Int) (0 : Int) (0 : Int) (0 : Int)
noncomputable def F.num_Parse (n : Nat) (a0 : List UInt8) (a1 : Int) (a2 : Int) : Option ((Int) × ((Int) × (Int) × Unit) × Unit) :=
  (F.class_Text n (4 : Int) a0 (1 : Int) (IntKind.wrap .i64 ((a0.length : Int) + (1 : Int)))).bind fun y1 =>
    bif !((y1.1 == (0 : Int)) && (y1.2.1 == (0 : Int))) then
      (F.num_fault n y1.1 y1.2.1).bind fun y2 =>
        some ((y2.1, (y2.2.1.1, y2.2.1.2.1, ()), ()))
    else
      (idx a0 (0 : Int)).bind fun x3 =>
        bif ((x3).toNat) == (48 : Int) then
          bif decide ((a0.length : Int) > (1 : Int)) then
            (F.num_fault n (11 : Int) (0 : Int)).bind fun y4 =>
              some ((y4.1, (y4.2.1.1, y4.2.1.2.1, ()), ()))
          else
            (O.atoi n a0).bind fun y5 =>
              bif y5.2.1 then
                (F.num_fault n (10 : Int) (0 : Int)).bind fun y6 =>
                  some ((y6.1, (y6.2.1.1, y6.2.1.2.1, ()), ()))
              else
              bif decide (y5.1 < a1) then
                (F.num_fault n (10 : Int) (0 : Int)).bind fun y7 =>
                  some ((y7.1, (y7.2.1.1, y7.2.1.2.1, ()), ()))
              else
              bif decide (y5.1 > a2) then
                (F.num_fault n (10 : Int) (0 : Int)).bind fun y8 =>
                  some ((y8.1, (y8.2.1.1, y8.2.1.2.1, ()), ()))
              else
                some ((y5.1, ((0 : Int), (0 : Int), ()), ()))
        else
          (O.atoi n a0).bind fun y9 =>
            bif y9.2.1 then
              (F.num_fault n (10 : Int) (0 : Int)).bind fun y10 =>
                some ((y10.1, (y10.2.1.1, y10.2.1.2.1, ()), ()))
            else
            bif decide (y9.1 < a1) then
              (F.num_fault n (10 : Int) (0 : Int)).bind fun y11 =>
                some ((y11.1, (y11.2.1.1, y11.2.1.2.1, ()), ()))
            else
            bif decide (y9.1 > a2) then
              (F.num_fault n (10 : Int) (0 : Int)).bind fun y12 =>
                some ((y12.1, (y12.2.1.1, y12.2.1.2.1, ()), ()))
            else
              some ((y9.1, ((0 : Int), (0 : Int), ()), ()))
noncomputable def F.law05_awake (n : Nat) : Option (Bool) :=
  (F.num_Parse n ([48, 48, 55]) (0 : Int) (9 : Int)).bind fun y1 =>
    (F.num_Parse n ([49, 50, 120]) (0 : Int) (99 : Int)).bind fun y2 =>
      (F.num_Rate n ([48, 46, 53])).bind fun y3 =>
        (F.num_Rate n ([48, 46, 53, 48])).bind fun y4 =>
          (F.num_RateText n (500000 : Int)).bind fun y5 =>
            (F.num_Rate n ([48, 46, 48])).bind fun y6 =>
              (F.num_Rate n ([50])).bind fun y7 =>
                (F.num_Rate n ([49, 46, 48])).bind fun y8 =>
                  bif (y1.2.1.1 == (11 : Int)) && (y1.2.1.2.1 == (0 : Int)) then
                    bif (y2.2.1.1 == (14 : Int)) && (y2.2.1.2.1 == (2 : Int)) then
                      bif y3.1 == (500000 : Int) then
                        bif (y3.2.1.1 == (0 : Int)) && (y3.2.1.2.1 == (0 : Int)) then
                          bif y4.1 == (500000 : Int) then
                            bif (y4.2.1.1 == y3.2.1.1) && (y4.2.1.2.1 == y3.2.1.2.1) then
                              bif y5.1 == ([48, 46, 53]) then
                                bif y5.2.1 == (0 : Int) then
                                  bif (y6.2.1.1 == (10 : Int)) && (y6.2.1.2.1 == (0 : Int)) then
                                    bif (y7.2.1.1 == (11 : Int)) && (y7.2.1.2.1 == (0 : Int)) then
                                      some ((y8.2.1.1 == y7.2.1.1) && (y8.2.1.2.1 == y7.2.1.2.1))
                                    else
                                      some (false)
                                  else
                                    some (false)
                                else
                                  some (false)
                              else
                                some (false)
                            else
                              some (false)
                          else
                            some (false)
                        else
                          some (false)
                      else
                        some (false)
                    else
                      some (false)
                  else
                    some (false)
noncomputable def F.law05_NumRateBack.L11.step {X : Type} (n : Nat) (rec : Int → Int → (List UInt8) → (List UInt8) → (List UInt8) → Int → Int → Int → Option X) (k0 : Int → (List UInt8) → (List UInt8) → (List UInt8) → Int → Int → Option X) (v0 : Int) (v1 : Int) (v2 : List UInt8) (v7 : List UInt8) (v11 : List UInt8) (v12 : Int) (vb0_0 : Int) (vb0_1 : Int) : Option X :=
  bif decide (v12 < v1) then
    bif decide (v11.length + 1 ≤ strMax) then
      rec v0 v1 v2 v7 (v11 ++ ([48])) (IntKind.wrap .i64 (v12 + (1 : Int))) vb0_0 vb0_1
    else
      none
  else
    k0 v0 v2 v7 v11 vb0_0 vb0_1
noncomputable def F.law05_NumRateBack.L11 {X : Type} (n : Nat) (k0 : Int → (List UInt8) → (List UInt8) → (List UInt8) → Int → Int → Option X) : Nat → Int → Int → (List UInt8) → (List UInt8) → (List UInt8) → Int → Int → Int → Option X
  | 0 => fun _ _ _ _ _ _ _ _ => none
  | m + 1 => fun v0 v1 v2 v7 v11 v12 vb0_0 vb0_1 => F.law05_NumRateBack.L11.step n (F.law05_NumRateBack.L11 n k0 m) k0 v0 v1 v2 v7 v11 v12 vb0_0 vb0_1
noncomputable def F.law05_NumRateBack.L25.step {X : Type} (n : Nat) (rec : (List UInt8) → (List UInt8) → Int → Int → Int → Int → Int → Int → Option X) (k2 : (List UInt8) → (List UInt8) → Int → Int → Int → Int → Int → Int → Option X) (v2 : List UInt8) (v17 : List UInt8) (vb0_0 : Int) (vb0_1 : Int) (vb1_0 : Int) (vb1_1 : Int) (vb2_0 : Int) (vb2_1 : Int) : Option X :=
  bif decide ((v2.length : Int) > (1 : Int)) then
    (idx v2 (IntKind.wrap .i64 ((v2.length : Int) - (1 : Int)))).bind fun x12 =>
      bif ((x12).toNat) == (48 : Int) then
        (sub v2 (0 : Int) (IntKind.wrap .i64 ((v2.length : Int) - (1 : Int)))).bind fun x13 =>
          rec x13 v17 vb0_0 vb0_1 vb1_0 vb1_1 vb2_0 vb2_1
      else
        k2 v2 v17 vb0_0 vb0_1 vb1_0 vb1_1 vb2_0 vb2_1
  else
    k2 v2 v17 vb0_0 vb0_1 vb1_0 vb1_1 vb2_0 vb2_1
noncomputable def F.law05_NumRateBack.L25 {X : Type} (n : Nat) (k2 : (List UInt8) → (List UInt8) → Int → Int → Int → Int → Int → Int → Option X) : Nat → (List UInt8) → (List UInt8) → Int → Int → Int → Int → Int → Int → Option X
  | 0 => fun _ _ _ _ _ _ _ _ => none
  | m + 1 => fun v2 v17 vb0_0 vb0_1 vb1_0 vb1_1 vb2_0 vb2_1 => F.law05_NumRateBack.L25.step n (F.law05_NumRateBack.L25 n k2 m) k2 v2 v17 vb0_0 vb0_1 vb1_0 vb1_1 vb2_0 vb2_1
noncomputable def F.law05_NumRateBack.L25_1.step {X : Type} (n : Nat) (rec : (List UInt8) → (List UInt8) → Int → Int → Int → Int → Option X) (k2 : (List UInt8) → (List UInt8) → Int → Int → Int → Int → Option X) (v2 : List UInt8) (v17 : List UInt8) (vb0_0 : Int) (vb0_1 : Int) (vb1_0 : Int) (vb1_1 : Int) : Option X :=
  bif decide ((v2.length : Int) > (1 : Int)) then
    (idx v2 (IntKind.wrap .i64 ((v2.length : Int) - (1 : Int)))).bind fun x37 =>
      bif ((x37).toNat) == (48 : Int) then
        (sub v2 (0 : Int) (IntKind.wrap .i64 ((v2.length : Int) - (1 : Int)))).bind fun x38 =>
          rec x38 v17 vb0_0 vb0_1 vb1_0 vb1_1
      else
        k2 v2 v17 vb0_0 vb0_1 vb1_0 vb1_1
  else
    k2 v2 v17 vb0_0 vb0_1 vb1_0 vb1_1
noncomputable def F.law05_NumRateBack.L25_1 {X : Type} (n : Nat) (k2 : (List UInt8) → (List UInt8) → Int → Int → Int → Int → Option X) : Nat → (List UInt8) → (List UInt8) → Int → Int → Int → Int → Option X
  | 0 => fun _ _ _ _ _ _ => none
  | m + 1 => fun v2 v17 vb0_0 vb0_1 vb1_0 vb1_1 => F.law05_NumRateBack.L25_1.step n (F.law05_NumRateBack.L25_1 n k2 m) k2 v2 v17 vb0_0 vb0_1 vb1_0 vb1_1
noncomputable def F.law05_NumRateBack.L25_2.step {X : Type} (n : Nat) (rec : (List UInt8) → (List UInt8) → Int → Int → Option X) (k2 : (List UInt8) → (List UInt8) → Int → Int → Option X) (v2 : List UInt8) (v17 : List UInt8) (vb0_0 : Int) (vb0_1 : Int) : Option X :=
  bif decide ((v2.length : Int) > (1 : Int)) then
    (idx v2 (IntKind.wrap .i64 ((v2.length : Int) - (1 : Int)))).bind fun x44 =>
      bif ((x44).toNat) == (48 : Int) then
        (sub v2 (0 : Int) (IntKind.wrap .i64 ((v2.length : Int) - (1 : Int)))).bind fun x45 =>
          rec x45 v17 vb0_0 vb0_1
      else
        k2 v2 v17 vb0_0 vb0_1
  else
    k2 v2 v17 vb0_0 vb0_1
noncomputable def F.law05_NumRateBack.L25_2 {X : Type} (n : Nat) (k2 : (List UInt8) → (List UInt8) → Int → Int → Option X) : Nat → (List UInt8) → (List UInt8) → Int → Int → Option X
  | 0 => fun _ _ _ _ => none
  | m + 1 => fun v2 v17 vb0_0 vb0_1 => F.law05_NumRateBack.L25_2.step n (F.law05_NumRateBack.L25_2 n k2 m) k2 v2 v17 vb0_0 vb0_1
noncomputable def F.law05_NumRateBack (n : Nat) (a0 : Int) (a1 : Int) (a2 : List UInt8) : Option (Bool) :=
  bif decide ((a2.length : Int) > (200 : Int)) then
    (F.law05_awake n ).bind fun y1 =>
      some (y1)
  else
  bif decide (a1 < (0 : Int)) then
    (F.law05_awake n ).bind fun y2 =>
      some (y2)
  else
  bif decide (a1 > (6 : Int)) then
    (F.law05_awake n ).bind fun y3 =>
      some (y3)
  else
    (F.num_RateText n a0).bind fun y4 =>
      bif y4.2.1 == (0 : Int) then
        (F.num_Rate n y4.1).bind fun y5 =>
          bif !(y5.1 == a0) then
            some (false)
          else
          bif !((y5.2.1.1 == (0 : Int)) && (y5.2.1.2.1 == (0 : Int))) then
            some (false)
          else
          bif decide ((y4.1.length : Int) < (1 : Int)) then
            some (false)
          else
          bif decide (a0 < (1000000 : Int)) then
            F.law05_NumRateBack.L11 n
              (fun e6_0 e6_2 e6_7 e6_11 e6_b0_0 e6_b0_1 =>
                (F.num_Rate n e6_11).bind fun y7 =>
                  bif decide ((e6_11.length : Int) ≤ (8 : Int)) then
                    bif !(y7.1 == e6_0) then
                      some (false)
                    else
                    bif !((y7.2.1.1 == (0 : Int)) && (y7.2.1.2.1 == (0 : Int))) then
                      some (false)
                    else
                    bif decide ((e6_11.length : Int) > (8 : Int)) then
                      bif !(y7.1 == (0 : Int)) then
                        some (false)
                      else
                      bif !((y7.2.1.1 == (12 : Int)) && (y7.2.1.2.1 == (8 : Int))) then
                        some (false)
                      else
                        (idx e6_7 (IntKind.wrap .i64 ((e6_7.length : Int) - (1 : Int)))).bind fun x8 =>
                          bif ((x8).toNat) == (48 : Int) then
                            some (false)
                          else
                            (F.num_Rate n e6_2).bind fun y9 =>
                              bif !((y9.2.1.1 == (0 : Int)) && (y9.2.1.2.1 == (0 : Int))) then
                                bif y9.1 == (0 : Int) then
                                  (F.law05_awake n ).bind fun y10 =>
                                    some (y10)
                                else
                                  some (false)
                              else
                                (F.num_RateText n y9.1).bind fun y11 =>
                                  bif !(y11.2.1 == (0 : Int)) then
                                    some (false)
                                  else
                                  bif decide (y9.1 < (1 : Int)) then
                                    some (false)
                                  else
                                  bif decide (y9.1 > (1000000 : Int)) then
                                    some (false)
                                  else
                                    F.law05_NumRateBack.L25 n
                                      (fun e14_2 e14_17 e14_b0_0 e14_b0_1 e14_b1_0 e14_b1_1 e14_b2_0 e14_b2_1 =>
                                        bif e14_17 == e14_2 then
                                          (F.law05_awake n ).bind fun y15 =>
                                            some (y15)
                                        else
                                          some (false)) n e6_2 y11.1 e6_b0_0 e6_b0_1 y7.2.1.1 y7.2.1.2.1 y9.2.1.1 y9.2.1.2.1
                    else
                      (idx e6_7 (IntKind.wrap .i64 ((e6_7.length : Int) - (1 : Int)))).bind fun x16 =>
                        bif ((x16).toNat) == (48 : Int) then
                          some (false)
                        else
                          (F.num_Rate n e6_2).bind fun y17 =>
                            bif !((y17.2.1.1 == (0 : Int)) && (y17.2.1.2.1 == (0 : Int))) then
                              bif y17.1 == (0 : Int) then
                                (F.law05_awake n ).bind fun y18 =>
                                  some (y18)
                              else
                                some (false)
                            else
                              (F.num_RateText n y17.1).bind fun y19 =>
                                bif !(y19.2.1 == (0 : Int)) then
                                  some (false)
                                else
                                bif decide (y17.1 < (1 : Int)) then
                                  some (false)
                                else
                                bif decide (y17.1 > (1000000 : Int)) then
                                  some (false)
                                else
                                  F.law05_NumRateBack.L25 n
                                    (fun e20_2 e20_17 e20_b0_0 e20_b0_1 e20_b1_0 e20_b1_1 e20_b2_0 e20_b2_1 =>
                                      bif e20_17 == e20_2 then
                                        (F.law05_awake n ).bind fun y21 =>
                                          some (y21)
                                      else
                                        some (false)) n e6_2 y19.1 e6_b0_0 e6_b0_1 y7.2.1.1 y7.2.1.2.1 y17.2.1.1 y17.2.1.2.1
                  else
                  bif decide ((e6_11.length : Int) > (8 : Int)) then
                    bif !(y7.1 == (0 : Int)) then
                      some (false)
                    else
                    bif !((y7.2.1.1 == (12 : Int)) && (y7.2.1.2.1 == (8 : Int))) then
                      some (false)
                    else
                      (idx e6_7 (IntKind.wrap .i64 ((e6_7.length : Int) - (1 : Int)))).bind fun x22 =>
                        bif ((x22).toNat) == (48 : Int) then
                          some (false)
                        else
                          (F.num_Rate n e6_2).bind fun y23 =>
                            bif !((y23.2.1.1 == (0 : Int)) && (y23.2.1.2.1 == (0 : Int))) then
                              bif y23.1 == (0 : Int) then
                                (F.law05_awake n ).bind fun y24 =>
                                  some (y24)
                              else
                                some (false)
                            else
                              (F.num_RateText n y23.1).bind fun y25 =>
                                bif !(y25.2.1 == (0 : Int)) then
                                  some (false)
                                else
                                bif decide (y23.1 < (1 : Int)) then
                                  some (false)
                                else
                                bif decide (y23.1 > (1000000 : Int)) then
                                  some (false)
                                else
                                  F.law05_NumRateBack.L25 n
                                    (fun e26_2 e26_17 e26_b0_0 e26_b0_1 e26_b1_0 e26_b1_1 e26_b2_0 e26_b2_1 =>
                                      bif e26_17 == e26_2 then
                                        (F.law05_awake n ).bind fun y27 =>
                                          some (y27)
                                      else
                                        some (false)) n e6_2 y25.1 e6_b0_0 e6_b0_1 y7.2.1.1 y7.2.1.2.1 y23.2.1.1 y23.2.1.2.1
                  else
                    (idx e6_7 (IntKind.wrap .i64 ((e6_7.length : Int) - (1 : Int)))).bind fun x28 =>
                      bif ((x28).toNat) == (48 : Int) then
                        some (false)
                      else
                        (F.num_Rate n e6_2).bind fun y29 =>
                          bif !((y29.2.1.1 == (0 : Int)) && (y29.2.1.2.1 == (0 : Int))) then
                            bif y29.1 == (0 : Int) then
                              (F.law05_awake n ).bind fun y30 =>
                                some (y30)
                            else
                              some (false)
                          else
                            (F.num_RateText n y29.1).bind fun y31 =>
                              bif !(y31.2.1 == (0 : Int)) then
                                some (false)
                              else
                              bif decide (y29.1 < (1 : Int)) then
                                some (false)
                              else
                              bif decide (y29.1 > (1000000 : Int)) then
                                some (false)
                              else
                                F.law05_NumRateBack.L25 n
                                  (fun e32_2 e32_17 e32_b0_0 e32_b0_1 e32_b1_0 e32_b1_1 e32_b2_0 e32_b2_1 =>
                                    bif e32_17 == e32_2 then
                                      (F.law05_awake n ).bind fun y33 =>
                                        some (y33)
                                    else
                                      some (false)) n e6_2 y31.1 e6_b0_0 e6_b0_1 y7.2.1.1 y7.2.1.2.1 y29.2.1.1 y29.2.1.2.1) n a0 a1 a2 y4.1 y4.1 (0 : Int) y5.2.1.1 y5.2.1.2.1
          else
            (F.num_Rate n a2).bind fun y34 =>
              bif !((y34.2.1.1 == (0 : Int)) && (y34.2.1.2.1 == (0 : Int))) then
                bif y34.1 == (0 : Int) then
                  (F.law05_awake n ).bind fun y35 =>
                    some (y35)
                else
                  some (false)
              else
                (F.num_RateText n y34.1).bind fun y36 =>
                  bif !(y36.2.1 == (0 : Int)) then
                    some (false)
                  else
                  bif decide (y34.1 < (1 : Int)) then
                    some (false)
                  else
                  bif decide (y34.1 > (1000000 : Int)) then
                    some (false)
                  else
                    F.law05_NumRateBack.L25_1 n
                      (fun e39_2 e39_17 e39_b0_0 e39_b0_1 e39_b1_0 e39_b1_1 =>
                        bif e39_17 == e39_2 then
                          (F.law05_awake n ).bind fun y40 =>
                            some (y40)
                        else
                          some (false)) n a2 y36.1 y5.2.1.1 y5.2.1.2.1 y34.2.1.1 y34.2.1.2.1
      else
      bif decide (a0 ≥ (1 : Int)) then
        bif decide (a0 ≤ (1000000 : Int)) then
          some (false)
        else
          (F.num_Rate n a2).bind fun y41 =>
            bif !((y41.2.1.1 == (0 : Int)) && (y41.2.1.2.1 == (0 : Int))) then
              bif y41.1 == (0 : Int) then
                (F.law05_awake n ).bind fun y42 =>
                  some (y42)
              else
                some (false)
            else
              (F.num_RateText n y41.1).bind fun y43 =>
                bif !(y43.2.1 == (0 : Int)) then
                  some (false)
                else
                bif decide (y41.1 < (1 : Int)) then
                  some (false)
                else
                bif decide (y41.1 > (1000000 : Int)) then
                  some (false)
                else
                  F.law05_NumRateBack.L25_2 n
                    (fun e46_2 e46_17 e46_b0_0 e46_b0_1 =>
                      bif e46_17 == e46_2 then
                        (F.law05_awake n ).bind fun y47 =>
                          some (y47)
                      else
                        some (false)) n a2 y43.1 y41.2.1.1 y41.2.1.2.1
      else
        (F.num_Rate n a2).bind fun y48 =>
          bif !((y48.2.1.1 == (0 : Int)) && (y48.2.1.2.1 == (0 : Int))) then
            bif y48.1 == (0 : Int) then
              (F.law05_awake n ).bind fun y49 =>
                some (y49)
            else
              some (false)
          else
            (F.num_RateText n y48.1).bind fun y50 =>
              bif !(y50.2.1 == (0 : Int)) then
                some (false)
              else
              bif decide (y48.1 < (1 : Int)) then
                some (false)
              else
              bif decide (y48.1 > (1000000 : Int)) then
                some (false)
              else
                F.law05_NumRateBack.L25_2 n
                  (fun e51_2 e51_17 e51_b0_0 e51_b0_1 =>
                    bif e51_17 == e51_2 then
                      (F.law05_awake n ).bind fun y52 =>
                        some (y52)
                    else
                      some (false)) n a2 y50.1 y48.2.1.1 y48.2.1.2.1
noncomputable def F.ref04_Bytes (n : Nat) (a0 : Int) : Option (List UInt8) :=
  bif decide (52 + 10 ≤ strMax) then
    bif decide (((([65, 66, 67, 68, 69, 70, 71, 72, 73, 74, 75, 76, 77, 78, 79, 80, 81, 82, 83, 84, 85, 86, 87, 88, 89, 90, 97, 98, 99, 100, 101, 102, 103, 104, 105, 106, 107, 108, 109, 110, 111, 112, 113, 114, 115, 116, 117, 118, 119, 120, 121, 122]) ++ ([48, 49, 50, 51, 52, 53, 54, 55, 56, 57])).length) + 3 ≤ strMax) then
      bif a0 == (1 : Int) then
        some ((([65, 66, 67, 68, 69, 70, 71, 72, 73, 74, 75, 76, 77, 78, 79, 80, 81, 82, 83, 84, 85, 86, 87, 88, 89, 90, 97, 98, 99, 100, 101, 102, 103, 104, 105, 106, 107, 108, 109, 110, 111, 112, 113, 114, 115, 116, 117, 118, 119, 120, 121, 122]) ++ ([48, 49, 50, 51, 52, 53, 54, 55, 56, 57])) ++ ([95, 46, 45]))
      else
      bif a0 == (2 : Int) then
        bif decide ((((([65, 66, 67, 68, 69, 70, 71, 72, 73, 74, 75, 76, 77, 78, 79, 80, 81, 82, 83, 84, 85, 86, 87, 88, 89, 90, 97, 98, 99, 100, 101, 102, 103, 104, 105, 106, 107, 108, 109, 110, 111, 112, 113, 114, 115, 116, 117, 118, 119, 120, 121, 122]) ++ ([48, 49, 50, 51, 52, 53, 54, 55, 56, 57])) ++ ([95, 46, 45])).length) + 1 ≤ strMax) then
          some (((([65, 66, 67, 68, 69, 70, 71, 72, 73, 74, 75, 76, 77, 78, 79, 80, 81, 82, 83, 84, 85, 86, 87, 88, 89, 90, 97, 98, 99, 100, 101, 102, 103, 104, 105, 106, 107, 108, 109, 110, 111, 112, 113, 114, 115, 116, 117, 118, 119, 120, 121, 122]) ++ ([48, 49, 50, 51, 52, 53, 54, 55, 56, 57])) ++ ([95, 46, 45])) ++ ([47]))
        else
          none
      else
      bif a0 == (3 : Int) then
        bif decide ((((([65, 66, 67, 68, 69, 70, 71, 72, 73, 74, 75, 76, 77, 78, 79, 80, 81, 82, 83, 84, 85, 86, 87, 88, 89, 90, 97, 98, 99, 100, 101, 102, 103, 104, 105, 106, 107, 108, 109, 110, 111, 112, 113, 114, 115, 116, 117, 118, 119, 120, 121, 122]) ++ ([48, 49, 50, 51, 52, 53, 54, 55, 56, 57])) ++ ([95, 46, 45])).length) + 27 ≤ strMax) then
          some (((([65, 66, 67, 68, 69, 70, 71, 72, 73, 74, 75, 76, 77, 78, 79, 80, 81, 82, 83, 84, 85, 86, 87, 88, 89, 90, 97, 98, 99, 100, 101, 102, 103, 104, 105, 106, 107, 108, 109, 110, 111, 112, 113, 114, 115, 116, 117, 118, 119, 120, 121, 122]) ++ ([48, 49, 50, 51, 52, 53, 54, 55, 56, 57])) ++ ([95, 46, 45])) ++ ([47, 33, 34, 35, 36, 37, 38, 39, 40, 41, 42, 43, 58, 59, 60, 61, 62, 63, 64, 91, 92, 93, 94, 96, 123, 125, 126]))
        else
          none
      else
      bif a0 == (4 : Int) then
        some ([48, 49, 50, 51, 52, 53, 54, 55, 56, 57])
      else
        some ([])
    else
      none
  else
    none
noncomputable def F.ref04_Is.L3.step {X : Type} (n : Nat) (rec : Int → (List UInt8) → Int → Option X) (k0 : Unit → Option X) (kr : Bool → Option X) (v1 : Int) (v5 : List UInt8) (v6 : Int) : Option X :=
  bif decide (v6 < (v5.length : Int)) then
    (idx v5 v6).bind fun x2 =>
      bif ((x2).toNat) == v1 then
        kr true
      else
        rec v1 v5 (IntKind.wrap .i64 (v6 + (1 : Int)))
  else
    k0 ()
noncomputable def F.ref04_Is.L3 {X : Type} (n : Nat) (k0 : Unit → Option X) (kr : Bool → Option X) : Nat → Int → (List UInt8) → Int → Option X
  | 0 => fun _ _ _ => none
  | m + 1 => fun v1 v5 v6 => F.ref04_Is.L3.step n (F.ref04_Is.L3 n k0 kr m) k0 kr v1 v5 v6
noncomputable def F.ref04_Is (n : Nat) (a0 : Int) (a1 : Int) : Option (Bool) :=
  (F.ref04_Bytes n a0).bind fun y1 =>
    F.ref04_Is.L3 n
      (fun (_ : Unit) =>
        some (false))
      (fun e4_4 =>
        some (e4_4)) n a1 y1 (0 : Int)
noncomputable def F.ref04_Bad.L2.step {X : Type} (n : Nat) (rec : Int → (List UInt8) → Int → Option X) (k0 : Unit → Option X) (kr : Int → Option X) (v0 : Int) (v1 : List UInt8) (v5 : Int) : Option X :=
  bif decide (v5 < (v1.length : Int)) then
    (idx v1 v5).bind fun x1 =>
      (F.ref04_Is n v0 ((x1).toNat)).bind fun y2 =>
        bif !y2 then
          kr v5
        else
          rec v0 v1 (IntKind.wrap .i64 (v5 + (1 : Int)))
  else
    k0 ()
noncomputable def F.ref04_Bad.L2 {X : Type} (n : Nat) (k0 : Unit → Option X) (kr : Int → Option X) : Nat → Int → (List UInt8) → Int → Option X
  | 0 => fun _ _ _ => none
  | m + 1 => fun v0 v1 v5 => F.ref04_Bad.L2.step n (F.ref04_Bad.L2 n k0 kr m) k0 kr v0 v1 v5
noncomputable def F.ref04_Bad (n : Nat) (a0 : Int) (a1 : List UInt8) : Option (Int) :=
  F.ref04_Bad.L2 n
    (fun (_ : Unit) =>
      some ((-1 : Int)))
    (fun e4_4 =>
      some (e4_4)) n a0 a1 (0 : Int)
noncomputable def F.ref05_Value.L3.step {X : Type} (n : Nat) (rec : (List UInt8) → Int → Int → Option X) (k0 : Int → Option X) (kr : Int → Bool → Option X) (v0 : List UInt8) (v4 : Int) (v5 : Int) : Option X :=
  bif decide (v5 < (v0.length : Int)) then
    (idx v0 v5).bind fun x1 =>
      bif decide (v4 > (IntKind.wrap .i64 ((IntKind.wrap .i64 ((9223372036854775807 : Int) - (IntKind.wrap .i64 (IntKind.wrap .u8 (((x1).toNat) - (48 : Int)))))).tdiv (10 : Int)))) then
        kr (0 : Int) false
      else
        rec v0 (IntKind.wrap .i64 ((IntKind.wrap .i64 ((10 : Int) * v4)) + (IntKind.wrap .i64 (IntKind.wrap .u8 (((x1).toNat) - (48 : Int)))))) (IntKind.wrap .i64 (v5 + (1 : Int)))
  else
    k0 v4
noncomputable def F.ref05_Value.L3 {X : Type} (n : Nat) (k0 : Int → Option X) (kr : Int → Bool → Option X) : Nat → (List UInt8) → Int → Int → Option X
  | 0 => fun _ _ _ => none
  | m + 1 => fun v0 v4 v5 => F.ref05_Value.L3.step n (F.ref05_Value.L3 n k0 kr m) k0 kr v0 v4 v5
noncomputable def F.ref05_Value (n : Nat) (a0 : List UInt8) : Option ((Int) × (Bool) × Unit) :=
  F.ref05_Value.L3 n
    (fun e2_4 =>
      some ((e2_4, true, ())))
    (fun e3_2 e3_3 =>
      some ((e3_2, e3_3, ()))) n a0 (0 : Int) (0 : Int)
noncomputable def F.ref05_Parse (n : Nat) (a0 : List UInt8) (a1 : Int) (a2 : Int) : Option ((Int) × ((Int) × (Int) × Unit) × Unit) :=
  bif a0 == [] then
    some (((0 : Int), ((13 : Int), (0 : Int), ()), ()))
  else
    (F.ref04_Bad n (4 : Int) a0).bind fun y1 =>
      bif decide (y1 ≥ (0 : Int)) then
        some (((0 : Int), ((14 : Int), y1, ()), ()))
      else
        (idx a0 (0 : Int)).bind fun x2 =>
          bif ((x2).toNat) == (48 : Int) then
            bif decide ((a0.length : Int) > (1 : Int)) then
              some (((0 : Int), ((11 : Int), (0 : Int), ()), ()))
            else
              (F.ref05_Value n a0).bind fun y3 =>
                bif !y3.2.1 then
                  some (((0 : Int), ((10 : Int), (0 : Int), ()), ()))
                else
                bif decide (y3.1 < a1) then
                  some (((0 : Int), ((10 : Int), (0 : Int), ()), ()))
                else
                bif decide (y3.1 > a2) then
                  some (((0 : Int), ((10 : Int), (0 : Int), ()), ()))
                else
                  some ((y3.1, ((0 : Int), (0 : Int), ()), ()))
          else
            (F.ref05_Value n a0).bind fun y4 =>
              bif !y4.2.1 then
                some (((0 : Int), ((10 : Int), (0 : Int), ()), ()))
              else
              bif decide (y4.1 < a1) then
                some (((0 : Int), ((10 : Int), (0 : Int), ()), ()))
              else
              bif decide (y4.1 > a2) then
                some (((0 : Int), ((10 : Int), (0 : Int), ()), ()))
              else
                some ((y4.1, ((0 : Int), (0 : Int), ()), ()))
noncomputable def F.num_Time (n : Nat) (a0 : List UInt8) : Option ((Int) × ((Int) × (Int) × Unit) × Unit) :=
  (F.num_Parse n a0 (1 : Int) (1099511627776 : Int)).bind fun y1 =>
    some ((y1.1, (y1.2.1.1, y1.2.1.2.1, ()), ()))
noncomputable def F.law05_NumParses (n : Nat) (a0 : List UInt8) (a1 : Int) (a2 : Int) : Option (Bool) :=
  bif decide ((a0.length : Int) > (200 : Int)) then
    (F.law05_awake n ).bind fun y1 =>
      some (y1)
  else
    (F.num_Parse n a0 a1 a2).bind fun y2 =>
      (F.ref05_Parse n a0 a1 a2).bind fun y3 =>
        (F.num_Time n a0).bind fun y4 =>
          (F.ref05_Parse n a0 (1 : Int) (1099511627776 : Int)).bind fun y5 =>
            bif y2.1 == y3.1 then
              bif (y2.2.1.1 == y3.2.1.1) && (y2.2.1.2.1 == y3.2.1.2.1) then
                bif y4.1 == y5.1 then
                  bif (y4.2.1.1 == y5.2.1.1) && (y4.2.1.2.1 == y5.2.1.2.1) then
                    (F.law05_awake n ).bind fun y6 =>
                      some (y6)
                  else
                    some (false)
                else
                  some (false)
              else
                some (false)
            else
              some (false)
noncomputable def F.num_Text (n : Nat) (a0 : Int) : Option ((List UInt8) × (Int) × Unit) :=
  bif decide (a0 < (0 : Int)) then
    some (([], (10 : Int), ()))
  else
    (O.itoa n a0).bind fun y1 =>
      some ((y1, (0 : Int), ()))
noncomputable def F.ref05_Digits.go (n : Nat) : Nat → (Int) → Option (List UInt8)
  | 0 => fun _ => none
  | m + 1 => fun a0 =>
    bif decide (a0 < (10 : Int)) then
      (sub ([48, 49, 50, 51, 52, 53, 54, 55, 56, 57]) a0 (IntKind.wrap .u64 (a0 + (1 : Int)))).bind fun x1 =>
        some (x1)
    else
      (F.ref05_Digits.go n m (IntKind.wrap .u64 (a0.tdiv (10 : Int)))).bind fun y2 =>
        (sub ([48, 49, 50, 51, 52, 53, 54, 55, 56, 57]) (a0.tmod (10 : Int)) (IntKind.wrap .u64 ((a0.tmod (10 : Int)) + (1 : Int)))).bind fun x3 =>
          bif decide (y2.length + x3.length ≤ strMax) then
            some (y2 ++ x3)
          else
            none
noncomputable def F.ref05_Digits (n : Nat) (a0 : Int) : Option (List UInt8) := F.ref05_Digits.go n n a0
noncomputable def F.ref05_RateText.L4.step {X : Type} (n : Nat) (rec : (List UInt8) → Option X) (k0 : (List UInt8) → Option X) (v3 : List UInt8) : Option X :=
  bif decide ((v3.length : Int) < (6 : Int)) then
    bif decide (1 + v3.length ≤ strMax) then
      rec (([48]) ++ v3)
    else
      none
  else
    k0 v3
noncomputable def F.ref05_RateText.L4 {X : Type} (n : Nat) (k0 : (List UInt8) → Option X) : Nat → (List UInt8) → Option X
  | 0 => fun _ => none
  | m + 1 => fun v3 => F.ref05_RateText.L4.step n (F.ref05_RateText.L4 n k0 m) k0 v3
noncomputable def F.ref05_RateText.L6.step {X : Type} (n : Nat) (rec : (List UInt8) → Option X) (k2 : (List UInt8) → Option X) (v3 : List UInt8) : Option X :=
  (idx v3 (IntKind.wrap .i64 ((v3.length : Int) - (1 : Int)))).bind fun x3 =>
    bif ((x3).toNat) == (48 : Int) then
      (sub v3 (0 : Int) (IntKind.wrap .i64 ((v3.length : Int) - (1 : Int)))).bind fun x4 =>
        rec x4
    else
      k2 v3
noncomputable def F.ref05_RateText.L6 {X : Type} (n : Nat) (k2 : (List UInt8) → Option X) : Nat → (List UInt8) → Option X
  | 0 => fun _ => none
  | m + 1 => fun v3 => F.ref05_RateText.L6.step n (F.ref05_RateText.L6 n k2 m) k2 v3
noncomputable def F.ref05_RateText (n : Nat) (a0 : Int) : Option (List UInt8) :=
  bif a0 == (1000000 : Int) then
    some ([49])
  else
    (F.ref05_Digits n (IntKind.wrap .u64 (a0))).bind fun y1 =>
      F.ref05_RateText.L4 n
        (fun e2_3 =>
          F.ref05_RateText.L6 n
            (fun e5_3 =>
              bif decide (2 + e5_3.length ≤ strMax) then
                some (([48, 46]) ++ e5_3)
              else
                none) n e2_3) n y1
noncomputable def F.law05_NumTexts (n : Nat) (a0 : Int) : Option (Bool) :=
  (F.num_Text n a0).bind fun y1 =>
    (F.num_RateText n a0).bind fun y2 =>
      bif decide (a0 < (1 : Int)) then
        bif !(y2.1 == []) then
          some (false)
        else
        bif !(y2.2.1 == (10 : Int)) then
          some (false)
        else
        bif decide (a0 < (0 : Int)) then
          bif y1.1 == [] then
            bif y1.2.1 == (10 : Int) then
              (F.law05_awake n ).bind fun y3 =>
                some (y3)
            else
              some (false)
          else
            some (false)
        else
          (F.ref05_Digits n (IntKind.wrap .u64 (a0))).bind fun y4 =>
            bif y1.1 == y4 then
              bif y1.2.1 == (0 : Int) then
                (F.law05_awake n ).bind fun y5 =>
                  some (y5)
              else
                some (false)
            else
              some (false)
      else
      bif decide (a0 > (1000000 : Int)) then
        bif !(y2.1 == []) then
          some (false)
        else
        bif !(y2.2.1 == (10 : Int)) then
          some (false)
        else
        bif decide (a0 < (0 : Int)) then
          bif y1.1 == [] then
            bif y1.2.1 == (10 : Int) then
              (F.law05_awake n ).bind fun y6 =>
                some (y6)
            else
              some (false)
          else
            some (false)
        else
          (F.ref05_Digits n (IntKind.wrap .u64 (a0))).bind fun y7 =>
            bif y1.1 == y7 then
              bif y1.2.1 == (0 : Int) then
                (F.law05_awake n ).bind fun y8 =>
                  some (y8)
              else
                some (false)
            else
              some (false)
      else
        (F.ref05_RateText n a0).bind fun y9 =>
          bif !(y2.1 == y9) then
            some (false)
          else
          bif !(y2.2.1 == (0 : Int)) then
            some (false)
          else
          bif decide (a0 < (0 : Int)) then
            bif y1.1 == [] then
              bif y1.2.1 == (10 : Int) then
                (F.law05_awake n ).bind fun y10 =>
                  some (y10)
              else
                some (false)
            else
              some (false)
          else
            (F.ref05_Digits n (IntKind.wrap .u64 (a0))).bind fun y11 =>
              bif y1.1 == y11 then
                bif y1.2.1 == (0 : Int) then
                  (F.law05_awake n ).bind fun y12 =>
                    some (y12)
                else
                  some (false)
              else
                some (false)
noncomputable def F.law05_NumBack (n : Nat) (a0 : Int) (a1 : List UInt8) : Option (Bool) :=
  bif decide ((a1.length : Int) > (200 : Int)) then
    (F.law05_awake n ).bind fun y1 =>
      some (y1)
  else
    (F.num_Text n a0).bind fun y2 =>
      bif decide (a0 ≥ (0 : Int)) then
        (F.num_Parse n y2.1 a0 a0).bind fun y3 =>
          (F.num_Parse n y2.1 (IntKind.wrap .i64 ((IntKind.wrap .i64 (a0.tdiv (2 : Int))) - (1 : Int))) (IntKind.wrap .i64 (a0 - (1 : Int)))).bind fun y4 =>
            bif !(y2.2.1 == (0 : Int)) then
              some (false)
            else
            bif !(y3.1 == a0) then
              some (false)
            else
            bif !((y3.2.1.1 == (0 : Int)) && (y3.2.1.2.1 == (0 : Int))) then
              some (false)
            else
            bif !((y4.2.1.1 == (10 : Int)) && (y4.2.1.2.1 == (0 : Int))) then
              some (false)
            else
              (F.num_Parse n a1 (0 : Int) (9223372036854775807 : Int)).bind fun y5 =>
                bif !((y5.2.1.1 == (0 : Int)) && (y5.2.1.2.1 == (0 : Int))) then
                  bif y5.1 == (0 : Int) then
                    (F.law05_awake n ).bind fun y6 =>
                      some (y6)
                  else
                    some (false)
                else
                  (F.num_Text n y5.1).bind fun y7 =>
                    bif y7.1 == a1 then
                      bif y7.2.1 == (0 : Int) then
                        (F.law05_awake n ).bind fun y8 =>
                          some (y8)
                      else
                        some (false)
                    else
                      some (false)
      else
        (F.num_Parse n a1 (0 : Int) (9223372036854775807 : Int)).bind fun y9 =>
          bif !((y9.2.1.1 == (0 : Int)) && (y9.2.1.2.1 == (0 : Int))) then
            bif y9.1 == (0 : Int) then
              (F.law05_awake n ).bind fun y10 =>
                some (y10)
            else
              some (false)
          else
            (F.num_Text n y9.1).bind fun y11 =>
              bif y11.1 == a1 then
                bif y11.2.1 == (0 : Int) then
                  (F.law05_awake n ).bind fun y12 =>
                    some (y12)
                else
                  some (false)
              else
                some (false)
noncomputable def F.law05_NumOrders (n : Nat) (a0 : (Int) × (Int) × Unit) (a1 : (Int) × (Int) × Unit) : Option (Bool) :=
  (F.num_RateText n a0.1).bind fun y1 =>
    (F.num_RateText n a0.2.1).bind fun y2 =>
      bif y1.2.1 == (0 : Int) then
        bif y2.2.1 == (0 : Int) then
          bif !((decide (a0.1 < a0.2.1)) == (Op.bytesLess y1.1 y2.1)) then
            some (false)
          else
          bif !((a0.1 == a0.2.1) == (y1.1 == y2.1)) then
            some (false)
          else
            (F.num_Text n a1.1).bind fun y3 =>
              (F.num_Text n a1.2.1).bind fun y4 =>
                bif !(y3.2.1 == (0 : Int)) then
                  bif decide (a1.1 < (0 : Int)) then
                    (F.law05_awake n ).bind fun y5 =>
                      some (y5)
                  else
                  bif decide (a1.2.1 < (0 : Int)) then
                    (F.law05_awake n ).bind fun y6 =>
                      some (y6)
                  else
                    some (false)
                else
                bif !(y4.2.1 == (0 : Int)) then
                  bif decide (a1.1 < (0 : Int)) then
                    (F.law05_awake n ).bind fun y7 =>
                      some (y7)
                  else
                  bif decide (a1.2.1 < (0 : Int)) then
                    (F.law05_awake n ).bind fun y8 =>
                      some (y8)
                  else
                    some (false)
                else
                bif decide ((y3.1.length : Int) < (y4.1.length : Int)) then
                  bif true == (decide (a1.1 < a1.2.1)) then
                    bif (y3.1 == y4.1) == (a1.1 == a1.2.1) then
                      (F.law05_awake n ).bind fun y9 =>
                        some (y9)
                    else
                      some (false)
                  else
                    some (false)
                else
                bif (y3.1.length : Int) == (y4.1.length : Int) then
                  bif (Op.bytesLess y3.1 y4.1) == (decide (a1.1 < a1.2.1)) then
                    bif (y3.1 == y4.1) == (a1.1 == a1.2.1) then
                      (F.law05_awake n ).bind fun y10 =>
                        some (y10)
                    else
                      some (false)
                  else
                    some (false)
                else
                bif false == (decide (a1.1 < a1.2.1)) then
                  bif (y3.1 == y4.1) == (a1.1 == a1.2.1) then
                    (F.law05_awake n ).bind fun y11 =>
                      some (y11)
                  else
                    some (false)
                else
                  some (false)
        else
          (F.num_Text n a1.1).bind fun y12 =>
            (F.num_Text n a1.2.1).bind fun y13 =>
              bif !(y12.2.1 == (0 : Int)) then
                bif decide (a1.1 < (0 : Int)) then
                  (F.law05_awake n ).bind fun y14 =>
                    some (y14)
                else
                bif decide (a1.2.1 < (0 : Int)) then
                  (F.law05_awake n ).bind fun y15 =>
                    some (y15)
                else
                  some (false)
              else
              bif !(y13.2.1 == (0 : Int)) then
                bif decide (a1.1 < (0 : Int)) then
                  (F.law05_awake n ).bind fun y16 =>
                    some (y16)
                else
                bif decide (a1.2.1 < (0 : Int)) then
                  (F.law05_awake n ).bind fun y17 =>
                    some (y17)
                else
                  some (false)
              else
              bif decide ((y12.1.length : Int) < (y13.1.length : Int)) then
                bif true == (decide (a1.1 < a1.2.1)) then
                  bif (y12.1 == y13.1) == (a1.1 == a1.2.1) then
                    (F.law05_awake n ).bind fun y18 =>
                      some (y18)
                  else
                    some (false)
                else
                  some (false)
              else
              bif (y12.1.length : Int) == (y13.1.length : Int) then
                bif (Op.bytesLess y12.1 y13.1) == (decide (a1.1 < a1.2.1)) then
                  bif (y12.1 == y13.1) == (a1.1 == a1.2.1) then
                    (F.law05_awake n ).bind fun y19 =>
                      some (y19)
                  else
                    some (false)
                else
                  some (false)
              else
              bif false == (decide (a1.1 < a1.2.1)) then
                bif (y12.1 == y13.1) == (a1.1 == a1.2.1) then
                  (F.law05_awake n ).bind fun y20 =>
                    some (y20)
                else
                  some (false)
              else
                some (false)
      else
        (F.num_Text n a1.1).bind fun y21 =>
          (F.num_Text n a1.2.1).bind fun y22 =>
            bif !(y21.2.1 == (0 : Int)) then
              bif decide (a1.1 < (0 : Int)) then
                (F.law05_awake n ).bind fun y23 =>
                  some (y23)
              else
              bif decide (a1.2.1 < (0 : Int)) then
                (F.law05_awake n ).bind fun y24 =>
                  some (y24)
              else
                some (false)
            else
            bif !(y22.2.1 == (0 : Int)) then
              bif decide (a1.1 < (0 : Int)) then
                (F.law05_awake n ).bind fun y25 =>
                  some (y25)
              else
              bif decide (a1.2.1 < (0 : Int)) then
                (F.law05_awake n ).bind fun y26 =>
                  some (y26)
              else
                some (false)
            else
            bif decide ((y21.1.length : Int) < (y22.1.length : Int)) then
              bif true == (decide (a1.1 < a1.2.1)) then
                bif (y21.1 == y22.1) == (a1.1 == a1.2.1) then
                  (F.law05_awake n ).bind fun y27 =>
                    some (y27)
                else
                  some (false)
              else
                some (false)
            else
            bif (y21.1.length : Int) == (y22.1.length : Int) then
              bif (Op.bytesLess y21.1 y22.1) == (decide (a1.1 < a1.2.1)) then
                bif (y21.1 == y22.1) == (a1.1 == a1.2.1) then
                  (F.law05_awake n ).bind fun y28 =>
                    some (y28)
                else
                  some (false)
              else
                some (false)
            else
            bif false == (decide (a1.1 < a1.2.1)) then
              bif (y21.1 == y22.1) == (a1.1 == a1.2.1) then
                (F.law05_awake n ).bind fun y29 =>
                  some (y29)
              else
                some (false)
            else
              some (false)
end Go.AM
namespace Go.Proofs
open Go.Shelf
def Tryd.lays162_ren : Go.Shelf.Ren := ⟨fun | 162 => 18 | 232 => 26 | 227 => 27 | 234 => 28 | 236 => 29 | 228 => 35 | 271 => 36 | 151 => 37 | 120 => 50 | 197 => 51 | 152 => 52 | 260 => 62 | 137 => 63 | 119 => 64 | 224 => 65 | 225 => 66 | 217 => 71 | 266 => 72 | n => n, fun | 9 => 9 | 4 => 4 | 3 => 3 | 5 => 5 | 117 => 55 | 116 => 54 | 0 => 0 | 124 => 58 | 21 => 21 | 105 => 65 | 46 => 84 | 119 => 105 | 139 => 108 | 138 => 107 | n => n, fun | 3 => 3 | 4 => 4 | n => n⟩
theorem Tryd.lays162 : Go.Proofs.Lays.n162 Tryd.prog Tryd.lays162_ren := {
  mixed := by kernel_rfl
  f119 := Tryd.func64.trans (congrArg some (by kernel_rfl))
  f120 := Tryd.func50.trans (congrArg some (by kernel_rfl))
  f137 := Tryd.func63.trans (congrArg some (by kernel_rfl))
  f151 := Tryd.func37.trans (congrArg some (by kernel_rfl))
  f152 := Tryd.func52.trans (congrArg some (by kernel_rfl))
  f162 := Tryd.func18.trans (congrArg some (by kernel_rfl))
  f197 := Tryd.func51.trans (congrArg some (by kernel_rfl))
  f217 := Tryd.func71.trans (congrArg some (by kernel_rfl))
  f224 := Tryd.func65.trans (congrArg some (by kernel_rfl))
  f225 := Tryd.func66.trans (congrArg some (by kernel_rfl))
  f227 := Tryd.func27.trans (congrArg some (by kernel_rfl))
  f228 := Tryd.func35.trans (congrArg some (by kernel_rfl))
  f232 := Tryd.func26.trans (congrArg some (by kernel_rfl))
  f234 := Tryd.func28.trans (congrArg some (by kernel_rfl))
  f236 := Tryd.func29.trans (congrArg some (by kernel_rfl))
  f260 := Tryd.func62.trans (congrArg some (by kernel_rfl))
  f266 := Tryd.func72.trans (congrArg some (by kernel_rfl))
  f271 := Tryd.func36.trans (congrArg some (by kernel_rfl))
  t0 := Tryd.underlying0
  a0 := Tryd.isAgg0
  z0 := Tryd.sizeOf0
  v0 := Tryd.zeroValue0
  t3 := Tryd.underlying3
  a3 := Tryd.isAgg3
  z3 := Tryd.sizeOf3
  v3 := Tryd.zeroValue3
  t4 := Tryd.underlying4
  a4 := Tryd.isAgg4
  z4 := Tryd.sizeOf4
  v4 := Tryd.zeroValue4
  t5 := Tryd.underlying5
  a5 := Tryd.isAgg5
  z5 := Tryd.sizeOf5
  v5 := Tryd.zeroValue5
  t9 := Tryd.underlying9
  a9 := Tryd.isAgg9
  z9 := Tryd.sizeOf9
  v9 := Tryd.zeroValue9
  t21 := Tryd.underlying21
  a21 := Tryd.isAgg21
  z21 := Tryd.sizeOf21
  v21 := Tryd.zeroValue21
  t46 := Tryd.underlying84
  a46 := Tryd.isAgg84
  z46 := Tryd.sizeOf84
  v46 := Tryd.zeroValue84
  t105 := Tryd.underlying65
  a105 := Tryd.isAgg65
  z105 := Tryd.sizeOf65
  v105 := Tryd.zeroValue65
  t116 := Tryd.underlying54
  a116 := Tryd.isAgg54
  z116 := Tryd.sizeOf54
  t117 := Tryd.underlying55
  a117 := Tryd.isAgg55
  z117 := Tryd.sizeOf55
  v117 := Tryd.zeroValue55
  t119 := Tryd.underlying105
  a119 := Tryd.isAgg105
  z119 := Tryd.sizeOf105
  t124 := Tryd.underlying58
  a124 := Tryd.isAgg58
  z124 := Tryd.sizeOf58
  v124 := Tryd.zeroValue58
  t138 := Tryd.underlying107
  a138 := Tryd.isAgg107
  z138 := Tryd.sizeOf107
  v138 := Tryd.zeroValue107
  t139 := Tryd.underlying108
  a139 := Tryd.isAgg108
  z139 := Tryd.sizeOf108
  v139 := Tryd.zeroValue108
  g3 := by kernel_rfl
  g4 := by kernel_rfl }
open Go.RowKit in
theorem Tryd.strings_TrimRight_one (s : ByteArray) (c : UInt8) (hc : c.toNat < 128) (w : World) (hs : s.size ≤ 9223372036854775807) :
    Calls Tryd.prog 18 #[.string s, .string ⟨#[c]⟩] w fun e w' => e = .returned (.string ⟨(Lib.trimRightB s.data.toList c).toArray⟩) ∧ w' = w := Any.strings_TrimRight_one Tryd.lays162 s c hc w hs
def Tryd.laysM171_ren : Go.Shelf.Ren := ⟨fun | 171 => 17 | 243 => 25 | 246 => 34 | 283 => 46 | 284 => 47 | 285 => 48 | 286 => 49 | 129 => 58 | 317 => 57 | 318 => 59 | 319 => 60 | 320 => 61 | 337 => 69 | 338 => 70 | n => n, fun | 3 => 3 | 9 => 9 | 2 => 2 | 4 => 4 | 171 => 75 | 0 => 0 | 53 => 35 | 37 => 69 | 5 => 5 | 173 => 78 | 212 => 91 | 51 => 92 | 20 => 20 | 213 => 93 | 46 => 84 | 232 => 109 | 233 => 110 | n => n, fun | 17 => 2 | 18 => 6 | 19 => 7 | n => n⟩
theorem Tryd.laysM171 : Go.Proofs.LaysM.n171 Tryd.prog Tryd.laysM171_ren := {
  mixed := by kernel_rfl
  f129 := Tryd.func58.trans (congrArg some (by kernel_rfl))
  f171 := Tryd.func17.trans (congrArg some (by kernel_rfl))
  f243 := Tryd.func25.trans (congrArg some (by kernel_rfl))
  f246 := Tryd.func34.trans (congrArg some (by kernel_rfl))
  f283 := Tryd.func46.trans (congrArg some (by kernel_rfl))
  f284 := Tryd.func47.trans (congrArg some (by kernel_rfl))
  f285 := Tryd.func48.trans (congrArg some (by kernel_rfl))
  f286 := Tryd.func49.trans (congrArg some (by kernel_rfl))
  f317 := Tryd.func57.trans (congrArg some (by kernel_rfl))
  f318 := Tryd.func59.trans (congrArg some (by kernel_rfl))
  f319 := Tryd.func60.trans (congrArg some (by kernel_rfl))
  f320 := Tryd.func61.trans (congrArg some (by kernel_rfl))
  f337 := Tryd.func69.trans (congrArg some (by kernel_rfl))
  f338 := Tryd.func70.trans (congrArg some (by kernel_rfl))
  t0 := Tryd.underlying0
  a0 := Tryd.isAgg0
  z0 := Tryd.sizeOf0
  v0 := Tryd.zeroValue0
  t2 := Tryd.underlying2
  a2 := Tryd.isAgg2
  z2 := Tryd.sizeOf2
  v2 := Tryd.zeroValue2
  t3 := Tryd.underlying3
  a3 := Tryd.isAgg3
  z3 := Tryd.sizeOf3
  v3 := Tryd.zeroValue3
  t4 := Tryd.underlying4
  a4 := Tryd.isAgg4
  z4 := Tryd.sizeOf4
  v4 := Tryd.zeroValue4
  t5 := Tryd.underlying5
  a5 := Tryd.isAgg5
  z5 := Tryd.sizeOf5
  v5 := Tryd.zeroValue5
  t9 := Tryd.underlying9
  a9 := Tryd.isAgg9
  z9 := Tryd.sizeOf9
  v9 := Tryd.zeroValue9
  t20 := Tryd.underlying20
  a20 := Tryd.isAgg20
  z20 := Tryd.sizeOf20
  v20 := Tryd.zeroValue20
  t37 := Tryd.underlying69
  a37 := Tryd.isAgg69
  z37 := Tryd.sizeOf69
  v37 := Tryd.zeroValue69
  t46 := Tryd.underlying84
  a46 := Tryd.isAgg84
  z46 := Tryd.sizeOf84
  v46 := Tryd.zeroValue84
  t51 := Tryd.underlying92
  a51 := Tryd.isAgg92
  z51 := Tryd.sizeOf92
  v51 := Tryd.zeroValue92
  t53 := Tryd.underlying35
  a53 := Tryd.isAgg35
  z53 := Tryd.sizeOf35
  v53 := Tryd.zeroValue35
  t171 := Tryd.underlying75
  a171 := Tryd.isAgg75
  z171 := Tryd.sizeOf75
  v171 := Tryd.zeroValue75
  t173 := Tryd.underlying78
  a173 := Tryd.isAgg78
  z173 := Tryd.sizeOf78
  v173 := Tryd.zeroValue78
  t212 := Tryd.underlying91
  a212 := Tryd.isAgg91
  z212 := Tryd.sizeOf91
  v212 := Tryd.zeroValue91
  t213 := Tryd.underlying93
  a213 := Tryd.isAgg93
  z213 := Tryd.sizeOf93
  t232 := Tryd.underlying109
  a232 := Tryd.isAgg109
  z232 := Tryd.sizeOf109
  v232 := Tryd.zeroValue109
  t233 := Tryd.underlying110
  a233 := Tryd.isAgg110
  z233 := Tryd.sizeOf110
  v233 := Tryd.zeroValue110
  g17 := by kernel_rfl
  g18 := by kernel_rfl
  g19 := by kernel_rfl
  i0 := by kernel_rfl
  i2 := by kernel_rfl
  i3 := by kernel_rfl
  i4 := by kernel_rfl
  i5 := by kernel_rfl
  i9 := by kernel_rfl
  i20 := by kernel_rfl
  i37 := by kernel_rfl
  i46 := by kernel_rfl
  i51 := by kernel_rfl
  i53 := by kernel_rfl
  i171 := by kernel_rfl
  i173 := by kernel_rfl
  i212 := by kernel_rfl
  i232 := by kernel_rfl
  i233 := by kernel_rfl
  m17 := by kernel_rfl
  m18 := by kernel_rfl
  m19 := by kernel_rfl }
open Go.RowKit Go.Sort Go.Lib in
theorem Tryd.strconv_Itoa (n : Int) (h0 : -9223372036854775808 ≤ n) (h1 : n ≤ 9223372036854775807) (w : World) (htab : Lib.TabIs Tryd.prog w "internal/strconv.uint64pow10" .u64 Lib.pow10Tab) :
    Calls Tryd.prog 17 #[.int .i64 n] w fun e w' => e = .returned (.string ⟨(Lib.itoa n).toArray⟩) ∧ ∃ k os, w' = grow (w.drewN k) os := Any.strconv_Itoa Tryd.laysM171 n h0 h1 w htab
def Tryd.laysC172_ren : Go.Shelf.Ren := ⟨fun | 172 => 22 | 244 => 31 | 245 => 32 | 247 => 40 | 279 => 41 | 280 => 42 | 281 => 43 | 282 => 44 | 287 => 54 | 316 => 55 | 171 => 17 | 205 => 56 | 321 => 67 | 322 => 68 | 243 => 25 | 246 => 34 | 283 => 46 | 284 => 47 | 285 => 48 | 286 => 49 | 129 => 58 | 317 => 57 | 318 => 59 | 319 => 60 | 320 => 61 | 337 => 69 | 338 => 70 | n => n, fun | 9 => 9 | 3 => 3 | 75 => 46 | 76 => 47 | 4 => 4 | 5 => 5 | 167 => 68 | 37 => 69 | 0 => 0 | 85 => 70 | 2 => 2 | 168 => 72 | 53 => 35 | 175 => 82 | 46 => 84 | 210 => 87 | 127 => 100 | 145 => 103 | 143 => 101 | 21 => 21 | 171 => 75 | 173 => 78 | 212 => 91 | 51 => 92 | 20 => 20 | 213 => 93 | 232 => 109 | 233 => 110 | 80 => 111 | n => n, fun | 15 => 0 | 16 => 1 | 17 => 2 | 18 => 6 | 19 => 7 | n => n⟩
theorem Tryd.laysC172 : Go.Proofs.LaysC.n172 Tryd.prog Tryd.laysC172_ren := {
  mixed := by kernel_rfl
  f129 := Tryd.func58.trans (congrArg some (by kernel_rfl))
  f171 := Tryd.func17.trans (congrArg some (by kernel_rfl))
  f172 := Tryd.func22.trans (congrArg some (by kernel_rfl))
  f205 := Tryd.func56.trans (congrArg some (by kernel_rfl))
  f243 := Tryd.func25.trans (congrArg some (by kernel_rfl))
  f244 := Tryd.func31.trans (congrArg some (by kernel_rfl))
  f245 := Tryd.func32.trans (congrArg some (by kernel_rfl))
  f246 := Tryd.func34.trans (congrArg some (by kernel_rfl))
  f247 := Tryd.func40.trans (congrArg some (by kernel_rfl))
  f279 := Tryd.func41.trans (congrArg some (by kernel_rfl))
  f280 := Tryd.func42.trans (congrArg some (by kernel_rfl))
  f281 := Tryd.func43.trans (congrArg some (by kernel_rfl))
  f282 := Tryd.func44.trans (congrArg some (by kernel_rfl))
  f283 := Tryd.func46.trans (congrArg some (by kernel_rfl))
  f284 := Tryd.func47.trans (congrArg some (by kernel_rfl))
  f285 := Tryd.func48.trans (congrArg some (by kernel_rfl))
  f286 := Tryd.func49.trans (congrArg some (by kernel_rfl))
  f287 := Tryd.func54.trans (congrArg some (by kernel_rfl))
  f316 := Tryd.func55.trans (congrArg some (by kernel_rfl))
  f317 := Tryd.func57.trans (congrArg some (by kernel_rfl))
  f318 := Tryd.func59.trans (congrArg some (by kernel_rfl))
  f319 := Tryd.func60.trans (congrArg some (by kernel_rfl))
  f320 := Tryd.func61.trans (congrArg some (by kernel_rfl))
  f321 := Tryd.func67.trans (congrArg some (by kernel_rfl))
  f322 := Tryd.func68.trans (congrArg some (by kernel_rfl))
  f337 := Tryd.func69.trans (congrArg some (by kernel_rfl))
  f338 := Tryd.func70.trans (congrArg some (by kernel_rfl))
  t0 := Tryd.underlying0
  a0 := Tryd.isAgg0
  z0 := Tryd.sizeOf0
  v0 := Tryd.zeroValue0
  t2 := Tryd.underlying2
  a2 := Tryd.isAgg2
  z2 := Tryd.sizeOf2
  v2 := Tryd.zeroValue2
  t3 := Tryd.underlying3
  a3 := Tryd.isAgg3
  z3 := Tryd.sizeOf3
  v3 := Tryd.zeroValue3
  t4 := Tryd.underlying4
  a4 := Tryd.isAgg4
  z4 := Tryd.sizeOf4
  v4 := Tryd.zeroValue4
  t5 := Tryd.underlying5
  a5 := Tryd.isAgg5
  z5 := Tryd.sizeOf5
  v5 := Tryd.zeroValue5
  t9 := Tryd.underlying9
  a9 := Tryd.isAgg9
  z9 := Tryd.sizeOf9
  v9 := Tryd.zeroValue9
  t20 := Tryd.underlying20
  a20 := Tryd.isAgg20
  z20 := Tryd.sizeOf20
  v20 := Tryd.zeroValue20
  t21 := Tryd.underlying21
  a21 := Tryd.isAgg21
  z21 := Tryd.sizeOf21
  v21 := Tryd.zeroValue21
  t37 := Tryd.underlying69
  a37 := Tryd.isAgg69
  z37 := Tryd.sizeOf69
  v37 := Tryd.zeroValue69
  t46 := Tryd.underlying84
  a46 := Tryd.isAgg84
  z46 := Tryd.sizeOf84
  v46 := Tryd.zeroValue84
  t51 := Tryd.underlying92
  a51 := Tryd.isAgg92
  z51 := Tryd.sizeOf92
  v51 := Tryd.zeroValue92
  t53 := Tryd.underlying35
  a53 := Tryd.isAgg35
  z53 := Tryd.sizeOf35
  v53 := Tryd.zeroValue35
  t75 := Tryd.underlying46
  a75 := Tryd.isAgg46
  z75 := Tryd.sizeOf46
  v75 := Tryd.zeroValue46
  t76 := Tryd.underlying47
  a76 := Tryd.isAgg47
  z76 := Tryd.sizeOf47
  v76 := Tryd.zeroValue47
  t85 := Tryd.underlying70
  a85 := Tryd.isAgg70
  z85 := Tryd.sizeOf70
  v85 := Tryd.zeroValue70
  t127 := Tryd.underlying100
  a127 := Tryd.isAgg100
  z127 := Tryd.sizeOf100
  v127 := Tryd.zeroValue100
  t143 := Tryd.underlying101
  a143 := Tryd.isAgg101
  z143 := Tryd.sizeOf101
  v143 := Tryd.zeroValue101
  t145 := Tryd.underlying103
  a145 := Tryd.isAgg103
  z145 := Tryd.sizeOf103
  v145 := Tryd.zeroValue103
  t167 := Tryd.underlying68
  a167 := Tryd.isAgg68
  z167 := Tryd.sizeOf68
  v167 := Tryd.zeroValue68
  t168 := Tryd.underlying72
  a168 := Tryd.isAgg72
  z168 := Tryd.sizeOf72
  v168 := Tryd.zeroValue72
  t171 := Tryd.underlying75
  a171 := Tryd.isAgg75
  z171 := Tryd.sizeOf75
  v171 := Tryd.zeroValue75
  t173 := Tryd.underlying78
  a173 := Tryd.isAgg78
  z173 := Tryd.sizeOf78
  v173 := Tryd.zeroValue78
  t175 := Tryd.underlying82
  a175 := Tryd.isAgg82
  z175 := Tryd.sizeOf82
  v175 := Tryd.zeroValue82
  t210 := Tryd.underlying87
  a210 := Tryd.isAgg87
  z210 := Tryd.sizeOf87
  v210 := Tryd.zeroValue87
  t212 := Tryd.underlying91
  a212 := Tryd.isAgg91
  z212 := Tryd.sizeOf91
  v212 := Tryd.zeroValue91
  t213 := Tryd.underlying93
  a213 := Tryd.isAgg93
  z213 := Tryd.sizeOf93
  t232 := Tryd.underlying109
  a232 := Tryd.isAgg109
  z232 := Tryd.sizeOf109
  v232 := Tryd.zeroValue109
  t233 := Tryd.underlying110
  a233 := Tryd.isAgg110
  z233 := Tryd.sizeOf110
  v233 := Tryd.zeroValue110
  g15 := by kernel_rfl
  g16 := by kernel_rfl
  g17 := by kernel_rfl
  g18 := by kernel_rfl
  g19 := by kernel_rfl
  t80 := Tryd.underlying111
  a80 := Tryd.isAgg111
  z80 := Tryd.sizeOf111
  v80 := Tryd.zeroValue111
  i0 := by kernel_rfl
  i2 := by kernel_rfl
  i3 := by kernel_rfl
  i4 := by kernel_rfl
  i5 := by kernel_rfl
  i9 := by kernel_rfl
  i20 := by kernel_rfl
  i21 := by kernel_rfl
  i37 := by kernel_rfl
  i46 := by kernel_rfl
  i51 := by kernel_rfl
  i53 := by kernel_rfl
  i75 := by kernel_rfl
  i76 := by kernel_rfl
  i80 := by kernel_rfl
  i85 := by kernel_rfl
  i127 := by kernel_rfl
  i143 := by kernel_rfl
  i145 := by kernel_rfl
  i167 := by kernel_rfl
  i168 := by kernel_rfl
  i171 := by kernel_rfl
  i173 := by kernel_rfl
  i175 := by kernel_rfl
  i210 := by kernel_rfl
  i212 := by kernel_rfl
  i232 := by kernel_rfl
  i233 := by kernel_rfl
  m15 := by kernel_rfl
  m16 := by kernel_rfl
  m17 := by kernel_rfl
  m18 := by kernel_rfl
  m19 := by kernel_rfl
  c0 := by kernel_rfl
  c2 := by kernel_rfl
  c3 := by kernel_rfl
  c4 := by kernel_rfl
  c5 := by kernel_rfl
  c9 := by kernel_rfl
  c20 := by kernel_rfl
  c21 := by kernel_rfl
  c37 := by kernel_rfl
  c46 := by kernel_rfl
  c51 := by kernel_rfl
  c53 := by kernel_rfl
  c75 := by kernel_rfl
  c76 := by kernel_rfl
  c80 := by kernel_rfl
  c85 := by kernel_rfl
  c127 := by kernel_rfl
  c143 := by kernel_rfl
  c145 := by kernel_rfl
  c167 := by kernel_rfl
  c168 := by kernel_rfl
  c171 := by kernel_rfl
  c173 := by kernel_rfl
  c175 := by kernel_rfl
  c210 := by kernel_rfl
  c212 := by kernel_rfl
  c213 := by kernel_rfl
  c232 := by kernel_rfl
  c233 := by kernel_rfl }
open Go.RowKit in
theorem Tryd.strconv_Atoi_ok (s : ByteArray) (hmax : s.size ≤ 9223372036854775806) (v : Int) (h : Lib.atoiAll s.data.toList = .ok v) (w : World) :
    Calls Tryd.prog 22 #[.string s] w fun e w' => e = .returned (.tuple #[.int .i64 v, .nilIface]) ∧ (w' = w ∨ ∃ t, w' = Lib.bytesWorld w 5 t) := Any.strconv_Atoi_ok Tryd.laysC172 s hmax v h w
end Go.Proofs
set_option linter.unusedVariables false
set_option maxRecDepth 100000
namespace Go.AM
open Go.Proofs Go.RowKit
open Go.Proofs.YthfaagjjkdoedaaDoor
def SI : World → Prop := LaidI Tryd.prog Rows.numRateBackRow.laid
def SW : World → Prop := WOf SI
theorem swTab {w : World} (h : SW w) : Lib.TabIs Tryd.prog w (Rows.numRateBackRow.laid.getD 2 ("", .nil)).1 .u64 Lib.pow10Tab := by
  obtain ⟨w0, h1, h2, h3⟩ := h
  exact tab_on (laid_tab h1 (by kernel_rfl) 2 (by kernel_rfl) (g := 2) (by kernel_rfl) (by kernel_rfl) Tryd.underlying91 Tryd.underlying35 (by kernel_rfl) (by kernel_rfl)) h2 h3
theorem swErrS {w : World} (h : SW w) : ∃ ev, w.cell? ⟨0, 0, none⟩ = some ev ∧ (ev = .nilIface ∨ ∃ te pe, ev = .iface te pe) := by
  obtain ⟨w0, h1, h2, h3⟩ := h
  obtain ⟨ev, a, b⟩ := laid_iface h1 (by kernel_rfl) 5 rfl (g := 0) (by kernel_rfl) (by kernel_rfl) Tryd.underlying46
  exact ⟨ev, cell_on a h3, b⟩
theorem swErrR {w : World} (h : SW w) : ∃ ev, w.cell? ⟨1, 0, none⟩ = some ev ∧ (ev = .nilIface ∨ ∃ te pe, ev = .iface te pe) := by
  obtain ⟨w0, h1, h2, h3⟩ := h
  obtain ⟨ev, a, b⟩ := laid_iface h1 (by kernel_rfl) 4 rfl (g := 1) (by kernel_rfl) (by kernel_rfl) Tryd.underlying46
  exact ⟨ev, cell_on a h3, b⟩
theorem mixed : Tryd.prog.follows .mixedOrders = true := by kernel_rfl
def tab : Tree TI := .node 35 (.node 23 (.node 5 (.node 4 (.one 3 ⟨.int .i64, 1, 8, false, [(.int .i64 (0 : Int))], some (.int .i64), false⟩) (.one 4 ⟨.bool, 1, 1, false, [(.bool false)], some .bool, false⟩)) (.node 9 (.one 5 ⟨.int .u8, 1, 1, false, [(.int .u8 (0 : Int))], some .u8, false⟩) (.one 9 ⟨.str, 1, 16, false, [(.str [])], some .str, false⟩))) (.node 27 (.node 24 (.one 23 ⟨.int .i64, 1, 8, false, [(.int .i64 (0 : Int))], some (.int .i64), false⟩) (.one 24 ⟨.other, 1, 0, false, [.any], none, false⟩)) (.node 28 (.one 27 ⟨.struct [(0, 23), (1, 3)], 2, 16, true, [(.int .i64 (0 : Int)), (.int .i64 (0 : Int))], some (.agg [(.int .i64), (.int .i64)]), true⟩) (.one 28 ⟨.other, 1, 0, false, [.any], none, false⟩)))) (.node 46 (.node 41 (.node 38 (.one 35 ⟨.int .u64, 1, 8, false, [(.int .u64 (0 : Int))], some (.int .u64), false⟩) (.one 38 ⟨.arr 2 3, 2, 16, true, [(.int .i64 (0 : Int)), (.int .i64 (0 : Int))], some (.agg [(.int .i64), (.int .i64)]), false⟩)) (.node 44 (.one 41 ⟨.arr 2 5, 2, 2, true, [(.int .u8 (0 : Int)), (.int .u8 (0 : Int))], some (.agg [.u8, .u8]), false⟩) (.one 44 ⟨.func, 1, 8, false, [.nilfn], none, false⟩))) (.node 50 (.node 47 (.one 46 ⟨.iface, 1, 16, false, [(.err false)], none, false⟩) (.one 47 ⟨.other, 1, 0, false, [.any], none, false⟩)) (.node 59 (.one 50 ⟨.other, 1, 0, false, [.any], none, false⟩) (.one 59 ⟨.other, 1, 0, false, [.any], none, false⟩))))
theorem tab_ok : tab.all (tiOK Tryd.prog) = true := by kernel_rfl
theorem ok17 (n : Nat) : FnOK Tryd.prog SW 17 [(.int .i64)] (.one .str) (fun x => O.itoa n x.1) := itoa_ok (enters Tryd.func17 (by kernel_rfl) (by decide)) (fun k h0 h1 w hw => (Tryd.strconv_Itoa k h0 h1 w (swTab hw)).mono fun e w' ⟨a, q, os, b⟩ => ⟨a, b ▸ below_grow q os⟩) n
theorem ok18 (n : Nat) : FnOK Tryd.prog SW 18 [.str, .str] (.one .str) (fun x => O.trimR n x.1 x.2.1) := trimR_ok (enters Tryd.func18 (by kernel_rfl) (by decide)) Tryd.strings_TrimRight_one n
noncomputable def cx9 (X : Type) (n : Nat) : Cx X := mkCx tab.get [(9, Tryd.f9)] [(17, orcOf [(.int .i64)] (.one .str) (fun x => O.itoa n x.1)), (18, orcOf [.str, .str] (.one .str) (fun x => O.trimR n x.1 x.2.1))] [] [] [] []
theorem cx9_ok (X : Type) (n : Nat) : CxOK Tryd.prog SW (cx9 X n) := mkCx_ok mixed (tabOK tab_ok) ⟨⟨Tryd.func9, by decide⟩, trivial⟩ ⟨orcOf_ok (ok17 n),
  orcOf_ok (ok18 n), trivial⟩ ⟨okC_mk rfl (by kernel_rfl) (castP (by kernel_rfl) (show True from trivial)) (castP (by kernel_rfl) (show True from trivial)), trivial⟩ trivial
theorem ok9 (n : Nat) : FnOK Tryd.prog SW 9 [(.int .i64)] (.many [.str, (.int .i64)]) (fun x => F.num_RateText n x.1) := fnOK_of WOf.st (cx9_ok _ n) (d := 8) (fun x => by kernel_rfl)
noncomputable def cx19 (X : Type) (n : Nat) : Cx X := mkCx tab.get [(19, Tryd.f19)] [] [] [] [] []
theorem cx19_ok (X : Type) (n : Nat) : CxOK Tryd.prog SW (cx19 X n) := mkCx_ok mixed (tabOK tab_ok) ⟨⟨Tryd.func19, by decide⟩, trivial⟩ trivial ⟨okC_mk rfl (by kernel_rfl) (castP (by kernel_rfl) (show True from trivial)) (castP (by kernel_rfl) (show True from trivial)), trivial⟩ trivial
theorem ok19 (n : Nat) : FnOK Tryd.prog SW 19 [(.int .i64), (.int .i64)] (.many [(.int .i64), (.agg [(.int .i64), (.int .i64)])]) (fun x => F.num_fault n x.1 x.2.1) := fnOK_of WOf.st (cx19_ok _ n) (d := 8) (fun x => by kernel_rfl)
noncomputable def cx38 (X : Type) (n : Nat) : Cx X := mkCx tab.get [(38, Tryd.f38)] [] [] [] [] []
theorem cx38_ok (X : Type) (n : Nat) : CxOK Tryd.prog SW (cx38 X n) := mkCx_ok mixed (tabOK tab_ok) ⟨⟨Tryd.func38, by decide⟩, trivial⟩ trivial ⟨okC_mk rfl (by kernel_rfl) (castP (by kernel_rfl) (show True from trivial)) (castP (by kernel_rfl) (show True from trivial)), trivial⟩ trivial
theorem ok38 (n : Nat) : FnOK Tryd.prog SW 38 [(.int .i64)] (.one .bool) (fun x => F.class_may n x.1) := fnOK_of WOf.st (cx38_ok _ n) (d := 8) (fun x => by kernel_rfl)
noncomputable def cx53 (X : Type) (n : Nat) : Cx X := mkCx tab.get [(53, Tryd.f53)] [] [] [] [] []
theorem cx53_ok (X : Type) (n : Nat) : CxOK Tryd.prog SW (cx53 X n) := mkCx_ok mixed (tabOK tab_ok) ⟨⟨Tryd.func53, by decide⟩, trivial⟩ trivial ⟨okC_mk rfl (by kernel_rfl) (castP (by kernel_rfl) (show True from trivial)) (castP (by kernel_rfl) (show True from trivial)), trivial⟩ trivial
theorem ok53 (n : Nat) : FnOK Tryd.prog SW 53 [(.int .u8), (.int .u8), (.int .u8)] (.one .bool) (fun x => F.class_between n x.1 x.2.1 x.2.2.1) := fnOK_of WOf.st (cx53_ok _ n) (d := 8) (fun x => by kernel_rfl)
noncomputable def cx39 (X : Type) (n : Nat) : Cx X := mkCx tab.get [(39, Tryd.f39)] [(53, orcOf [(.int .u8), (.int .u8), (.int .u8)] (.one .bool) (fun x => F.class_between n x.1 x.2.1 x.2.2.1))] [] [] [] []
theorem cx39_ok (X : Type) (n : Nat) : CxOK Tryd.prog SW (cx39 X n) := mkCx_ok mixed (tabOK tab_ok) ⟨⟨Tryd.func39, by decide⟩, trivial⟩ ⟨orcOf_ok (ok53 n), trivial⟩ ⟨okC_mk rfl (by kernel_rfl) (castP (by kernel_rfl) (show True from trivial)) (castP (by kernel_rfl) (show True from trivial)), trivial⟩ trivial
theorem ok39 (n : Nat) : FnOK Tryd.prog SW 39 [(.int .i64), (.int .u8)] (.one .bool) (fun x => F.class_Is n x.1 x.2.1) := fnOK_of WOf.st (cx39_ok _ n) (d := 8) (fun x => by kernel_rfl)
def F.class_Bad.L4.head : Shape := ⟨[(0, (.int .i64)), (1, .str), (11, (.int .i64)), (12, (.int .i64))], [], [], [], [], 0, 0, 0⟩
def F.class_Bad.L4.e0 : Shape := ⟨[], [], [], [], [], 0, 0, 0⟩
def F.class_Bad.L4.er : Shape := ⟨[(4, (.int .i64)), (5, (.int .i64))], [], [], [], [], 0, 0, 0⟩
noncomputable def F.class_Bad.L4.f {X : Type} (n m : Nat) (ks : Ks X) (s : F.class_Bad.L4.head.den) : Option X := F.class_Bad.L4 n (fun (_ : Unit) => ks.ex 0 (F.class_Bad.L4.e0.e ((), (), (), ())) (F.class_Bad.L4.e0.h ((), (), (), ()))) (fun q4 q5 => ks.ret (F.class_Bad.L4.er.e ((q4, q5, ()), (), (), ())) (F.class_Bad.L4.er.h ((q4, q5, ()), (), (), ()))) m s.1.1 s.1.2.1 s.1.2.2.1 s.1.2.2.2.1
noncomputable def F.class_Bad.L4.li (X : Type) (n : Nat) : LoopI X := ⟨8, ⟨0, 0, 0⟩, F.class_Bad.L4.head, [(0, F.class_Bad.L4.e0)], some F.class_Bad.L4.er, F.class_Bad.L4.f n n⟩
noncomputable def cx30 (X : Type) (n : Nat) : Cx X := mkCx tab.get [(30, Tryd.f30)] [(38, orcOf [(.int .i64)] (.one .bool) (fun x => F.class_may n x.1)), (39, orcOf [(.int .i64), (.int .u8)] (.one .bool) (fun x => F.class_Is n x.1 x.2.1))] [(30, 4, [F.class_Bad.L4.li X n])] [] [] []
theorem F.class_Bad.L4.ok (X : Type) (n : Nat) : LoopOK (cx30 X n) 30 Tryd.f30.ntmps (loopNo Tryd.f30 0) (F.class_Bad.L4.li X n) :=
  ⟨F.class_Bad.L4.f n, n, fun _ _ => rfl, fun _ _ => rfl, fun m ks s => by kernel_rfl⟩
theorem cx30_ok (X : Type) (n : Nat) : CxOK Tryd.prog SW (cx30 X n) := mkCx_ok mixed (tabOK tab_ok) ⟨⟨Tryd.func30, by decide⟩, trivial⟩ ⟨orcOf_ok (ok38 n),
  orcOf_ok (ok39 n), trivial⟩ ⟨okC_mk rfl (by kernel_rfl) (castP (by kernel_rfl) (show (LoopOK (cx30 X n) 30 Tryd.f30.ntmps (loopNo Tryd.f30 0) (F.class_Bad.L4.li X n) ∧ True) ∧ True from ⟨⟨F.class_Bad.L4.ok X n, trivial⟩, trivial⟩)) (castP (by kernel_rfl) (show True from trivial)), trivial⟩ trivial
theorem ok30 (n : Nat) : FnOK Tryd.prog SW 30 [(.int .i64), .str] (.many [(.int .i64), (.int .i64)]) (fun x => F.class_Bad n x.1 x.2.1) := fnOK_of WOf.st (cx30_ok _ n) (d := 8) (fun x => by kernel_rfl)
noncomputable def cx20 (X : Type) (n : Nat) : Cx X := mkCx tab.get [(20, Tryd.f20)] [(30, orcOf [(.int .i64), .str] (.many [(.int .i64), (.int .i64)]) (fun x => F.class_Bad n x.1 x.2.1))] [] [] [] []
theorem cx20_ok (X : Type) (n : Nat) : CxOK Tryd.prog SW (cx20 X n) := mkCx_ok mixed (tabOK tab_ok) ⟨⟨Tryd.func20, by decide⟩, trivial⟩ ⟨orcOf_ok (ok30 n), trivial⟩ ⟨okC_mk rfl (by kernel_rfl) (castP (by kernel_rfl) (show True from trivial)) (castP (by kernel_rfl) (show True from trivial)), trivial⟩ trivial
theorem ok20 (n : Nat) : FnOK Tryd.prog SW 20 [(.int .i64), .str, (.int .i64), (.int .i64)] (.one (.agg [(.int .i64), (.int .i64)])) (fun x => F.class_Text n x.1 x.2.1 x.2.2.1 x.2.2.2.1) := fnOK_of WOf.st (cx20_ok _ n) (d := 8) (fun x => by kernel_rfl)
def F.num_Rate.L5.head : Shape := ⟨[(0, .str), (3, (.const (.ref 0 0))), (4, (.const (.ref 1 0))), (16, (.agg [(.int .u8), (.int .u8)])), (17, (.int .i64))], [[(.int .i64), (.int .i64)], [(.int .i64), (.int .i64)]], [], [], [], 2, 0, 0⟩
def F.num_Rate.L5.e0 : Shape := ⟨[(0, .str), (3, (.const (.ref 0 0))), (4, (.const (.ref 1 0)))], [[(.int .i64), (.int .i64)], [(.int .i64), (.int .i64)]], [], [], [], 2, 0, 0⟩
noncomputable def F.num_Rate.L5.f {X : Type} (n m : Nat) (ks : Ks X) (s : F.num_Rate.L5.head.den) : Option X := F.num_Rate.L5 n (fun q0 qb0_0 qb0_1 qb1_0 qb1_1 => ks.ex 0 (F.num_Rate.L5.e0.e ((q0, (), (), ()), ((qb0_0, qb0_1, ()), (qb1_0, qb1_1, ()), ()), (), ())) (F.num_Rate.L5.e0.h ((q0, (), (), ()), ((qb0_0, qb0_1, ()), (qb1_0, qb1_1, ()), ()), (), ()))) m s.1.1 s.1.2.2.2.1 s.1.2.2.2.2.1 s.2.1.1.1 s.2.1.1.2.1 s.2.1.2.1.1 s.2.1.2.1.2.1
noncomputable def F.num_Rate.L5.li (X : Type) (n : Nat) : LoopI X := ⟨8, ⟨0, 0, 0⟩, F.num_Rate.L5.head, [(0, F.num_Rate.L5.e0)], none, F.num_Rate.L5.f n n⟩
def F.num_Rate.L23.head : Shape := ⟨[(3, (.const (.ref 0 0))), (7, .str), (9, (.const (.ref 3 0))), (10, (.const (.fn 21 [] [(.ref 3 0)]))), (81, (.int .i64))], [[(.int .i64), (.int .i64)], [(.int .i64), (.int .i64)], [(.int .i64), (.int .i64)], [(.int .i64)]], [], [], [], 4, 0, 0⟩
def F.num_Rate.L23.e3 : Shape := ⟨[(3, (.const (.ref 0 0))), (9, (.const (.ref 3 0)))], [[(.int .i64), (.int .i64)], [(.int .i64), (.int .i64)], [(.int .i64), (.int .i64)], [(.int .i64)]], [], [], [], 4, 0, 0⟩
noncomputable def F.num_Rate.L23.f {X : Type} (n m : Nat) (ks : Ks X) (s : F.num_Rate.L23.head.den) : Option X := F.num_Rate.L23 n (fun qb0_0 qb0_1 qb1_0 qb1_1 qb2_0 qb2_1 qb3_0 => ks.ex 3 (F.num_Rate.L23.e3.e (((), (), ()), ((qb0_0, qb0_1, ()), (qb1_0, qb1_1, ()), (qb2_0, qb2_1, ()), (qb3_0, ()), ()), (), ())) (F.num_Rate.L23.e3.h (((), (), ()), ((qb0_0, qb0_1, ()), (qb1_0, qb1_1, ()), (qb2_0, qb2_1, ()), (qb3_0, ()), ()), (), ()))) m s.1.2.1 s.1.2.2.2.2.1 s.2.1.1.1 s.2.1.1.2.1 s.2.1.2.1.1 s.2.1.2.1.2.1 s.2.1.2.2.1.1 s.2.1.2.2.1.2.1 s.2.1.2.2.2.1.1
noncomputable def F.num_Rate.L23.li (X : Type) (n : Nat) : LoopI X := ⟨8, ⟨0, 0, 0⟩, F.num_Rate.L23.head, [(3, F.num_Rate.L23.e3)], none, F.num_Rate.L23.f n n⟩
noncomputable def cx10 (X : Type) (n : Nat) : Cx X := mkCx tab.get [(10, Tryd.f10), (21, Tryd.f21)] [(19, orcOf [(.int .i64), (.int .i64)] (.many [(.int .i64), (.agg [(.int .i64), (.int .i64)])]) (fun x => F.num_fault n x.1 x.2.1)), (20, orcOf [(.int .i64), .str, (.int .i64), (.int .i64)] (.one (.agg [(.int .i64), (.int .i64)])) (fun x => F.class_Text n x.1 x.2.1 x.2.2.1 x.2.2.2.1))] [(10, 5, [F.num_Rate.L5.li X n]), (10, 23, [F.num_Rate.L23.li X n])] [] [] []
theorem F.num_Rate.L5.ok (X : Type) (n : Nat) : LoopOK (cx10 X n) 10 Tryd.f10.ntmps (loopNo Tryd.f10 0) (F.num_Rate.L5.li X n) :=
  ⟨F.num_Rate.L5.f n, n, fun _ _ => rfl, fun _ _ => rfl, fun m ks s => by kernel_rfl⟩
theorem F.num_Rate.L23.ok (X : Type) (n : Nat) : LoopOK (cx10 X n) 10 Tryd.f10.ntmps (loopNo Tryd.f10 1) (F.num_Rate.L23.li X n) :=
  ⟨F.num_Rate.L23.f n, n, fun _ _ => rfl, fun _ _ => rfl, fun m ks s => by kernel_rfl⟩
theorem cx10_ok (X : Type) (n : Nat) : CxOK Tryd.prog SW (cx10 X n) := mkCx_ok mixed (tabOK tab_ok) ⟨⟨Tryd.func10, by decide⟩,
  ⟨Tryd.func21, by decide⟩, trivial⟩ ⟨orcOf_ok (ok19 n),
  orcOf_ok (ok20 n), trivial⟩ ⟨okC_mk rfl (by kernel_rfl) (castP (by kernel_rfl) (show (LoopOK (cx10 X n) 10 Tryd.f10.ntmps (loopNo Tryd.f10 0) (F.num_Rate.L5.li X n) ∧ True) ∧ (LoopOK (cx10 X n) 10 Tryd.f10.ntmps (loopNo Tryd.f10 1) (F.num_Rate.L23.li X n) ∧ True) ∧ True from ⟨⟨F.num_Rate.L5.ok X n, trivial⟩, ⟨F.num_Rate.L23.ok X n, trivial⟩, trivial⟩)) (castP (by kernel_rfl) (show True from trivial)),
  okC_mk rfl (by kernel_rfl) (castP (by kernel_rfl) (show True from trivial)) (castP (by kernel_rfl) (show True from trivial)), trivial⟩ trivial
theorem ok10 (n : Nat) : FnOK Tryd.prog SW 10 [.str] (.many [(.int .i64), (.agg [(.int .i64), (.int .i64)])]) (fun x => F.num_Rate n x.1) := fnOK_of WOf.st (cx10_ok _ n) (d := 8) (fun x => by kernel_rfl)
theorem ok22 (n : Nat) : FnOK Tryd.prog SW 22 [.str] (.many [(.int .i64), .err]) (fun x => O.atoi n x.1) := atoi_ok (enters Tryd.func22 (by kernel_rfl) (by decide)) (fun s hs v hv w hw => (Tryd.strconv_Atoi_ok s (by omega) v hv w).mono fun e w' ⟨a, b⟩ => ⟨a, by rcases b with rfl | ⟨t, rfl⟩; exact Below.refl _ _; exact below_bytes⟩)
  (fun s hs n1 n2 w hw => by obtain ⟨ev, hv, hev⟩ := swErrS hw; exact (Any.strconv_Atoi_syntax Tryd.laysC172 s (by omega) (by cases hq : Lib.atoiAll s.data.toList with | ok v => exact absurd hq (n1 v) | range => exact absurd hq n2 | _ => rfl) ev w hv hev).mono fun e w' ⟨N, a, _, _, b⟩ => ⟨⟨_, _, a⟩, b⟩)
  (fun s hs hq w hw => by obtain ⟨ev, hv, hev⟩ := swErrR hw; exact (Any.strconv_Atoi_range Tryd.laysC172 s (by omega) hq ev w hv hev).mono fun e w' ⟨N, a, _, _, b⟩ => ⟨⟨_, _, a⟩, b⟩) n
noncomputable def cx11 (X : Type) (n : Nat) : Cx X := mkCx tab.get [(11, Tryd.f11)] [(19, orcOf [(.int .i64), (.int .i64)] (.many [(.int .i64), (.agg [(.int .i64), (.int .i64)])]) (fun x => F.num_fault n x.1 x.2.1)), (20, orcOf [(.int .i64), .str, (.int .i64), (.int .i64)] (.one (.agg [(.int .i64), (.int .i64)])) (fun x => F.class_Text n x.1 x.2.1 x.2.2.1 x.2.2.2.1)), (22, orcOf [.str] (.many [(.int .i64), .err]) (fun x => O.atoi n x.1))] [] [] [] []
theorem cx11_ok (X : Type) (n : Nat) : CxOK Tryd.prog SW (cx11 X n) := mkCx_ok mixed (tabOK tab_ok) ⟨⟨Tryd.func11, by decide⟩, trivial⟩ ⟨orcOf_ok (ok19 n),
  orcOf_ok (ok20 n),
  orcOf_ok (ok22 n), trivial⟩ ⟨okC_mk rfl (by kernel_rfl) (castP (by kernel_rfl) (show True from trivial)) (castP (by kernel_rfl) (show True from trivial)), trivial⟩ trivial
theorem ok11 (n : Nat) : FnOK Tryd.prog SW 11 [.str, (.int .i64), (.int .i64)] (.many [(.int .i64), (.agg [(.int .i64), (.int .i64)])]) (fun x => F.num_Parse n x.1 x.2.1 x.2.2.1) := fnOK_of WOf.st (cx11_ok _ n) (d := 8) (fun x => by kernel_rfl)
noncomputable def cx8 (X : Type) (n : Nat) : Cx X := mkCx tab.get [(8, Tryd.f8)] [(9, orcOf [(.int .i64)] (.many [.str, (.int .i64)]) (fun x => F.num_RateText n x.1)), (10, orcOf [.str] (.many [(.int .i64), (.agg [(.int .i64), (.int .i64)])]) (fun x => F.num_Rate n x.1)), (11, orcOf [.str, (.int .i64), (.int .i64)] (.many [(.int .i64), (.agg [(.int .i64), (.int .i64)])]) (fun x => F.num_Parse n x.1 x.2.1 x.2.2.1))] [] [] [] []
theorem cx8_ok (X : Type) (n : Nat) : CxOK Tryd.prog SW (cx8 X n) := mkCx_ok mixed (tabOK tab_ok) ⟨⟨Tryd.func8, by decide⟩, trivial⟩ ⟨orcOf_ok (ok9 n),
  orcOf_ok (ok10 n),
  orcOf_ok (ok11 n), trivial⟩ ⟨okC_mk rfl (by kernel_rfl) (castP (by kernel_rfl) (show True from trivial)) (castP (by kernel_rfl) (show True from trivial)), trivial⟩ trivial
theorem ok8 (n : Nat) : FnOK Tryd.prog SW 8 [] (.one .bool) (fun x => F.law05_awake n ) := fnOK_of WOf.st (cx8_ok _ n) (d := 8) (fun x => by kernel_rfl)
def F.law05_NumRateBack.L11.head : Shape := ⟨[(0, (.int .i64)), (1, (.int .i64)), (2, .str), (7, .str), (11, .str), (12, (.int .i64))], [[(.int .i64), (.int .i64)]], [], [], [], 1, 0, 0⟩
def F.law05_NumRateBack.L11.e0 : Shape := ⟨[(0, (.int .i64)), (2, .str), (7, .str), (11, .str)], [[(.int .i64), (.int .i64)]], [], [], [], 1, 0, 0⟩
noncomputable def F.law05_NumRateBack.L11.f {X : Type} (n m : Nat) (ks : Ks X) (s : F.law05_NumRateBack.L11.head.den) : Option X := F.law05_NumRateBack.L11 n (fun q0 q2 q7 q11 qb0_0 qb0_1 => ks.ex 0 (F.law05_NumRateBack.L11.e0.e ((q0, q2, q7, q11, ()), ((qb0_0, qb0_1, ()), ()), (), ())) (F.law05_NumRateBack.L11.e0.h ((q0, q2, q7, q11, ()), ((qb0_0, qb0_1, ()), ()), (), ()))) m s.1.1 s.1.2.1 s.1.2.2.1 s.1.2.2.2.1 s.1.2.2.2.2.1 s.1.2.2.2.2.2.1 s.2.1.1.1 s.2.1.1.2.1
noncomputable def F.law05_NumRateBack.L11.li (X : Type) (n : Nat) : LoopI X := ⟨8, ⟨0, 0, 0⟩, F.law05_NumRateBack.L11.head, [(0, F.law05_NumRateBack.L11.e0)], none, F.law05_NumRateBack.L11.f n n⟩
def F.law05_NumRateBack.L25.head : Shape := ⟨[(2, .str), (17, .str)], [[(.int .i64), (.int .i64)], [(.int .i64), (.int .i64)], [(.int .i64), (.int .i64)]], [], [], [], 3, 0, 0⟩
def F.law05_NumRateBack.L25.e2 : Shape := ⟨[(2, .str), (17, .str)], [[(.int .i64), (.int .i64)], [(.int .i64), (.int .i64)], [(.int .i64), (.int .i64)]], [], [], [], 3, 0, 0⟩
noncomputable def F.law05_NumRateBack.L25.f {X : Type} (n m : Nat) (ks : Ks X) (s : F.law05_NumRateBack.L25.head.den) : Option X := F.law05_NumRateBack.L25 n (fun q2 q17 qb0_0 qb0_1 qb1_0 qb1_1 qb2_0 qb2_1 => ks.ex 2 (F.law05_NumRateBack.L25.e2.e ((q2, q17, ()), ((qb0_0, qb0_1, ()), (qb1_0, qb1_1, ()), (qb2_0, qb2_1, ()), ()), (), ())) (F.law05_NumRateBack.L25.e2.h ((q2, q17, ()), ((qb0_0, qb0_1, ()), (qb1_0, qb1_1, ()), (qb2_0, qb2_1, ()), ()), (), ()))) m s.1.1 s.1.2.1 s.2.1.1.1 s.2.1.1.2.1 s.2.1.2.1.1 s.2.1.2.1.2.1 s.2.1.2.2.1.1 s.2.1.2.2.1.2.1
noncomputable def F.law05_NumRateBack.L25.li (X : Type) (n : Nat) : LoopI X := ⟨8, ⟨0, 0, 0⟩, F.law05_NumRateBack.L25.head, [(2, F.law05_NumRateBack.L25.e2)], none, F.law05_NumRateBack.L25.f n n⟩
def F.law05_NumRateBack.L25_1.head : Shape := ⟨[(2, .str), (17, .str)], [[(.int .i64), (.int .i64)], [(.int .i64), (.int .i64)]], [], [], [], 2, 0, 0⟩
def F.law05_NumRateBack.L25_1.e2 : Shape := ⟨[(2, .str), (17, .str)], [[(.int .i64), (.int .i64)], [(.int .i64), (.int .i64)]], [], [], [], 2, 0, 0⟩
noncomputable def F.law05_NumRateBack.L25_1.f {X : Type} (n m : Nat) (ks : Ks X) (s : F.law05_NumRateBack.L25_1.head.den) : Option X := F.law05_NumRateBack.L25_1 n (fun q2 q17 qb0_0 qb0_1 qb1_0 qb1_1 => ks.ex 2 (F.law05_NumRateBack.L25_1.e2.e ((q2, q17, ()), ((qb0_0, qb0_1, ()), (qb1_0, qb1_1, ()), ()), (), ())) (F.law05_NumRateBack.L25_1.e2.h ((q2, q17, ()), ((qb0_0, qb0_1, ()), (qb1_0, qb1_1, ()), ()), (), ()))) m s.1.1 s.1.2.1 s.2.1.1.1 s.2.1.1.2.1 s.2.1.2.1.1 s.2.1.2.1.2.1
noncomputable def F.law05_NumRateBack.L25_1.li (X : Type) (n : Nat) : LoopI X := ⟨8, ⟨0, 0, 0⟩, F.law05_NumRateBack.L25_1.head, [(2, F.law05_NumRateBack.L25_1.e2)], none, F.law05_NumRateBack.L25_1.f n n⟩
def F.law05_NumRateBack.L25_2.head : Shape := ⟨[(2, .str), (17, .str)], [[(.int .i64), (.int .i64)]], [], [], [], 1, 0, 0⟩
def F.law05_NumRateBack.L25_2.e2 : Shape := ⟨[(2, .str), (17, .str)], [[(.int .i64), (.int .i64)]], [], [], [], 1, 0, 0⟩
noncomputable def F.law05_NumRateBack.L25_2.f {X : Type} (n m : Nat) (ks : Ks X) (s : F.law05_NumRateBack.L25_2.head.den) : Option X := F.law05_NumRateBack.L25_2 n (fun q2 q17 qb0_0 qb0_1 => ks.ex 2 (F.law05_NumRateBack.L25_2.e2.e ((q2, q17, ()), ((qb0_0, qb0_1, ()), ()), (), ())) (F.law05_NumRateBack.L25_2.e2.h ((q2, q17, ()), ((qb0_0, qb0_1, ()), ()), (), ()))) m s.1.1 s.1.2.1 s.2.1.1.1 s.2.1.1.2.1
noncomputable def F.law05_NumRateBack.L25_2.li (X : Type) (n : Nat) : LoopI X := ⟨8, ⟨0, 0, 0⟩, F.law05_NumRateBack.L25_2.head, [(2, F.law05_NumRateBack.L25_2.e2)], none, F.law05_NumRateBack.L25_2.f n n⟩
noncomputable def cx3 (X : Type) (n : Nat) : Cx X := mkCx tab.get [(3, Tryd.f3)] [(8, orcOf [] (.one .bool) (fun x => F.law05_awake n )), (9, orcOf [(.int .i64)] (.many [.str, (.int .i64)]) (fun x => F.num_RateText n x.1)), (10, orcOf [.str] (.many [(.int .i64), (.agg [(.int .i64), (.int .i64)])]) (fun x => F.num_Rate n x.1))] [(3, 11, [F.law05_NumRateBack.L11.li X n]), (3, 25, [F.law05_NumRateBack.L25.li X n, F.law05_NumRateBack.L25_1.li X n, F.law05_NumRateBack.L25_2.li X n])] [] [] []
theorem F.law05_NumRateBack.L11.ok (X : Type) (n : Nat) : LoopOK (cx3 X n) 3 Tryd.f3.ntmps (loopNo Tryd.f3 0) (F.law05_NumRateBack.L11.li X n) :=
  ⟨F.law05_NumRateBack.L11.f n, n, fun _ _ => rfl, fun _ _ => rfl, fun m ks s => by kernel_rfl⟩
theorem F.law05_NumRateBack.L25.ok (X : Type) (n : Nat) : LoopOK (cx3 X n) 3 Tryd.f3.ntmps (loopNo Tryd.f3 1) (F.law05_NumRateBack.L25.li X n) :=
  ⟨F.law05_NumRateBack.L25.f n, n, fun _ _ => rfl, fun _ _ => rfl, fun m ks s => by kernel_rfl⟩
theorem F.law05_NumRateBack.L25_1.ok (X : Type) (n : Nat) : LoopOK (cx3 X n) 3 Tryd.f3.ntmps (loopNo Tryd.f3 1) (F.law05_NumRateBack.L25_1.li X n) :=
  ⟨F.law05_NumRateBack.L25_1.f n, n, fun _ _ => rfl, fun _ _ => rfl, fun m ks s => by kernel_rfl⟩
theorem F.law05_NumRateBack.L25_2.ok (X : Type) (n : Nat) : LoopOK (cx3 X n) 3 Tryd.f3.ntmps (loopNo Tryd.f3 1) (F.law05_NumRateBack.L25_2.li X n) :=
  ⟨F.law05_NumRateBack.L25_2.f n, n, fun _ _ => rfl, fun _ _ => rfl, fun m ks s => by kernel_rfl⟩
theorem cx3_ok (X : Type) (n : Nat) : CxOK Tryd.prog SW (cx3 X n) := mkCx_ok mixed (tabOK tab_ok) ⟨⟨Tryd.func3, by decide⟩, trivial⟩ ⟨orcOf_ok (ok8 n),
  orcOf_ok (ok9 n),
  orcOf_ok (ok10 n), trivial⟩ ⟨okC_mk rfl (by kernel_rfl) (castP (by kernel_rfl) (show (LoopOK (cx3 X n) 3 Tryd.f3.ntmps (loopNo Tryd.f3 0) (F.law05_NumRateBack.L11.li X n) ∧ True) ∧ (LoopOK (cx3 X n) 3 Tryd.f3.ntmps (loopNo Tryd.f3 1) (F.law05_NumRateBack.L25.li X n) ∧ LoopOK (cx3 X n) 3 Tryd.f3.ntmps (loopNo Tryd.f3 1) (F.law05_NumRateBack.L25_1.li X n) ∧ LoopOK (cx3 X n) 3 Tryd.f3.ntmps (loopNo Tryd.f3 1) (F.law05_NumRateBack.L25_2.li X n) ∧ True) ∧ True from ⟨⟨F.law05_NumRateBack.L11.ok X n, trivial⟩, ⟨F.law05_NumRateBack.L25.ok X n, F.law05_NumRateBack.L25_1.ok X n, F.law05_NumRateBack.L25_2.ok X n, trivial⟩, trivial⟩)) (castP (by kernel_rfl) (show True from trivial)), trivial⟩ trivial
theorem ok3 (n : Nat) : FnOK Tryd.prog SW 3 [(.int .i64), (.int .i64), .str] (.one .bool) (fun x => F.law05_NumRateBack n x.1 x.2.1 x.2.2.1) := fnOK_of WOf.st (cx3_ok _ n) (d := 8) (fun x => by kernel_rfl)
noncomputable def cx45 (X : Type) (n : Nat) : Cx X := mkCx tab.get [(45, Tryd.f45)] [] [] [] [] []
theorem cx45_ok (X : Type) (n : Nat) : CxOK Tryd.prog SW (cx45 X n) := mkCx_ok mixed (tabOK tab_ok) ⟨⟨Tryd.func45, by decide⟩, trivial⟩ trivial ⟨okC_mk rfl (by kernel_rfl) (castP (by kernel_rfl) (show True from trivial)) (castP (by kernel_rfl) (show True from trivial)), trivial⟩ trivial
theorem ok45 (n : Nat) : FnOK Tryd.prog SW 45 [(.int .i64)] (.one .str) (fun x => F.ref04_Bytes n x.1) := fnOK_of WOf.st (cx45_ok _ n) (d := 8) (fun x => by kernel_rfl)
def F.ref04_Is.L3.head : Shape := ⟨[(1, (.int .u8)), (5, .str), (6, (.int .i64))], [], [], [], [], 0, 0, 0⟩
def F.ref04_Is.L3.e0 : Shape := ⟨[], [], [], [], [], 0, 0, 0⟩
def F.ref04_Is.L3.er : Shape := ⟨[(4, .bool)], [], [], [], [], 0, 0, 0⟩
noncomputable def F.ref04_Is.L3.f {X : Type} (n m : Nat) (ks : Ks X) (s : F.ref04_Is.L3.head.den) : Option X := F.ref04_Is.L3 n (fun (_ : Unit) => ks.ex 0 (F.ref04_Is.L3.e0.e ((), (), (), ())) (F.ref04_Is.L3.e0.h ((), (), (), ()))) (fun q4 => ks.ret (F.ref04_Is.L3.er.e ((q4, ()), (), (), ())) (F.ref04_Is.L3.er.h ((q4, ()), (), (), ()))) m s.1.1 s.1.2.1 s.1.2.2.1
noncomputable def F.ref04_Is.L3.li (X : Type) (n : Nat) : LoopI X := ⟨8, ⟨0, 0, 0⟩, F.ref04_Is.L3.head, [(0, F.ref04_Is.L3.e0)], some F.ref04_Is.L3.er, F.ref04_Is.L3.f n n⟩
noncomputable def cx33 (X : Type) (n : Nat) : Cx X := mkCx tab.get [(33, Tryd.f33)] [(45, orcOf [(.int .i64)] (.one .str) (fun x => F.ref04_Bytes n x.1))] [(33, 3, [F.ref04_Is.L3.li X n])] [] [] []
theorem F.ref04_Is.L3.ok (X : Type) (n : Nat) : LoopOK (cx33 X n) 33 Tryd.f33.ntmps (loopNo Tryd.f33 0) (F.ref04_Is.L3.li X n) :=
  ⟨F.ref04_Is.L3.f n, n, fun _ _ => rfl, fun _ _ => rfl, fun m ks s => by kernel_rfl⟩
theorem cx33_ok (X : Type) (n : Nat) : CxOK Tryd.prog SW (cx33 X n) := mkCx_ok mixed (tabOK tab_ok) ⟨⟨Tryd.func33, by decide⟩, trivial⟩ ⟨orcOf_ok (ok45 n), trivial⟩ ⟨okC_mk rfl (by kernel_rfl) (castP (by kernel_rfl) (show (LoopOK (cx33 X n) 33 Tryd.f33.ntmps (loopNo Tryd.f33 0) (F.ref04_Is.L3.li X n) ∧ True) ∧ True from ⟨⟨F.ref04_Is.L3.ok X n, trivial⟩, trivial⟩)) (castP (by kernel_rfl) (show True from trivial)), trivial⟩ trivial
theorem ok33 (n : Nat) : FnOK Tryd.prog SW 33 [(.int .i64), (.int .u8)] (.one .bool) (fun x => F.ref04_Is n x.1 x.2.1) := fnOK_of WOf.st (cx33_ok _ n) (d := 8) (fun x => by kernel_rfl)
def F.ref04_Bad.L2.head : Shape := ⟨[(0, (.int .i64)), (1, .str), (5, (.int .i64))], [], [], [], [], 0, 0, 0⟩
def F.ref04_Bad.L2.e0 : Shape := ⟨[], [], [], [], [], 0, 0, 0⟩
def F.ref04_Bad.L2.er : Shape := ⟨[(4, (.int .i64))], [], [], [], [], 0, 0, 0⟩
noncomputable def F.ref04_Bad.L2.f {X : Type} (n m : Nat) (ks : Ks X) (s : F.ref04_Bad.L2.head.den) : Option X := F.ref04_Bad.L2 n (fun (_ : Unit) => ks.ex 0 (F.ref04_Bad.L2.e0.e ((), (), (), ())) (F.ref04_Bad.L2.e0.h ((), (), (), ()))) (fun q4 => ks.ret (F.ref04_Bad.L2.er.e ((q4, ()), (), (), ())) (F.ref04_Bad.L2.er.h ((q4, ()), (), (), ()))) m s.1.1 s.1.2.1 s.1.2.2.1
noncomputable def F.ref04_Bad.L2.li (X : Type) (n : Nat) : LoopI X := ⟨8, ⟨0, 0, 0⟩, F.ref04_Bad.L2.head, [(0, F.ref04_Bad.L2.e0)], some F.ref04_Bad.L2.er, F.ref04_Bad.L2.f n n⟩
noncomputable def cx23 (X : Type) (n : Nat) : Cx X := mkCx tab.get [(23, Tryd.f23)] [(33, orcOf [(.int .i64), (.int .u8)] (.one .bool) (fun x => F.ref04_Is n x.1 x.2.1))] [(23, 2, [F.ref04_Bad.L2.li X n])] [] [] []
theorem F.ref04_Bad.L2.ok (X : Type) (n : Nat) : LoopOK (cx23 X n) 23 Tryd.f23.ntmps (loopNo Tryd.f23 0) (F.ref04_Bad.L2.li X n) :=
  ⟨F.ref04_Bad.L2.f n, n, fun _ _ => rfl, fun _ _ => rfl, fun m ks s => by kernel_rfl⟩
theorem cx23_ok (X : Type) (n : Nat) : CxOK Tryd.prog SW (cx23 X n) := mkCx_ok mixed (tabOK tab_ok) ⟨⟨Tryd.func23, by decide⟩, trivial⟩ ⟨orcOf_ok (ok33 n), trivial⟩ ⟨okC_mk rfl (by kernel_rfl) (castP (by kernel_rfl) (show (LoopOK (cx23 X n) 23 Tryd.f23.ntmps (loopNo Tryd.f23 0) (F.ref04_Bad.L2.li X n) ∧ True) ∧ True from ⟨⟨F.ref04_Bad.L2.ok X n, trivial⟩, trivial⟩)) (castP (by kernel_rfl) (show True from trivial)), trivial⟩ trivial
theorem ok23 (n : Nat) : FnOK Tryd.prog SW 23 [(.int .i64), .str] (.one (.int .i64)) (fun x => F.ref04_Bad n x.1 x.2.1) := fnOK_of WOf.st (cx23_ok _ n) (d := 8) (fun x => by kernel_rfl)
def F.ref05_Value.L3.head : Shape := ⟨[(0, .str), (4, (.int .i64)), (5, (.int .i64))], [], [], [], [], 0, 0, 0⟩
def F.ref05_Value.L3.e0 : Shape := ⟨[(4, (.int .i64))], [], [], [], [], 0, 0, 0⟩
def F.ref05_Value.L3.er : Shape := ⟨[(2, (.int .i64)), (3, .bool)], [], [], [], [], 0, 0, 0⟩
noncomputable def F.ref05_Value.L3.f {X : Type} (n m : Nat) (ks : Ks X) (s : F.ref05_Value.L3.head.den) : Option X := F.ref05_Value.L3 n (fun q4 => ks.ex 0 (F.ref05_Value.L3.e0.e ((q4, ()), (), (), ())) (F.ref05_Value.L3.e0.h ((q4, ()), (), (), ()))) (fun q2 q3 => ks.ret (F.ref05_Value.L3.er.e ((q2, q3, ()), (), (), ())) (F.ref05_Value.L3.er.h ((q2, q3, ()), (), (), ()))) m s.1.1 s.1.2.1 s.1.2.2.1
noncomputable def F.ref05_Value.L3.li (X : Type) (n : Nat) : LoopI X := ⟨8, ⟨0, 0, 0⟩, F.ref05_Value.L3.head, [(0, F.ref05_Value.L3.e0)], some F.ref05_Value.L3.er, F.ref05_Value.L3.f n n⟩
noncomputable def cx24 (X : Type) (n : Nat) : Cx X := mkCx tab.get [(24, Tryd.f24)] [] [(24, 3, [F.ref05_Value.L3.li X n])] [] [] []
theorem F.ref05_Value.L3.ok (X : Type) (n : Nat) : LoopOK (cx24 X n) 24 Tryd.f24.ntmps (loopNo Tryd.f24 0) (F.ref05_Value.L3.li X n) :=
  ⟨F.ref05_Value.L3.f n, n, fun _ _ => rfl, fun _ _ => rfl, fun m ks s => by kernel_rfl⟩
theorem cx24_ok (X : Type) (n : Nat) : CxOK Tryd.prog SW (cx24 X n) := mkCx_ok mixed (tabOK tab_ok) ⟨⟨Tryd.func24, by decide⟩, trivial⟩ trivial ⟨okC_mk rfl (by kernel_rfl) (castP (by kernel_rfl) (show (LoopOK (cx24 X n) 24 Tryd.f24.ntmps (loopNo Tryd.f24 0) (F.ref05_Value.L3.li X n) ∧ True) ∧ True from ⟨⟨F.ref05_Value.L3.ok X n, trivial⟩, trivial⟩)) (castP (by kernel_rfl) (show True from trivial)), trivial⟩ trivial
theorem ok24 (n : Nat) : FnOK Tryd.prog SW 24 [.str] (.many [(.int .i64), .bool]) (fun x => F.ref05_Value n x.1) := fnOK_of WOf.st (cx24_ok _ n) (d := 8) (fun x => by kernel_rfl)
noncomputable def cx12 (X : Type) (n : Nat) : Cx X := mkCx tab.get [(12, Tryd.f12)] [(23, orcOf [(.int .i64), .str] (.one (.int .i64)) (fun x => F.ref04_Bad n x.1 x.2.1)), (24, orcOf [.str] (.many [(.int .i64), .bool]) (fun x => F.ref05_Value n x.1))] [] [] [] []
theorem cx12_ok (X : Type) (n : Nat) : CxOK Tryd.prog SW (cx12 X n) := mkCx_ok mixed (tabOK tab_ok) ⟨⟨Tryd.func12, by decide⟩, trivial⟩ ⟨orcOf_ok (ok23 n),
  orcOf_ok (ok24 n), trivial⟩ ⟨okC_mk rfl (by kernel_rfl) (castP (by kernel_rfl) (show True from trivial)) (castP (by kernel_rfl) (show True from trivial)), trivial⟩ trivial
theorem ok12 (n : Nat) : FnOK Tryd.prog SW 12 [.str, (.int .i64), (.int .i64)] (.many [(.int .i64), (.agg [(.int .i64), (.int .i64)])]) (fun x => F.ref05_Parse n x.1 x.2.1 x.2.2.1) := fnOK_of WOf.st (cx12_ok _ n) (d := 8) (fun x => by kernel_rfl)
noncomputable def cx13 (X : Type) (n : Nat) : Cx X := mkCx tab.get [(13, Tryd.f13)] [(11, orcOf [.str, (.int .i64), (.int .i64)] (.many [(.int .i64), (.agg [(.int .i64), (.int .i64)])]) (fun x => F.num_Parse n x.1 x.2.1 x.2.2.1))] [] [] [] []
theorem cx13_ok (X : Type) (n : Nat) : CxOK Tryd.prog SW (cx13 X n) := mkCx_ok mixed (tabOK tab_ok) ⟨⟨Tryd.func13, by decide⟩, trivial⟩ ⟨orcOf_ok (ok11 n), trivial⟩ ⟨okC_mk rfl (by kernel_rfl) (castP (by kernel_rfl) (show True from trivial)) (castP (by kernel_rfl) (show True from trivial)), trivial⟩ trivial
theorem ok13 (n : Nat) : FnOK Tryd.prog SW 13 [.str] (.many [(.int .i64), (.agg [(.int .i64), (.int .i64)])]) (fun x => F.num_Time n x.1) := fnOK_of WOf.st (cx13_ok _ n) (d := 8) (fun x => by kernel_rfl)
noncomputable def cx4 (X : Type) (n : Nat) : Cx X := mkCx tab.get [(4, Tryd.f4)] [(8, orcOf [] (.one .bool) (fun x => F.law05_awake n )), (11, orcOf [.str, (.int .i64), (.int .i64)] (.many [(.int .i64), (.agg [(.int .i64), (.int .i64)])]) (fun x => F.num_Parse n x.1 x.2.1 x.2.2.1)), (12, orcOf [.str, (.int .i64), (.int .i64)] (.many [(.int .i64), (.agg [(.int .i64), (.int .i64)])]) (fun x => F.ref05_Parse n x.1 x.2.1 x.2.2.1)), (13, orcOf [.str] (.many [(.int .i64), (.agg [(.int .i64), (.int .i64)])]) (fun x => F.num_Time n x.1))] [] [] [] []
theorem cx4_ok (X : Type) (n : Nat) : CxOK Tryd.prog SW (cx4 X n) := mkCx_ok mixed (tabOK tab_ok) ⟨⟨Tryd.func4, by decide⟩, trivial⟩ ⟨orcOf_ok (ok8 n),
  orcOf_ok (ok11 n),
  orcOf_ok (ok12 n),
  orcOf_ok (ok13 n), trivial⟩ ⟨okC_mk rfl (by kernel_rfl) (castP (by kernel_rfl) (show True from trivial)) (castP (by kernel_rfl) (show True from trivial)), trivial⟩ trivial
theorem ok4 (n : Nat) : FnOK Tryd.prog SW 4 [.str, (.int .i64), (.int .i64)] (.one .bool) (fun x => F.law05_NumParses n x.1 x.2.1 x.2.2.1) := fnOK_of WOf.st (cx4_ok _ n) (d := 8) (fun x => by kernel_rfl)
noncomputable def cx14 (X : Type) (n : Nat) : Cx X := mkCx tab.get [(14, Tryd.f14)] [(17, orcOf [(.int .i64)] (.one .str) (fun x => O.itoa n x.1))] [] [] [] []
theorem cx14_ok (X : Type) (n : Nat) : CxOK Tryd.prog SW (cx14 X n) := mkCx_ok mixed (tabOK tab_ok) ⟨⟨Tryd.func14, by decide⟩, trivial⟩ ⟨orcOf_ok (ok17 n), trivial⟩ ⟨okC_mk rfl (by kernel_rfl) (castP (by kernel_rfl) (show True from trivial)) (castP (by kernel_rfl) (show True from trivial)), trivial⟩ trivial
theorem ok14 (n : Nat) : FnOK Tryd.prog SW 14 [(.int .i64)] (.many [.str, (.int .i64)]) (fun x => F.num_Text n x.1) := fnOK_of WOf.st (cx14_ok _ n) (d := 8) (fun x => by kernel_rfl)
noncomputable def cx16 (X : Type) (n : Nat) (m : Nat) : Cx X := mkCx tab.get [(16, Tryd.f16)] [(16, orcOf [(.int .u64)] (.one .str) (fun x => F.ref05_Digits.go n m x.1))] [] [] [] []
theorem cx16_ok (X : Type) (n : Nat) (m : Nat) (ih : FnOK Tryd.prog SW 16 [(.int .u64)] (.one .str) (fun x => F.ref05_Digits.go n m x.1)) : CxOK Tryd.prog SW (cx16 X n m) := mkCx_ok mixed (tabOK tab_ok) ⟨⟨Tryd.func16, by decide⟩, trivial⟩ ⟨orcOf_ok (ih), trivial⟩ ⟨okC_mk rfl (by kernel_rfl) (castP (by kernel_rfl) (show True from trivial)) (castP (by kernel_rfl) (show True from trivial)), trivial⟩ trivial
theorem ok16_go (n : Nat) : ∀ m : Nat, FnOK Tryd.prog SW 16 [(.int .u64)] (.one .str) (fun x => F.ref05_Digits.go n m x.1)
  | 0 => fun x y hy => by cases hy
  | m + 1 => fnOK_of WOf.st (cx16_ok _ n m (ok16_go n m)) (d := 8) (fun x => by kernel_rfl)
theorem ok16 (n : Nat) : FnOK Tryd.prog SW 16 [(.int .u64)] (.one .str) (fun x => F.ref05_Digits n x.1) := ok16_go n n
def F.ref05_RateText.L4.head : Shape := ⟨[(3, .str)], [], [], [], [], 0, 0, 0⟩
def F.ref05_RateText.L4.e0 : Shape := ⟨[(3, .str)], [], [], [], [], 0, 0, 0⟩
noncomputable def F.ref05_RateText.L4.f {X : Type} (n m : Nat) (ks : Ks X) (s : F.ref05_RateText.L4.head.den) : Option X := F.ref05_RateText.L4 n (fun q3 => ks.ex 0 (F.ref05_RateText.L4.e0.e ((q3, ()), (), (), ())) (F.ref05_RateText.L4.e0.h ((q3, ()), (), (), ()))) m s.1.1
noncomputable def F.ref05_RateText.L4.li (X : Type) (n : Nat) : LoopI X := ⟨8, ⟨0, 0, 0⟩, F.ref05_RateText.L4.head, [(0, F.ref05_RateText.L4.e0)], none, F.ref05_RateText.L4.f n n⟩
def F.ref05_RateText.L6.head : Shape := ⟨[(3, .str)], [], [], [], [], 0, 0, 0⟩
def F.ref05_RateText.L6.e2 : Shape := ⟨[(3, .str)], [], [], [], [], 0, 0, 0⟩
noncomputable def F.ref05_RateText.L6.f {X : Type} (n m : Nat) (ks : Ks X) (s : F.ref05_RateText.L6.head.den) : Option X := F.ref05_RateText.L6 n (fun q3 => ks.ex 2 (F.ref05_RateText.L6.e2.e ((q3, ()), (), (), ())) (F.ref05_RateText.L6.e2.h ((q3, ()), (), (), ()))) m s.1.1
noncomputable def F.ref05_RateText.L6.li (X : Type) (n : Nat) : LoopI X := ⟨8, ⟨0, 0, 0⟩, F.ref05_RateText.L6.head, [(2, F.ref05_RateText.L6.e2)], none, F.ref05_RateText.L6.f n n⟩
noncomputable def cx15 (X : Type) (n : Nat) : Cx X := mkCx tab.get [(15, Tryd.f15)] [(16, orcOf [(.int .u64)] (.one .str) (fun x => F.ref05_Digits n x.1))] [(15, 4, [F.ref05_RateText.L4.li X n]), (15, 6, [F.ref05_RateText.L6.li X n])] [] [] []
theorem F.ref05_RateText.L4.ok (X : Type) (n : Nat) : LoopOK (cx15 X n) 15 Tryd.f15.ntmps (loopNo Tryd.f15 0) (F.ref05_RateText.L4.li X n) :=
  ⟨F.ref05_RateText.L4.f n, n, fun _ _ => rfl, fun _ _ => rfl, fun m ks s => by kernel_rfl⟩
theorem F.ref05_RateText.L6.ok (X : Type) (n : Nat) : LoopOK (cx15 X n) 15 Tryd.f15.ntmps (loopNo Tryd.f15 1) (F.ref05_RateText.L6.li X n) :=
  ⟨F.ref05_RateText.L6.f n, n, fun _ _ => rfl, fun _ _ => rfl, fun m ks s => by kernel_rfl⟩
theorem cx15_ok (X : Type) (n : Nat) : CxOK Tryd.prog SW (cx15 X n) := mkCx_ok mixed (tabOK tab_ok) ⟨⟨Tryd.func15, by decide⟩, trivial⟩ ⟨orcOf_ok (ok16 n), trivial⟩ ⟨okC_mk rfl (by kernel_rfl) (castP (by kernel_rfl) (show (LoopOK (cx15 X n) 15 Tryd.f15.ntmps (loopNo Tryd.f15 0) (F.ref05_RateText.L4.li X n) ∧ True) ∧ (LoopOK (cx15 X n) 15 Tryd.f15.ntmps (loopNo Tryd.f15 1) (F.ref05_RateText.L6.li X n) ∧ True) ∧ True from ⟨⟨F.ref05_RateText.L4.ok X n, trivial⟩, ⟨F.ref05_RateText.L6.ok X n, trivial⟩, trivial⟩)) (castP (by kernel_rfl) (show True from trivial)), trivial⟩ trivial
theorem ok15 (n : Nat) : FnOK Tryd.prog SW 15 [(.int .i64)] (.one .str) (fun x => F.ref05_RateText n x.1) := fnOK_of WOf.st (cx15_ok _ n) (d := 8) (fun x => by kernel_rfl)
noncomputable def cx5 (X : Type) (n : Nat) : Cx X := mkCx tab.get [(5, Tryd.f5)] [(8, orcOf [] (.one .bool) (fun x => F.law05_awake n )), (9, orcOf [(.int .i64)] (.many [.str, (.int .i64)]) (fun x => F.num_RateText n x.1)), (14, orcOf [(.int .i64)] (.many [.str, (.int .i64)]) (fun x => F.num_Text n x.1)), (15, orcOf [(.int .i64)] (.one .str) (fun x => F.ref05_RateText n x.1)), (16, orcOf [(.int .u64)] (.one .str) (fun x => F.ref05_Digits n x.1))] [] [] [] []
theorem cx5_ok (X : Type) (n : Nat) : CxOK Tryd.prog SW (cx5 X n) := mkCx_ok mixed (tabOK tab_ok) ⟨⟨Tryd.func5, by decide⟩, trivial⟩ ⟨orcOf_ok (ok8 n),
  orcOf_ok (ok9 n),
  orcOf_ok (ok14 n),
  orcOf_ok (ok15 n),
  orcOf_ok (ok16 n), trivial⟩ ⟨okC_mk rfl (by kernel_rfl) (castP (by kernel_rfl) (show True from trivial)) (castP (by kernel_rfl) (show True from trivial)), trivial⟩ trivial
theorem ok5 (n : Nat) : FnOK Tryd.prog SW 5 [(.int .i64)] (.one .bool) (fun x => F.law05_NumTexts n x.1) := fnOK_of WOf.st (cx5_ok _ n) (d := 8) (fun x => by kernel_rfl)
noncomputable def cx6 (X : Type) (n : Nat) : Cx X := mkCx tab.get [(6, Tryd.f6)] [(8, orcOf [] (.one .bool) (fun x => F.law05_awake n )), (11, orcOf [.str, (.int .i64), (.int .i64)] (.many [(.int .i64), (.agg [(.int .i64), (.int .i64)])]) (fun x => F.num_Parse n x.1 x.2.1 x.2.2.1)), (14, orcOf [(.int .i64)] (.many [.str, (.int .i64)]) (fun x => F.num_Text n x.1))] [] [] [] []
theorem cx6_ok (X : Type) (n : Nat) : CxOK Tryd.prog SW (cx6 X n) := mkCx_ok mixed (tabOK tab_ok) ⟨⟨Tryd.func6, by decide⟩, trivial⟩ ⟨orcOf_ok (ok8 n),
  orcOf_ok (ok11 n),
  orcOf_ok (ok14 n), trivial⟩ ⟨okC_mk rfl (by kernel_rfl) (castP (by kernel_rfl) (show True from trivial)) (castP (by kernel_rfl) (show True from trivial)), trivial⟩ trivial
theorem ok6 (n : Nat) : FnOK Tryd.prog SW 6 [(.int .i64), .str] (.one .bool) (fun x => F.law05_NumBack n x.1 x.2.1) := fnOK_of WOf.st (cx6_ok _ n) (d := 8) (fun x => by kernel_rfl)
noncomputable def cx7 (X : Type) (n : Nat) : Cx X := mkCx tab.get [(7, Tryd.f7)] [(8, orcOf [] (.one .bool) (fun x => F.law05_awake n )), (9, orcOf [(.int .i64)] (.many [.str, (.int .i64)]) (fun x => F.num_RateText n x.1)), (14, orcOf [(.int .i64)] (.many [.str, (.int .i64)]) (fun x => F.num_Text n x.1))] [] [] [] []
theorem cx7_ok (X : Type) (n : Nat) : CxOK Tryd.prog SW (cx7 X n) := mkCx_ok mixed (tabOK tab_ok) ⟨⟨Tryd.func7, by decide⟩, trivial⟩ ⟨orcOf_ok (ok8 n),
  orcOf_ok (ok9 n),
  orcOf_ok (ok14 n), trivial⟩ ⟨okC_mk rfl (by kernel_rfl) (castP (by kernel_rfl) (show True from trivial)) (castP (by kernel_rfl) (show True from trivial)), trivial⟩ trivial
theorem ok7 (n : Nat) : FnOK Tryd.prog SW 7 [(.agg [(.int .i64), (.int .i64)]), (.agg [(.int .i64), (.int .i64)])] (.one .bool) (fun x => F.law05_NumOrders n x.1 x.2.1) := fnOK_of WOf.st (cx7_ok _ n) (d := 8) (fun x => by kernel_rfl)
end Go.AM
set_option linter.unusedVariables false
set_option linter.unusedSimpArgs false
namespace Go.AM
def isDig (b : UInt8) : Bool := decide (48 ≤ b.toNat) && decide (b.toNat ≤ 57)
def dv (b : UInt8) : Nat := b.toNat - 48
def valF (a : Nat) (l : List UInt8) : Nat := l.foldl (fun a b => a * 10 + dv b) a
theorem valF_nil (a : Nat) : valF a [] = a := rfl
theorem valF_cons (a : Nat) (b : UInt8) (l : List UInt8) : valF a (b :: l) = valF (a * 10 + dv b) l := by unfold valF; rw [List.foldl_cons]
def val (l : List UInt8) : Nat := valF 0 l
def Digs (l : List UInt8) : Prop := l.all isDig = true
theorem isDig_iff {b : UInt8} : isDig b = true ↔ 48 ≤ b.toNat ∧ b.toNat ≤ 57 := by simp [isDig]
theorem digs_cons {b : UInt8} {l : List UInt8} : Digs (b :: l) ↔ isDig b = true ∧ Digs l := by simp [Digs]
theorem digs_nil : Digs [] := rfl
theorem digs_append {l m : List UInt8} : Digs (l ++ m) ↔ Digs l ∧ Digs m := by simp [Digs]
theorem digs_rep (k : Nat) : Digs (List.replicate k 48) := by
  unfold Digs
  rw [List.all_eq_true]
  intro x hx
  rw [List.eq_of_mem_replicate hx]
  rfl
theorem digs_drop {l : List UInt8} (k : Nat) (h : Digs l) : Digs (l.drop k) := by
  unfold Digs at h ⊢
  rw [List.all_eq_true] at h ⊢
  exact fun x hx => h x (List.mem_of_mem_drop hx)
theorem digs_take {l : List UInt8} (k : Nat) (h : Digs l) : Digs (l.take k) := by
  unfold Digs at h ⊢
  rw [List.all_eq_true] at h ⊢
  exact fun x hx => h x (List.mem_of_mem_take hx)
theorem dv_lt {b : UInt8} (h : isDig b = true) : dv b < 10 := by
  have := isDig_iff.1 h
  unfold dv
  omega
theorem u8_ext {a b : UInt8} (h : a.toNat = b.toNat) : a = b := UInt8.toNat_inj.1 h
theorem dv_inj {a b : UInt8} (ha : isDig a = true) (hb : isDig b = true) (h : dv a = dv b) : a = b := by
  have h1 := isDig_iff.1 ha
  have h2 := isDig_iff.1 hb
  unfold dv at h
  exact u8_ext (by omega)
theorem valF_eq (a : Nat) (l : List UInt8) : valF a l = a * 10 ^ l.length + val l := by
  unfold val
  induction l generalizing a with
  | nil => rw [valF_nil, valF_nil]; simp
  | cons b l ih =>
    simp only [valF_cons, List.length_cons]
    rw [ih (a * 10 + dv b), ih (0 * 10 + dv b), Nat.pow_succ, Nat.add_mul, Nat.zero_mul, Nat.zero_add, Nat.mul_assoc, Nat.mul_comm 10, Nat.add_assoc]
theorem val_nil : val [] = 0 := rfl
theorem val_cons (b : UInt8) (l : List UInt8) : val (b :: l) = dv b * 10 ^ l.length + val l := by
  show valF (0 * 10 + dv b) l = _
  rw [valF_eq, Nat.zero_mul, Nat.zero_add]
theorem val_append (l m : List UInt8) : val (l ++ m) = val l * 10 ^ m.length + val m := by
  induction l with
  | nil => simp [val_nil]
  | cons b l ih => rw [List.cons_append, val_cons, val_cons, ih, List.length_append, Nat.pow_add, Nat.add_mul, Nat.mul_assoc, Nat.add_assoc]
theorem val_snoc (l : List UInt8) (b : UInt8) : val (l ++ [b]) = val l * 10 + dv b := by rw [val_append, val_cons]; simp [val_nil]
theorem val_lt {l : List UInt8} (h : Digs l) : val l < 10 ^ l.length := by
  induction l with
  | nil => simp [val_nil]
  | cons b l ih =>
    obtain ⟨h1, h2⟩ := digs_cons.1 h
    have := ih h2
    have hd := dv_lt h1
    rw [val_cons, List.length_cons, Nat.pow_succ, Nat.mul_comm (10 ^ l.length)]
    have h3 : dv b * 10 ^ l.length ≤ 9 * 10 ^ l.length := Nat.mul_le_mul_right _ (by omega)
    omega
theorem dv_48 : dv 48 = 0 := rfl
theorem val_rep (k : Nat) : val (List.replicate k 48) = 0 := by
  induction k with
  | zero => rfl
  | succ k ih => rw [List.replicate_succ, val_cons, ih, dv_48]; simp
theorem val_zeros_left (k : Nat) (l : List UInt8) : val (List.replicate k 48 ++ l) = val l := by rw [val_append, val_rep]; simp
theorem val_zeros_right (k : Nat) (l : List UInt8) : val (l ++ List.replicate k 48) = val l * 10 ^ k := by rw [val_append, val_rep]; simp
theorem val_eq_zero {l : List UInt8} (hd : Digs l) (h : val l = 0) : l = List.replicate l.length 48 := by
  induction l with
  | nil => rfl
  | cons b l ih =>
    obtain ⟨h1, h2⟩ := digs_cons.1 hd
    rw [val_cons] at h
    have hp : 0 < 10 ^ l.length := Nat.pow_pos (by omega)
    have h3 : dv b = 0 := by
      cases hb : dv b with
      | zero => rfl
      | succ k => rw [hb, Nat.succ_mul] at h; omega
    rw [List.length_cons, List.replicate_succ, ← ih h2 (by omega)]
    rw [dv_inj (a := b) (b := 48) h1 rfl h3]
theorem val_inj {l m : List UInt8} (hl : Digs l) (hm : Digs m) (hlen : l.length = m.length) (h : val l = val m) : l = m := by
  induction l generalizing m with
  | nil => cases m with
    | nil => rfl
    | cons => simp at hlen
  | cons b l ih => cases m with
    | nil => simp at hlen
    | cons c m =>
      obtain ⟨h1, h2⟩ := digs_cons.1 hl
      obtain ⟨h3, h4⟩ := digs_cons.1 hm
      have hlen : l.length = m.length := by simpa using hlen
      rw [val_cons, val_cons, hlen] at h
      have b1 := val_lt h2
      have b2 := val_lt h4
      rw [hlen] at b1
      have hp : 0 < 10 ^ m.length := Nat.pow_pos (by omega)
      have e : dv b = dv c := by
        have q1 := congrArg (· / 10 ^ m.length) h
        simp only [Nat.mul_comm (dv b), Nat.mul_comm (dv c), Nat.mul_add_div hp, Nat.div_eq_of_lt b1, Nat.div_eq_of_lt b2] at q1
        omega
      rw [e] at h
      rw [dv_inj h1 h3 e, ih h2 h4 hlen (by omega)]
theorem dig_of (k : Nat) (h : k < 10) : (UInt8.ofNat (48 + k)).toNat = 48 + k := by simp [UInt8.toNat_ofNat']; omega
theorem isDig_of (k : Nat) (h : k < 10) : isDig (UInt8.ofNat (48 + k)) = true := by rw [isDig_iff, dig_of k h]; omega
theorem dv_of (k : Nat) (h : k < 10) : dv (UInt8.ofNat (48 + k)) = k := by unfold dv; rw [dig_of k h]; omega
theorem dd_small {u : Nat} (h : u < 10) : Lib.decDigits u = [UInt8.ofNat (48 + u)] := Lib.decDigits_one h
theorem dd_big {u : Nat} (h : ¬ u < 10) : Lib.decDigits u = Lib.decDigits (u / 10) ++ [UInt8.ofNat (48 + u % 10)] := by rw [Lib.decDigits, dif_neg h]
theorem dd_digs (u : Nat) : Digs (Lib.decDigits u) := by
  induction u using Nat.strongRecOn with
  | _ u ih =>
    by_cases h : u < 10
    · rw [dd_small h, digs_cons]; exact ⟨isDig_of u h, rfl⟩
    · rw [dd_big h, digs_append, digs_cons]
      exact ⟨ih _ (by omega), isDig_of _ (by omega), rfl⟩
theorem dd_val (u : Nat) : val (Lib.decDigits u) = u := by
  induction u using Nat.strongRecOn with
  | _ u ih =>
    by_cases h : u < 10
    · rw [dd_small h, val_cons, dv_of u h]; simp [val_nil]
    · rw [dd_big h, val_snoc, ih _ (by omega), dv_of _ (by omega)]; omega
theorem dd_ne (u : Nat) : Lib.decDigits u ≠ [] := by
  by_cases h : u < 10
  · rw [dd_small h]; simp
  · rw [dd_big h]; simp
theorem dd_length (u : Nat) : (Lib.decDigits u).length = Lib.nDigits u := Lib.decDigits_length u
theorem dd_length_le {u k : Nat} (hk : 0 < k) (h : u < 10 ^ k) : (Lib.decDigits u).length ≤ k := by
  rw [dd_length]
  induction k generalizing u with
  | zero => omega
  | succ k ih =>
    by_cases h1 : u < 10
    · rw [Lib.nDigits_small h1]; omega
    · rw [Lib.nDigits_big h1]
      cases k with
      | zero => simp at h; omega
      | succ k =>
        have := ih (u := u / 10) (by omega) (by rw [Nat.pow_succ] at h; omega)
        omega
theorem dd_length_ge {u k : Nat} (h : 10 ^ k ≤ u) : k < (Lib.decDigits u).length := by
  rw [dd_length]
  have := Lib.lt_pow_nDigits u
  exact (Nat.pow_lt_pow_iff_right (by omega)).1 (Nat.lt_of_le_of_lt h this)
def Norm (l : List UInt8) : Prop := l ≠ [] ∧ (l.head? = some 48 → l.length = 1)
theorem dd_head (u : Nat) : Norm (Lib.decDigits u) := by
  refine ⟨dd_ne u, ?_⟩
  induction u using Nat.strongRecOn with
  | _ u ih =>
    by_cases h : u < 10
    · rw [dd_small h]; simp
    · rw [dd_big h]
      intro hh
      have hn := dd_ne (u / 10)
      rw [List.head?_append, Option.or_of_isSome (by cases e : Lib.decDigits (u / 10) with | nil => exact absurd e hn | cons => rfl)] at hh
      have h1 := ih (u / 10) (by omega) hh
      have hv := dd_val (u / 10)
      cases e : Lib.decDigits (u / 10) with
      | nil => exact absurd e hn
      | cons b r =>
        rw [e] at h1 hh hv
        have hr : r = [] := by simpa using h1
        subst hr
        have hb : b = 48 := by simpa using hh
        subst hb
        rw [val_cons, dv_48] at hv
        simp [val_nil] at hv
        omega
theorem dd_inv {l : List UInt8} (hd : Digs l) (hn : Norm l) : Lib.decDigits (val l) = l := by
  have hv := dd_val (val l)
  have h1 := dd_digs (val l)
  have h2 := dd_head (val l)
  have hlen : (Lib.decDigits (val l)).length = l.length := by
    cases l with
    | nil => exact absurd rfl hn.1
    | cons b r =>
      have hle : (Lib.decDigits (val (b :: r))).length ≤ (b :: r).length := dd_length_le (by simp) (val_lt hd)
      by_cases hb : b = 48
      · have : r = [] := by simpa using hn.2 (by simp [hb])
        subst this
        have := List.length_pos_iff.2 (dd_ne (val [b]))
        simp at hle ⊢
        omega
      · have h3 : 10 ^ r.length ≤ val (b :: r) := by
          rw [val_cons]
          have : 1 ≤ dv b := by
            cases e : dv b with
            | zero => exact absurd (dv_inj (digs_cons.1 hd).1 (b := 48) rfl e) hb
            | succ k => omega
          have := Nat.mul_le_mul_right (10 ^ r.length) this
          omega
        have := dd_length_ge h3
        simp at hle ⊢
        omega
  exact val_inj h1 hd hlen hv
theorem dd_inj {u v : Nat} (h : Lib.decDigits u = Lib.decDigits v) : u = v := by rw [← dd_val u, h, dd_val]
theorem pu10 (acc : Nat) (l : List UInt8) (hd : Digs l) (ha : acc < 18446744073709551616) : Lib.parseUint10 acc l = if valF acc l < 18446744073709551616 then .ok (valF acc l) else .range := by
  induction l generalizing acc with
  | nil => rw [valF_nil, if_pos ha]; rfl
  | cons b l ih =>
    obtain ⟨h1, h2⟩ := digs_cons.1 hd
    have hb := isDig_iff.1 h1
    have hmono : ∀ x, x ≤ valF x l := fun x => by
      rw [valF_eq]
      have : 0 < 10 ^ l.length := Nat.pow_pos (by omega)
      have := Nat.le_mul_of_pos_right x this
      omega
    have hm := hmono (acc * 10 + dv b)
    simp only [Lib.parseUint10, hb, and_self, if_true]
    rw [valF_cons]
    generalize hV : valF (acc * 10 + dv b) l = V at hm ⊢
    unfold dv at hm
    by_cases h3 : 1844674407370955162 ≤ acc
    · rw [if_pos h3, if_neg (by omega)]
    · rw [if_neg h3]
      by_cases h4 : 18446744073709551616 ≤ acc * 10 + (b.toNat - 48)
      · rw [if_pos h4, if_neg (by omega)]
      · rw [if_neg h4, ih _ h2 (by omega)]
        have : valF (acc * 10 + (b.toNat - 48)) l = V := hV
        rw [this]
theorem atoi_digs {l : List UInt8} (hd : Digs l) (hn : l ≠ []) : Lib.atoiAll l = if val l < 9223372036854775808 then .ok (val l : Int) else .range := by
  cases l with
  | nil => exact absurd rfl hn
  | cons b r =>
    have hb := isDig_iff.1 (digs_cons.1 hd).1
    simp only [Lib.atoiAll]
    rw [if_neg (by omega)]
    unfold Lib.parseMag
    rw [if_neg (by simp), pu10 0 _ hd (by omega)]
    have e : valF 0 (b :: r) = val (b :: r) := rfl
    rw [e]
    by_cases h1 : val (b :: r) < 18446744073709551616
    · rw [if_pos h1]
      simp only []
      by_cases h2 : val (b :: r) < 9223372036854775808
      · rw [if_pos h2, if_neg (by omega), if_neg (by omega), if_neg (by omega)]
      · rw [if_neg h2, if_pos (by omega)]
    · rw [if_neg h1, if_neg (by omega)]
def trz : List UInt8 → List UInt8
  | [] => []
  | b :: l => if trz l = [] then (if b = 48 then [] else [b]) else b :: trz l
theorem trimR_rep (l : List UInt8) (c : UInt8) : ∃ k, l = Lib.trimRightB l c ++ List.replicate k c ∧ (∀ x, (Lib.trimRightB l c).getLast? = some x → x ≠ c) := by
  have h := List.takeWhile_append_dropWhile (p := fun b : UInt8 => b == c) (l := l.reverse)
  refine ⟨(l.reverse.takeWhile (· == c)).length, ?_, ?_⟩
  · unfold Lib.trimRightB
    have h2 := congrArg List.reverse h
    rw [List.reverse_append, List.reverse_reverse] at h2
    have h3 : (l.reverse.takeWhile (· == c)).reverse = List.replicate (l.reverse.takeWhile (· == c)).length c := by
      rw [List.eq_replicate_iff]
      refine ⟨by simp, fun b hb => ?_⟩
      have := List.all_eq_true.1 (List.all_takeWhile (p := fun b : UInt8 => b == c) (l := l.reverse)) b (List.mem_reverse.1 hb)
      simpa using this
    rw [h3] at h2
    exact h2.symm
  · intro x hx
    unfold Lib.trimRightB at hx
    rw [List.getLast?_reverse] at hx
    have := List.head?_dropWhile_not (p := fun b : UInt8 => b == c) (l := l.reverse)
    rw [hx] at this
    simpa using this
theorem trz_rep (l : List UInt8) : ∃ k, l = trz l ++ List.replicate k 48 ∧ (∀ x, (trz l).getLast? = some x → x ≠ 48) := by
  induction l with
  | nil => exact ⟨0, rfl, by simp [trz]⟩
  | cons b l ih =>
    obtain ⟨k, h1, h2⟩ := ih
    unfold trz
    by_cases h : trz l = []
    · rw [if_pos h]
      rw [h, List.nil_append] at h1
      by_cases hb : b = 48
      · rw [if_pos hb]
        exact ⟨k + 1, by rw [List.replicate_succ, ← h1, hb]; rfl, by simp⟩
      · rw [if_neg hb]
        exact ⟨k, by rw [← h1]; rfl, by simp [hb]⟩
    · rw [if_neg h]
      refine ⟨k, by rw [List.cons_append, ← h1], ?_⟩
      intro x hx
      rw [List.getLast?_cons] at hx
      cases e : (trz l).getLast? with
      | none => simp at e; exact absurd e h
      | some y =>
        rw [e] at hx
        have hy := h2 y e
        simp at hx
        rw [← hx]; exact hy
theorem rep_uniq {a b : List UInt8} {c : UInt8} {i j : Nat} (h : a ++ List.replicate i c = b ++ List.replicate j c) (ha : ∀ x, a.getLast? = some x → x ≠ c) (hb : ∀ x, b.getLast? = some x → x ≠ c) : a = b := by
  induction i generalizing j with
  | zero =>
    cases j with
    | zero => simpa using h
    | succ j =>
      rw [List.replicate_succ', ← List.append_assoc] at h
      simp only [List.replicate_zero, List.append_nil] at h
      exact absurd rfl (ha c (by rw [h]; simp))
  | succ i ih =>
    cases j with
    | zero =>
      rw [List.replicate_succ', ← List.append_assoc] at h
      simp only [List.replicate_zero, List.append_nil] at h
      exact absurd rfl (hb c (by rw [← h]; simp))
    | succ j =>
      rw [List.replicate_succ', List.replicate_succ', ← List.append_assoc, ← List.append_assoc] at h
      exact ih (List.append_inj_left' h rfl)
theorem trimR_trz (l : List UInt8) : Lib.trimRightB l 48 = trz l := by
  obtain ⟨i, h1, h2⟩ := trimR_rep l 48
  obtain ⟨j, h3, h4⟩ := trz_rep l
  exact rep_uniq (h1.symm.trans h3) h2 h4
theorem trz_zeros (l : List UInt8) (k : Nat) : trz (l ++ List.replicate k 48) = trz l := by
  obtain ⟨i, h1, h2⟩ := trz_rep (l ++ List.replicate k 48)
  obtain ⟨j, h3, h4⟩ := trz_rep l
  refine rep_uniq (i := i) (j := j + k) (c := 48) ?_ h2 h4
  rw [← h1]
  conv => lhs; rw [h3]
  rw [List.append_assoc, List.replicate_append_replicate]
theorem trz_self {l : List UInt8} (h : ∀ x, l.getLast? = some x → x ≠ 48) : trz l = l := by
  obtain ⟨j, h3, h4⟩ := trz_rep l
  exact (rep_uniq (i := 0) (j := j) (c := 48) (by rw [← h3]; simp) h h4).symm
theorem trz_le (l : List UInt8) : (trz l).length ≤ l.length := by
  obtain ⟨k, h1, _⟩ := trz_rep l
  have := congrArg List.length h1
  simp at this
  omega
theorem trz_digs {l : List UInt8} (h : Digs l) : Digs (trz l) := by
  obtain ⟨k, h1, _⟩ := trz_rep l
  rw [h1, digs_append] at h
  exact h.1
theorem trz_pad (l : List UInt8) : l = trz l ++ List.replicate (l.length - (trz l).length) 48 := by
  obtain ⟨k, h1, _⟩ := trz_rep l
  have := congrArg List.length h1
  simp at this
  rw [show l.length - (trz l).length = k from by omega]
  exact h1
theorem trz_last {l : List UInt8} {x : UInt8} (h : (trz l).getLast? = some x) : x ≠ 48 := by
  obtain ⟨k, _, h2⟩ := trz_rep l
  exact h2 x h
theorem trz_nil {l : List UInt8} (hd : Digs l) : trz l = [] ↔ val l = 0 := by
  constructor
  · intro h
    have := trz_pad l
    rw [h, List.nil_append] at this
    rw [this, val_rep]
  · intro h
    have := val_eq_zero hd h
    obtain ⟨k, h1, h2⟩ := trz_rep l
    rw [this] at h1 ⊢
    have := trz_zeros [] l.length
    simpa [trz] using this
theorem bl_cons (b c : UInt8) (l m : List UInt8) : Op.bytesLess (b :: l) (c :: m) = (decide (b.toNat < c.toNat) || (decide (b.toNat = c.toNat) && Op.bytesLess l m)) := by
  show (decide (b < c) || ((b == c) && Op.bytesLess l m)) = _
  congr 1
  congr 1
  by_cases h : b = c
  · simp [h]
  · have : ¬ b.toNat = c.toNat := fun hh => h (u8_ext hh)
    simp [h, this]
theorem bl_nil (l : List UInt8) : Op.bytesLess l [] = false := by cases l <;> rfl
theorem bl_nil' (l : List UInt8) : Op.bytesLess [] l = decide (l ≠ []) := by cases l <;> simp [Op.bytesLess]
theorem less_val {l m : List UInt8} (hl : Digs l) (hm : Digs m) (hlen : l.length = m.length) : Op.bytesLess l m = decide (val l < val m) := by
  induction l generalizing m with
  | nil => cases m with
    | nil => rfl
    | cons => simp at hlen
  | cons b l ih => cases m with
    | nil => simp at hlen
    | cons c m =>
      obtain ⟨h1, h2⟩ := digs_cons.1 hl
      obtain ⟨h3, h4⟩ := digs_cons.1 hm
      have hlen : l.length = m.length := by simpa using hlen
      have b1 := val_lt h2
      have b2 := val_lt h4
      rw [hlen] at b1
      have d1 := isDig_iff.1 h1
      have d2 := isDig_iff.1 h3
      rw [bl_cons, val_cons, val_cons, hlen]
      by_cases hn : b.toNat < c.toNat
      · have : (dv b + 1) * 10 ^ m.length ≤ dv c * 10 ^ m.length := Nat.mul_le_mul_right _ (by unfold dv; omega)
        rw [Nat.add_mul] at this
        have h5 : dv b * 10 ^ m.length + val l < dv c * 10 ^ m.length + val m := by omega
        simp [hn, h5]
      · by_cases hn' : c.toNat < b.toNat
        · have : (dv c + 1) * 10 ^ m.length ≤ dv b * 10 ^ m.length := Nat.mul_le_mul_right _ (by unfold dv; omega)
          rw [Nat.add_mul] at this
          have h5 : ¬ dv b * 10 ^ m.length + val l < dv c * 10 ^ m.length + val m := by omega
          have h6 : ¬ b.toNat = c.toNat := by omega
          simp [hn, h5, h6]
        · rw [ih h2 h4 hlen]
          have : b = c := u8_ext (by omega)
          subst this
          simp
theorem less_trz {l m : List UInt8} (hl : Digs l) (hm : Digs m) (hlen : l.length = m.length) : Op.bytesLess (trz l) (trz m) = Op.bytesLess l m := by
  induction l generalizing m with
  | nil => cases m with
    | nil => rfl
    | cons => simp at hlen
  | cons b l ih => cases m with
    | nil => simp at hlen
    | cons c m =>
      obtain ⟨h1, h2⟩ := digs_cons.1 hl
      obtain ⟨h3, h4⟩ := digs_cons.1 hm
      have hlen : l.length = m.length := by simpa using hlen
      have d1 := isDig_iff.1 h1
      have d2 := isDig_iff.1 h3
      have hi := ih h2 h4 hlen
      have e0 : ∀ x : UInt8, x = 48 ↔ x.toNat = 48 := fun x => ⟨fun h => by rw [h]; rfl, fun h => u8_ext h⟩
      rw [bl_cons, ← hi]
      simp only [trz]
      by_cases t1 : trz l = [] <;> by_cases t2 : trz m = [] <;> by_cases c1 : b.toNat = 48 <;> by_cases c2 : c.toNat = 48 <;>
        simp only [t1, t2, e0, c1, c2, if_true, if_false, bl_cons, bl_nil, bl_nil', Bool.and_false, Bool.or_false] <;> simp [t2] <;> omega
end Go.AM
set_option linter.unusedVariables false
set_option linter.unusedSimpArgs false
namespace Go.AM
theorem bif_some {α : Type} (b : Bool) (u v : α) : (bif b then some u else some v) = some (bif b then u else v) := by cases b <;> rfl
def btw (x lo hi : Int) : Bool := decide (lo ≤ x) && decide (x ≤ hi)
def wordI (x : Int) : Bool := btw x 65 90 || (btw x 97 122 || (x == 95 || (x == 46 || (x == 45 || btw x 48 57))))
def cls (c : Int) (b : UInt8) : Bool :=
  bif c == 3 then btw b.toNat 33 126 && (!((b.toNat : Int) == 44) && !((b.toNat : Int) == 124))
  else bif c == 2 then ((b.toNat : Int) == 47) || wordI b.toNat
  else bif c == 1 then wordI b.toNat
  else (c == 4) && btw b.toNat 48 57
def may (c : Int) : Bool := decide (1 ≤ c) && decide (c ≤ 4)
theorem cls4 (b : UInt8) : cls 4 b = isDig b := by
  unfold cls isDig btw
  simp
  congr 1 <;> simp only [decide_eq_decide] <;> omega
theorem may_cls (n : Nat) (c : Int) : F.class_may n c = some (may c) := by
  unfold F.class_may may
  by_cases h : 1 ≤ c
  · rw [bif_pos (by omega)]; simp [h]
  · rw [bif_neg (by omega)]; simp [h]
theorem between_eq (n : Nat) (x lo hi : Int) : F.class_between n x lo hi = some (btw x lo hi) := by
  unfold F.class_between btw
  by_cases h : lo ≤ x
  · rw [bif_pos (by omega)]; simp [h]
  · rw [bif_neg (by omega)]; simp [h]
theorem is_eq (n : Nat) (c : Int) (b : UInt8) : F.class_Is n c (b.toNat) = some (cls c b) := by
  unfold F.class_Is cls wordI
  simp only [between_eq, some_bind', bif_some]
  congr 1
  cases c == 3 <;> cases c == 2 <;> cases c == 1 <;> cases c == 4 <;> generalize hx : (b.toNat : Int) = x <;> clear hx <;>
    (cases btw x 33 126 <;> cases x == 44 <;> cases btw x 65 90 <;> cases btw x 97 122 <;> cases x == 95 <;> cases x == 46 <;> cases x == 45 <;> cases x == 47 <;> rfl)
def badK (p : UInt8 → Bool) : Nat → List UInt8 → Int
  | _, [] => -1
  | k, b :: l => if p b then badK p (k + 1) l else (k : Int)
theorem badK_ge (p : UInt8 → Bool) (k : Nat) (l : List UInt8) : 0 ≤ badK p k l ↔ ¬ l.all p = true := by
  induction l generalizing k with
  | nil => simp [badK]
  | cons b l ih =>
    unfold badK
    by_cases h : p b = true
    · rw [if_pos h, ih]; simp [h]
    · rw [if_neg h]; simp [h]
theorem badK_neg (p : UInt8 → Bool) (k : Nat) (l : List UInt8) (h : l.all p = true) : badK p k l = -1 := by
  induction l generalizing k with
  | nil => rfl
  | cons b l ih =>
    simp only [List.all_cons, Bool.and_eq_true] at h
    unfold badK
    rw [if_pos h.1, ih _ h.2]
theorem badK_lo (p : UInt8 → Bool) (k : Nat) (l : List UInt8) (h : 0 ≤ badK p k l) : (k : Int) ≤ badK p k l := by
  induction l generalizing k with
  | nil => simp [badK] at h
  | cons b l ih =>
    unfold badK at h ⊢
    by_cases hb : p b = true
    · rw [if_pos hb] at h ⊢; have := ih (k + 1) h; omega
    · rw [if_neg hb]; omega
theorem badK_hi (p : UInt8 → Bool) (k : Nat) (l : List UInt8) : badK p k l < k + l.length ∨ badK p k l = -1 := by
  induction l generalizing k with
  | nil => exact Or.inr rfl
  | cons b l ih =>
    unfold badK
    by_cases hb : p b = true
    · rw [if_pos hb]; have := ih (k + 1); simp; omega
    · rw [if_neg hb]; simp; omega
theorem badK_shift (p : UInt8 → Bool) (k : Nat) (l : List UInt8) : badK p k l = if 0 ≤ badK p 0 l then (k : Int) + badK p 0 l else -1 := by
  induction l generalizing k with
  | nil => simp [badK]
  | cons b l ih =>
    unfold badK
    by_cases hb : p b = true
    · rw [if_pos hb, if_pos hb, ih (k + 1), ih (0 + 1)]
      by_cases h : 0 ≤ badK p 0 l
      · rw [if_pos h, if_pos h, if_pos (by omega)]; omega
      · rw [if_neg h, if_neg h, if_neg (by omega)]
    · rw [if_neg hb, if_neg hb]; simp
theorem bad_cls_loop (n : Nat) (X : Type) (k0 : Unit → Option X) (kr : Int → Int → Option X) (c : Int) (s : List UInt8) (hs : s.length < 4611686018427387904) : ∀ (r : List UInt8) (k m : Nat), s.drop k = r → r.length < m →
    F.class_Bad.L4 n k0 kr m c s (s.length : Int) (k : Int) = if 0 ≤ badK (cls c) k r then kr (badK (cls c) k r) 0 else k0 () := by
  intro r
  induction r with
  | nil =>
    intro k m hk hm
    have := drop_nil' hk
    cases m with
    | zero => simp at hm
    | succ m =>
      show F.class_Bad.L4.step n _ k0 kr c s _ k = _
      unfold F.class_Bad.L4.step
      rw [bif_neg (by omega)]
      rfl
  | cons x r ih =>
    intro k m hk hm
    obtain ⟨h1, h2, h3⟩ := drop_cons hk
    cases m with
    | zero => simp at hm
    | succ m =>
      show F.class_Bad.L4.step n (F.class_Bad.L4 n k0 kr m) k0 kr c s _ k = _
      unfold F.class_Bad.L4.step
      rw [bif_pos (by omega), idx_nat, h2, some_bind', is_eq, some_bind']
      unfold badK
      by_cases hx : cls c x = true
      · rw [hx, if_pos rfl, wrap_succ (by omega), ih (k + 1) m h3 (by simp at hm; omega)]
        rfl
      · have hx : cls c x = false := by simpa using hx
        rw [hx]
        have : ¬ (false = true) := by simp
        rw [if_neg this, if_pos (by omega)]
        rfl
theorem bad_cls (n : Nat) (c : Int) (s : List UInt8) (hs : s.length < 4611686018427387904) (hn : s.length < n) : F.class_Bad n c s = some (bif may c then (badK (cls c) 0 s, 0, ()) else (0, 1, ())) := by
  unfold F.class_Bad
  rw [may_cls, some_bind']
  cases hm : may c
  · rfl
  · simp only [Bool.not_true, cond_false]
    refine (bad_cls_loop n _ _ _ c s hs s 0 n rfl hn).trans ?_
    by_cases h : 0 ≤ badK (cls c) 0 s
    · rw [if_pos h]; rfl
    · rw [if_neg h]
      have : s.all (cls c) = true := Classical.byContradiction fun hh => h ((badK_ge _ _ _).2 hh)
      rw [badK_neg _ _ _ this]; rfl
def textF (c : Int) (s : List UInt8) (lo hi : Int) : Int × Int × Unit :=
  if may c = false ∨ lo < 0 ∨ hi < lo then (1, 0, ()) else if (s.length : Int) < lo then (13, (s.length : Int), ()) else if (s.length : Int) > hi then (12, hi, ())
  else if 0 ≤ badK (cls c) 0 s then (14, badK (cls c) 0 s, ()) else (0, 0, ())
theorem text_cls (n : Nat) (c : Int) (s : List UInt8) (lo hi : Int) (hs : s.length < 4611686018427387904) (hn : s.length < n) : F.class_Text n c s lo hi = some (textF c s lo hi) := by
  unfold F.class_Text textF
  rw [bad_cls n c s hs hn, some_bind']
  cases hm : may c
  · rw [if_pos (Or.inl rfl)]; rfl
  · simp only [cond_true]
    have e : (!((0 : Int) == 0)) = false := rfl
    rw [e, cond_false]
    by_cases h1 : lo < 0
    · rw [bif_pos h1, if_pos (Or.inr (Or.inl h1))]
    · rw [bif_neg h1]
      by_cases h2 : hi < lo
      · rw [bif_pos h2, if_pos (Or.inr (Or.inr h2))]
      · rw [bif_neg h2, if_neg (by simp [h1, h2])]
        by_cases h3 : (s.length : Int) < lo
        · rw [bif_pos h3, if_pos h3]
        · rw [bif_neg h3, if_neg h3]
          by_cases h4 : (s.length : Int) > hi
          · rw [bif_pos h4, if_pos h4]
          · rw [bif_neg h4, if_neg h4]
            by_cases h5 : 0 ≤ badK (cls c) 0 s
            · rw [bif_pos (by omega), if_pos h5]
            · rw [bif_neg (by omega), if_neg h5]
def bytesOf (c : Int) : List UInt8 :=
  bif c == 1 then [65, 66, 67, 68, 69, 70, 71, 72, 73, 74, 75, 76, 77, 78, 79, 80, 81, 82, 83, 84, 85, 86, 87, 88, 89, 90, 97, 98, 99, 100, 101, 102, 103, 104, 105, 106, 107, 108, 109, 110, 111, 112, 113, 114, 115, 116, 117, 118, 119, 120, 121, 122, 48, 49, 50, 51, 52, 53, 54, 55, 56, 57, 95, 46, 45]
  else bif c == 2 then [65, 66, 67, 68, 69, 70, 71, 72, 73, 74, 75, 76, 77, 78, 79, 80, 81, 82, 83, 84, 85, 86, 87, 88, 89, 90, 97, 98, 99, 100, 101, 102, 103, 104, 105, 106, 107, 108, 109, 110, 111, 112, 113, 114, 115, 116, 117, 118, 119, 120, 121, 122, 48, 49, 50, 51, 52, 53, 54, 55, 56, 57, 95, 46, 45, 47]
  else bif c == 3 then [65, 66, 67, 68, 69, 70, 71, 72, 73, 74, 75, 76, 77, 78, 79, 80, 81, 82, 83, 84, 85, 86, 87, 88, 89, 90, 97, 98, 99, 100, 101, 102, 103, 104, 105, 106, 107, 108, 109, 110, 111, 112, 113, 114, 115, 116, 117, 118, 119, 120, 121, 122, 48, 49, 50, 51, 52, 53, 54, 55, 56, 57, 95, 46, 45, 47, 33, 34, 35, 36, 37, 38, 39, 40, 41, 42, 43, 58, 59, 60, 61, 62, 63, 64, 91, 92, 93, 94, 96, 123, 125, 126]
  else bif c == 4 then [48, 49, 50, 51, 52, 53, 54, 55, 56, 57] else []
theorem bytes_ref (n : Nat) (c : Int) : F.ref04_Bytes n c = some (bytesOf c) := by
  unfold F.ref04_Bytes bytesOf
  rw [bif_pos (by decide), bif_pos (by decide), bif_pos (by decide), bif_pos (by decide)]
  cases c == 1 <;> cases c == 2 <;> cases c == 3 <;> cases c == 4 <;> rfl
theorem is_ref_loop (n : Nat) (X : Type) (k0 : Unit → Option X) (kr : Bool → Option X) (x : UInt8) (s : List UInt8) (hs : s.length < 4611686018427387904) : ∀ (r : List UInt8) (k m : Nat), s.drop k = r → r.length < m →
    F.ref04_Is.L3 n k0 kr m (x.toNat : Int) s (k : Int) = if x ∈ r then kr true else k0 () := by
  intro r
  induction r with
  | nil =>
    intro k m hk hm
    have := drop_nil' hk
    cases m with
    | zero => simp at hm
    | succ m =>
      show F.ref04_Is.L3.step n _ k0 kr _ s k = _
      unfold F.ref04_Is.L3.step
      rw [bif_neg (by omega)]
      simp
  | cons y r ih =>
    intro k m hk hm
    obtain ⟨h1, h2, h3⟩ := drop_cons hk
    cases m with
    | zero => simp at hm
    | succ m =>
      show F.ref04_Is.L3.step n (F.ref04_Is.L3 n k0 kr m) k0 kr _ s k = _
      unfold F.ref04_Is.L3.step
      rw [bif_pos (by omega), idx_nat, h2, some_bind']
      by_cases hx : x = y
      · subst hx; simp
      · have : ¬ (y.toNat : Int) = (x.toNat : Int) := fun h => hx (u8_ext (by omega)).symm
        have e : ((y.toNat : Int) == (x.toNat : Int)) = false := by simpa using this
        rw [e, cond_false, wrap_succ (by omega), ih (k + 1) m h3 (by simp at hm; omega)]
        simp [hx]
theorem cls_mem_all : ∀ i : Fin 256, (UInt8.ofNat i.val ∈ bytesOf 1 ↔ cls 1 (UInt8.ofNat i.val) = true) ∧ (UInt8.ofNat i.val ∈ bytesOf 2 ↔ cls 2 (UInt8.ofNat i.val) = true) ∧ (UInt8.ofNat i.val ∈ bytesOf 3 ↔ cls 3 (UInt8.ofNat i.val) = true) ∧ (UInt8.ofNat i.val ∈ bytesOf 4 ↔ cls 4 (UInt8.ofNat i.val) = true) := by decide +kernel
theorem cls_mem (c : Int) (b : UInt8) : b ∈ bytesOf c ↔ cls c b = true := by
  have h := cls_mem_all ⟨b.toNat, b.toNat_lt⟩
  have e : UInt8.ofNat b.toNat = b := by simp
  simp only [e] at h
  by_cases h1 : c = 1
  · subst h1; exact h.1
  by_cases h2 : c = 2
  · subst h2; exact h.2.1
  by_cases h3 : c = 3
  · subst h3; exact h.2.2.1
  by_cases h4 : c = 4
  · subst h4; exact h.2.2.2
  have b1 : (c == 1) = false := by simp [h1]
  have b2 : (c == 2) = false := by simp [h2]
  have b3 : (c == 3) = false := by simp [h3]
  have b4 : (c == 4) = false := by simp [h4]
  unfold bytesOf cls
  rw [b1, b2, b3, b4]
  simp
theorem is_ref (n : Nat) (hn : 100 ≤ n) (c : Int) (x : UInt8) : F.ref04_Is n c (x.toNat : Int) = some (cls c x) := by
  unfold F.ref04_Is
  rw [bytes_ref, some_bind']
  have hl : (bytesOf c).length < 100 := by
    unfold bytesOf
    cases c == 1 <;> cases c == 2 <;> cases c == 3 <;> cases c == 4 <;> decide
  refine (is_ref_loop n _ _ _ x (bytesOf c) (by omega) (bytesOf c) 0 n rfl (by omega)).trans ?_
  by_cases h : x ∈ bytesOf c
  · rw [if_pos h, (cls_mem c x).1 h]
  · rw [if_neg h]
    cases e : cls c x
    · rfl
    · exact absurd ((cls_mem c x).2 e) h
theorem bad_ref_loop (n : Nat) (hn : 100 ≤ n) (X : Type) (k0 : Unit → Option X) (kr : Int → Option X) (c : Int) (s : List UInt8) (hs : s.length < 4611686018427387904) : ∀ (r : List UInt8) (k m : Nat), s.drop k = r → r.length < m →
    F.ref04_Bad.L2 n k0 kr m c s (k : Int) = if 0 ≤ badK (cls c) k r then kr (badK (cls c) k r) else k0 () := by
  intro r
  induction r with
  | nil =>
    intro k m hk hm
    have := drop_nil' hk
    cases m with
    | zero => simp at hm
    | succ m =>
      show F.ref04_Bad.L2.step n _ k0 kr c s k = _
      unfold F.ref04_Bad.L2.step
      rw [bif_neg (by omega)]
      rfl
  | cons x r ih =>
    intro k m hk hm
    obtain ⟨h1, h2, h3⟩ := drop_cons hk
    cases m with
    | zero => simp at hm
    | succ m =>
      show F.ref04_Bad.L2.step n (F.ref04_Bad.L2 n k0 kr m) k0 kr c s k = _
      unfold F.ref04_Bad.L2.step
      rw [bif_pos (by omega), idx_nat, h2, some_bind', is_ref n hn, some_bind']
      unfold badK
      by_cases hx : cls c x = true
      · rw [hx, if_pos rfl, wrap_succ (by omega), ih (k + 1) m h3 (by simp at hm; omega)]
        rfl
      · have hx : cls c x = false := by simpa using hx
        rw [hx]
        have : ¬ (false = true) := by simp
        rw [if_neg this, if_pos (by omega)]
        rfl
theorem bad_ref (n : Nat) (h100 : 100 ≤ n) (c : Int) (s : List UInt8) (hs : s.length < 4611686018427387904) (hn : s.length < n) : F.ref04_Bad n c s = some (badK (cls c) 0 s) := by
  unfold F.ref04_Bad
  refine (bad_ref_loop n h100 _ _ _ c s hs s 0 n rfl hn).trans ?_
  by_cases h : 0 ≤ badK (cls c) 0 s
  · rw [if_pos h]
  · rw [if_neg h]
    have : s.all (cls c) = true := Classical.byContradiction fun hh => h ((badK_ge _ _ _).2 hh)
    rw [badK_neg _ _ _ this]
end Go.AM
set_option linter.unusedVariables false
set_option linter.unusedSimpArgs false
namespace Go.AM
abbrev NumR := Int × (Int × Int × Unit) × Unit
def numR (v c at' : Int) : NumR := (v, (c, at', ()), ())
def parseNum (s : List UInt8) (lo hi : Int) : NumR :=
  if s = [] then numR 0 13 0 else if 0 ≤ badK isDig 0 s then numR 0 14 (badK isDig 0 s) else if s.head? = some 48 ∧ 1 < s.length then numR 0 11 0
  else if 9223372036854775808 ≤ val s ∨ (val s : Int) < lo ∨ (val s : Int) > hi then numR 0 10 0 else numR (val s) 0 0
theorem cls4_fun : cls 4 = isDig := funext cls4
theorem fault_eq (n : Nat) (c a : Int) : F.num_fault n c a = some (0, (c, a, ()), ()) := rfl
theorem digs_of_bad {s : List UInt8} {k : Nat} (h : ¬ 0 ≤ badK isDig k s) : Digs s := Classical.byContradiction fun hh => h ((badK_ge _ _ _).2 hh)
theorem bad_of_digs {s : List UInt8} {k : Nat} (h : Digs s) : badK isDig k s = -1 := badK_neg _ _ _ h
theorem textF4 (s : List UInt8) (hs : s.length < 4611686018427387904) : textF 4 s 1 (IntKind.wrap .i64 ((s.length : Int) + 1)) = if s = [] then (13, 0, ()) else if 0 ≤ badK isDig 0 s then (14, badK isDig 0 s, ()) else (0, 0, ()) := by
  unfold textF
  rw [wrap_succ hs, cls4_fun]
  have hm : may 4 = true := rfl
  rw [if_neg (by simp [hm]; omega)]
  cases s with
  | nil => rfl
  | cons b s =>
    rw [if_neg (show ¬ (((b :: s).length : Nat) : Int) < 1 from by simp; omega), if_neg (show ¬ (((b :: s).length : Nat) : Int) > (((b :: s).length + 1 : Nat) : Int) from by omega), if_neg (show ¬ (b :: s = []) from by simp)]
theorem o_atoi (n : Nat) {s : List UInt8} (hd : Digs s) (hn : s ≠ []) (hs : s.length ≤ 1000000) : O.atoi n s = some (if val s < 9223372036854775808 then ((val s : Int), false, ()) else (Lib.atoiSat s, true, ())) := by
  unfold O.atoi
  have : Nat.ble s.length big47 = true := by rw [Nat.ble_eq]; unfold big47; omega
  rw [this, cond_true, atoi_digs hd hn]
  by_cases h : val s < 9223372036854775808
  · rw [if_pos h, if_pos h]
  · rw [if_neg h, if_neg h]
theorem parse_num (n : Nat) (s : List UInt8) (lo hi : Int) (hs : s.length ≤ 1000000) (hn : s.length < n) : F.num_Parse n s lo hi = some (parseNum s lo hi) := by
  unfold F.num_Parse parseNum
  rw [text_cls n 4 s _ _ (by omega) hn, some_bind', textF4 s (by omega)]
  by_cases h0 : s = []
  · rw [if_pos h0, if_pos h0]; rfl
  rw [if_neg h0, if_neg h0]
  by_cases h1 : 0 ≤ badK isDig 0 s
  · rw [if_pos h1, if_pos h1]; rfl
  rw [if_neg h1, if_neg h1]
  have e : (!((0 : Int) == 0 && (0 : Int) == 0)) = false := rfl
  simp only [e, cond_false]
  have hd := digs_of_bad h1
  cases s with
  | nil => exact absurd rfl h0
  | cons b r =>
    have ei : idx (b :: r) (0 : Int) = some b := rfl
    rw [ei, some_bind', o_atoi n hd h0 hs, some_bind']
    have tail : ∀ (p : Bool) (A : Option NumR), (bif p then A else A) = A := by intro p A; cases p <;> rfl
    have core : (bif (if val (b :: r) < 9223372036854775808 then ((val (b :: r) : Int), false, ()) else (Lib.atoiSat (b :: r), true, ())).2.1 then (F.num_fault n 10 0).bind fun y6 => some ((y6.1, (y6.2.1.1, y6.2.1.2.1, ()), ()))
        else bif decide ((if val (b :: r) < 9223372036854775808 then ((val (b :: r) : Int), false, ()) else (Lib.atoiSat (b :: r), true, ())).1 < lo) then (F.num_fault n 10 0).bind fun y6 => some ((y6.1, (y6.2.1.1, y6.2.1.2.1, ()), ()))
        else bif decide ((if val (b :: r) < 9223372036854775808 then ((val (b :: r) : Int), false, ()) else (Lib.atoiSat (b :: r), true, ())).1 > hi) then (F.num_fault n 10 0).bind fun y6 => some ((y6.1, (y6.2.1.1, y6.2.1.2.1, ()), ()))
        else some (((if val (b :: r) < 9223372036854775808 then ((val (b :: r) : Int), false, ()) else (Lib.atoiSat (b :: r), true, ())).1, ((0 : Int), (0 : Int), ()), ())))
        = some (if 9223372036854775808 ≤ val (b :: r) ∨ (val (b :: r) : Int) < lo ∨ (val (b :: r) : Int) > hi then numR 0 10 0 else numR (val (b :: r)) 0 0) := by
      by_cases hv : val (b :: r) < 9223372036854775808
      · rw [if_pos hv]
        simp only [cond_false]
        by_cases g1 : (val (b :: r) : Int) < lo
        · rw [bif_pos g1, if_pos (Or.inr (Or.inl g1))]; rfl
        · rw [bif_neg g1]
          by_cases g2 : (val (b :: r) : Int) > hi
          · rw [bif_pos g2, if_pos (Or.inr (Or.inr g2))]; rfl
          · rw [bif_neg g2, if_neg (by omega)]; rfl
      · rw [if_neg hv, if_pos (Or.inl (by omega))]; rfl
    by_cases hb : b = 48
    · subst hb
      have e2 : ((((48 : UInt8).toNat : Nat) : Int) == 48) = true := rfl
      rw [e2, cond_true]
      by_cases hl : 1 < (48 :: r).length
      · rw [bif_pos (by omega), if_pos (show (48 :: r).head? = some 48 ∧ 1 < (48 :: r).length from ⟨rfl, hl⟩)]; rfl
      · rw [bif_neg (by omega), if_neg (show ¬ ((48 :: r).head? = some 48 ∧ 1 < (48 :: r).length) from fun h => hl h.2)]; exact core
    · have e2 : ((b.toNat : Int) == 48) = false := by
        have : ¬ (b.toNat : Int) = 48 := fun h => hb (u8_ext (by simp; omega))
        simpa using this
      rw [e2, cond_false, if_neg (show ¬ ((b :: r).head? = some 48 ∧ 1 < (b :: r).length) from fun h => hb (by simpa using h.1))]; exact core
theorem value_loop (n : Nat) (X : Type) (k0 : Int → Option X) (kr : Int → Bool → Option X) (s : List UInt8) (hs : s.length < 4611686018427387904) : ∀ (r : List UInt8) (k m : Nat), s.drop k = r → r.length < m → Digs r → val (s.take k) < 9223372036854775808 →
    F.ref05_Value.L3 n k0 kr m s (val (s.take k) : Int) (k : Int) = if val s < 9223372036854775808 then k0 (val s) else kr 0 false := by
  intro r
  induction r with
  | nil =>
    intro k m hk hm hd hv
    have hk := drop_nil' hk
    cases m with
    | zero => simp at hm
    | succ m =>
      show F.ref05_Value.L3.step n _ k0 kr s _ k = _
      unfold F.ref05_Value.L3.step
      rw [bif_neg (by omega)]
      rw [List.take_of_length_le hk] at hv ⊢
      rw [if_pos hv]
  | cons x r ih =>
    intro k m hk hm hd hv
    obtain ⟨h1, h2, h3⟩ := drop_cons hk
    obtain ⟨d1, d2⟩ := digs_cons.1 hd
    have hx := isDig_iff.1 d1
    cases m with
    | zero => simp at hm
    | succ m =>
      show F.ref05_Value.L3.step n (F.ref05_Value.L3 n k0 kr m) k0 kr s _ k = _
      unfold F.ref05_Value.L3.step
      have htk : s.take (k + 1) = s.take k ++ [x] := by rw [List.take_add_one, h2]; rfl
      have hvk : val (s.take (k + 1)) = val (s.take k) * 10 + dv x := by rw [htk, val_snoc]
      have hsv : val (s.take (k + 1)) ≤ val s := by
        have e : s = s.take (k + 1) ++ s.drop (k + 1) := (List.take_append_drop _ _).symm
        have h5 : val s = val (s.take (k + 1)) * 10 ^ (s.drop (k + 1)).length + val (s.drop (k + 1)) := by
          conv => lhs; rw [e]
          rw [val_append]
        have := Nat.le_mul_of_pos_right (val (s.take (k + 1))) (Nat.pow_pos (n := (s.drop (k + 1)).length) (show 0 < 10 by omega))
        omega
      have hdx : IntKind.wrap .i64 (IntKind.wrap .u8 ((x.toNat : Int) - 48)) = (dv x : Int) := by
        have h8 : IntKind.wrap .u8 ((x.toNat : Int) - 48) = (x.toNat : Int) - 48 := IntWalk.u8_in _ (by omega)
        rw [h8, wrap_in (by omega)]; unfold dv; omega
      have hdl := dv_lt d1
      rw [bif_pos (by omega), idx_nat, h2, some_bind', hdx, wrap_in (x := 9223372036854775807 - (dv x : Int)) (by omega)]
      have hdiv : ((9223372036854775807 : Int) - (dv x : Int)).tdiv 10 = (((9223372036854775807 - dv x) / 10 : Nat) : Int) := by
        rw [show ((9223372036854775807 : Int) - (dv x : Int)) = ((9223372036854775807 - dv x : Nat) : Int) from by omega]; rfl
      rw [hdiv, wrap_in (x := (((9223372036854775807 - dv x) / 10 : Nat) : Int)) (by omega)]
      by_cases hb : val (s.take (k + 1)) < 9223372036854775808
      · rw [bif_neg (by omega), wrap_in (x := 10 * (val (s.take k) : Int)) (by omega), wrap_in (by omega), wrap_succ (by omega), show (10 * (val (s.take k) : Int) + (dv x : Int)) = (val (s.take (k + 1)) : Int) from by omega]
        exact ih (k + 1) m h3 (by simp at hm; omega) d2 hb
      · rw [bif_pos (by omega), if_neg (by omega)]
theorem value_ref (n : Nat) (s : List UInt8) (hs : s.length < 4611686018427387904) (hn : s.length < n) (hd : Digs s) : F.ref05_Value n s = some (if val s < 9223372036854775808 then ((val s : Int), true, ()) else (0, false, ())) := by
  unfold F.ref05_Value
  refine (value_loop n _ _ _ s hs s 0 n rfl hn hd (by rw [List.take_zero, val_nil]; omega)).trans ?_
  by_cases h : val s < 9223372036854775808
  · rw [if_pos h, if_pos h]
  · rw [if_neg h, if_neg h]
theorem parse_ref (n : Nat) (h100 : 100 ≤ n) (s : List UInt8) (lo hi : Int) (hs : s.length ≤ 1000000) (hn : s.length < n) : F.ref05_Parse n s lo hi = some (parseNum s lo hi) := by
  unfold F.ref05_Parse parseNum
  by_cases h0 : s = []
  · subst h0; rfl
  have e0 : (s == []) = false := by simpa using h0
  rw [e0, cond_false, if_neg h0, bad_ref n h100 4 s (by omega) hn, some_bind', cls4_fun]
  by_cases h1 : 0 ≤ badK isDig 0 s
  · rw [if_pos h1, bif_pos h1]; rfl
  rw [if_neg h1, bif_neg h1]
  have hd := digs_of_bad h1
  cases s with
  | nil => exact absurd rfl h0
  | cons b r =>
    have ei : idx (b :: r) (0 : Int) = some b := rfl
    rw [ei, some_bind', value_ref n _ (by omega) hn hd, some_bind']
    have core : (bif !(if val (b :: r) < 9223372036854775808 then ((val (b :: r) : Int), true, ()) else (0, false, ())).2.1 then some (((0 : Int), ((10 : Int), (0 : Int), ()), ()))
        else bif decide ((if val (b :: r) < 9223372036854775808 then ((val (b :: r) : Int), true, ()) else (0, false, ())).1 < lo) then some (((0 : Int), ((10 : Int), (0 : Int), ()), ()))
        else bif decide ((if val (b :: r) < 9223372036854775808 then ((val (b :: r) : Int), true, ()) else (0, false, ())).1 > hi) then some (((0 : Int), ((10 : Int), (0 : Int), ()), ()))
        else some (((if val (b :: r) < 9223372036854775808 then ((val (b :: r) : Int), true, ()) else (0, false, ())).1, ((0 : Int), (0 : Int), ()), ())))
        = some (if 9223372036854775808 ≤ val (b :: r) ∨ (val (b :: r) : Int) < lo ∨ (val (b :: r) : Int) > hi then numR 0 10 0 else numR (val (b :: r)) 0 0) := by
      by_cases hv : val (b :: r) < 9223372036854775808
      · rw [if_pos hv]
        simp only [cond_false, Bool.not_true]
        by_cases g1 : (val (b :: r) : Int) < lo
        · rw [bif_pos g1, if_pos (Or.inr (Or.inl g1))]; rfl
        · rw [bif_neg g1]
          by_cases g2 : (val (b :: r) : Int) > hi
          · rw [bif_pos g2, if_pos (Or.inr (Or.inr g2))]; rfl
          · rw [bif_neg g2, if_neg (by omega)]; rfl
      · rw [if_neg hv, if_pos (Or.inl (by omega))]; rfl
    by_cases hb : b = 48
    · subst hb
      have e2 : ((((48 : UInt8).toNat : Nat) : Int) == 48) = true := rfl
      rw [e2, cond_true]
      by_cases hl : 1 < (48 :: r).length
      · rw [bif_pos (by omega), if_pos (show (48 :: r).head? = some 48 ∧ 1 < (48 :: r).length from ⟨rfl, hl⟩)]; rfl
      · rw [bif_neg (by omega), if_neg (show ¬ ((48 :: r).head? = some 48 ∧ 1 < (48 :: r).length) from fun h => hl h.2)]; exact core
    · have e2 : ((b.toNat : Int) == 48) = false := by
        have : ¬ (b.toNat : Int) = 48 := fun h => hb (u8_ext (by simp; omega))
        simpa using this
      rw [e2, cond_false, if_neg (show ¬ ((b :: r).head? = some 48 ∧ 1 < (b :: r).length) from fun h => hb (by simpa using h.1))]; exact core
theorem time_eq (n : Nat) (s : List UInt8) (hs : s.length ≤ 1000000) (hn : s.length < n) : F.num_Time n s = some (parseNum s 1 1099511627776) := by
  unfold F.num_Time
  rw [parse_num n s _ _ hs hn, some_bind']
def numText (k : Int) : List UInt8 × Int × Unit := if k < 0 then ([], 10, ()) else (Lib.decDigits k.toNat, 0, ())
theorem text_num (n : Nat) (k : Int) (h : -9223372036854775808 ≤ k ∧ k ≤ 9223372036854775807) : F.num_Text n k = some (numText k) := by
  unfold F.num_Text numText
  by_cases h0 : k < 0
  · rw [bif_pos h0, if_pos h0]
  · rw [bif_neg h0, if_neg h0]
    unfold O.itoa
    have : (decide (-9223372036854775808 ≤ k) && decide (k ≤ 9223372036854775807)) = true := by simp [h]
    rw [this, cond_true, some_bind']
    unfold Lib.itoa
    rw [if_neg h0]
theorem digits_ref_go (n : Nat) : ∀ (m u : Nat), u < 18446744073709551616 → Lib.nDigits u ≤ m → F.ref05_Digits.go n m (u : Int) = some (Lib.decDigits u) := by
  intro m
  induction m with
  | zero =>
    intro u _ h
    have := Lib.nDigits_pos u
    omega
  | succ m ih =>
    intro u hu h
    have one : ∀ d : Nat, d < 10 → sub ([48, 49, 50, 51, 52, 53, 54, 55, 56, 57] : List UInt8) (d : Int) ((d + 1 : Nat) : Int) = some [UInt8.ofNat (48 + d)] := by
      intro d hd
      rw [sub_nat _ _ _ (by omega) (by simp; omega)]
      have := (by decide : ∀ d : Fin 10, (([48, 49, 50, 51, 52, 53, 54, 55, 56, 57] : List UInt8).take (d.val + 1)).drop d.val = [UInt8.ofNat (48 + d.val)]) ⟨d, hd⟩
      rw [this]
    show (bif decide ((u : Int) < 10) then _ else _) = _
    by_cases h1 : u < 10
    · rw [bif_pos (by omega), show IntKind.wrap .u64 ((u : Int) + 1) = ((u + 1 : Nat) : Int) from by rw [IntWalk.u64_in _ (by omega)]; omega, one u h1, some_bind', dd_small h1]
    · rw [bif_neg (by omega)]
      have e1 : (u : Int).tdiv 10 = ((u / 10 : Nat) : Int) := rfl
      have e2 : (u : Int).tmod 10 = ((u % 10 : Nat) : Int) := rfl
      have hN := Lib.nDigits_big h1
      rw [e1, e2, IntWalk.u64_in _ (by omega), ih (u / 10) (by omega) (by omega), some_bind', show IntKind.wrap .u64 (((u % 10 : Nat) : Int) + 1) = ((u % 10 + 1 : Nat) : Int) from by rw [IntWalk.u64_in _ (by omega)]; omega, one (u % 10) (by omega), some_bind', dd_big h1, bif_pos]
      have := Lib.nDigits_le20 (u / 10) (by omega)
      rw [dd_length, strMax_eq]
      simp; omega
theorem digits_ref (n : Nat) (hn : 20 ≤ n) (u : Nat) (hu : u < 18446744073709551616) : F.ref05_Digits n (u : Int) = some (Lib.decDigits u) := by
  unfold F.ref05_Digits
  exact digits_ref_go n n u hu (Nat.le_trans (Lib.nDigits_le20 u hu) hn)
def pad6 (k : Nat) : List UInt8 := (Lib.decDigits (1000000 + k)).drop 1
theorem pad6_all {k : Nat} (h : k < 1000000) : Lib.decDigits (1000000 + k) = 49 :: pad6 k ∧ (pad6 k).length = 6 ∧ Digs (pad6 k) ∧ val (pad6 k) = k := by
  have hN : (Lib.decDigits (1000000 + k)).length = 7 := by rw [dd_length]; exact Lib.nDigits_unique 6 _ (by omega) (by omega)
  have hd := dd_digs (1000000 + k)
  have hv := dd_val (1000000 + k)
  unfold pad6
  cases e : Lib.decDigits (1000000 + k) with
  | nil => rw [e] at hN; simp at hN
  | cons b r =>
    rw [e] at hN hd hv
    have hr : r.length = 6 := by simpa using hN
    obtain ⟨d1, d2⟩ := digs_cons.1 hd
    have := val_lt d2
    rw [hr] at this
    rw [val_cons, hr] at hv
    have hb : dv b = 1 := by omega
    have : b = 49 := dv_inj d1 rfl hb
    subst this
    refine ⟨rfl, hr, d2, ?_⟩
    show val r = k
    omega
def rateText (k : Int) : List UInt8 × Int × Unit :=
  if k < 1 ∨ k > 1000000 then ([], 10, ()) else if k = 1000000 then ([49], 0, ()) else ([48, 46] ++ trz (pad6 k.toNat), 0, ())
theorem rateText_num (n : Nat) (k : Int) : F.num_RateText n k = some (rateText k) := by
  unfold F.num_RateText rateText
  by_cases h1 : k < 1
  · rw [bif_pos h1, if_pos (Or.inl h1)]
  rw [bif_neg h1]
  by_cases h2 : k > 1000000
  · rw [bif_pos h2, if_pos (Or.inr h2)]
  rw [bif_neg h2, if_neg (by omega)]
  by_cases h3 : k = 1000000
  · subst h3; rfl
  have e3 : (k == 1000000) = false := by simpa using h3
  rw [e3, cond_false, if_neg h3, wrap_in (by omega)]
  obtain ⟨p1, p2, p3, p4⟩ := pad6_all (k := k.toNat) (by omega)
  have hi : O.itoa n (1000000 + k) = some (49 :: pad6 k.toNat) := by
    unfold O.itoa
    have : (decide (-9223372036854775808 ≤ 1000000 + k) && decide (1000000 + k ≤ 9223372036854775807)) = true := by simp; omega
    rw [this, cond_true]
    unfold Lib.itoa
    rw [if_neg (by omega), show (1000000 + k).toNat = 1000000 + k.toNat from by omega, p1]
  rw [hi, some_bind']
  have hsub : sub (49 :: pad6 k.toNat) 1 (((49 :: pad6 k.toNat).length : Nat) : Int) = some (pad6 k.toNat) := by
    have := sub_nat (49 :: pad6 k.toNat) 1 (49 :: pad6 k.toNat).length (by simp) (by simp)
    rw [List.take_length] at this
    exact this
  rw [hsub, some_bind']
  unfold O.trimR
  have hb : (Nat.blt (48 : UInt8).toNat 128 && Nat.ble (pad6 k.toNat).length big47) = true := by rw [p2]; rfl
  simp only [hb, cond_true, some_bind', trimR_trz]
  rw [bif_pos]
  have := trz_le (pad6 k.toNat)
  rw [strMax_eq]
  omega
theorem padl_loop (n : Nat) (X : Type) (k0 : List UInt8 → Option X) : ∀ (j m : Nat) (v : List UInt8), v.length + j = 6 → j < m → F.ref05_RateText.L4 n k0 m v = k0 (List.replicate j 48 ++ v) := by
  intro j
  induction j with
  | zero =>
    intro m v h hm
    cases m with
    | zero => omega
    | succ m =>
      show F.ref05_RateText.L4.step n _ k0 v = _
      unfold F.ref05_RateText.L4.step
      rw [bif_neg (by omega)]; rfl
  | succ j ih =>
    intro m v h hm
    cases m with
    | zero => omega
    | succ m =>
      show F.ref05_RateText.L4.step n (F.ref05_RateText.L4 n k0 m) k0 v = _
      unfold F.ref05_RateText.L4.step
      rw [bif_pos (by omega), bif_pos (by rw [strMax_eq]; omega), ih m _ (by simp; omega) (by omega), List.replicate_succ', List.append_assoc]
theorem strip_loop (n : Nat) (X : Type) (k2 : List UInt8 → Option X) (a : List UInt8) (ha : a ≠ []) (hl : ∀ x, a.getLast? = some x → x ≠ 48) (hal : a.length < 1000) : ∀ (j m : Nat), j < m → j < 1000 → F.ref05_RateText.L6 n k2 m (a ++ List.replicate j 48) = k2 a := by
  intro j
  induction j with
  | zero =>
    intro m hm hj
    cases m with
    | zero => omega
    | succ m =>
      show F.ref05_RateText.L6.step n _ k2 _ = _
      unfold F.ref05_RateText.L6.step
      rw [List.replicate_zero, List.append_nil]
      have hp : 0 < a.length := List.length_pos_iff.2 ha
      rw [wrap_in (by omega), idx_pred hp]
      have hg : a[a.length - 1]? = a.getLast? := by rw [List.getLast?_eq_getElem?]
      rw [hg]
      cases e : a.getLast? with
      | none => simp at e; exact absurd e ha
      | some x =>
        have hx := hl x e
        have e2 : ((x.toNat : Int) == 48) = false := by
          have : ¬ (x.toNat : Int) = 48 := fun h => hx (u8_ext (by simp; omega))
          simpa using this
        rw [some_bind', e2, cond_false]
  | succ j ih =>
    intro m hm hj
    cases m with
    | zero => omega
    | succ m =>
      show F.ref05_RateText.L6.step n (F.ref05_RateText.L6 n k2 m) k2 _ = _
      unfold F.ref05_RateText.L6.step
      rw [List.replicate_succ', ← List.append_assoc]
      have hlen : (a ++ List.replicate j (48 : UInt8) ++ [48]).length = a.length + j + 1 := by simp; omega
      rw [wrap_in (by omega), idx_pred (by omega)]
      have hg : (a ++ List.replicate j (48 : UInt8) ++ [48])[(a ++ List.replicate j (48 : UInt8) ++ [48]).length - 1]? = some 48 := by
        rw [← List.getLast?_eq_getElem?]; simp
      rw [hg, some_bind']
      have e2 : ((((48 : UInt8).toNat : Nat) : Int) == 48) = true := rfl
      rw [e2, cond_true]
      have hs : sub (a ++ List.replicate j (48 : UInt8) ++ [48]) 0 (((a ++ List.replicate j (48 : UInt8) ++ [48]).length : Int) - 1) = some (a ++ List.replicate j 48) := by
        have := sub_nat (a ++ List.replicate j (48 : UInt8) ++ [48]) 0 (a.length + j) (by omega) (by rw [hlen]; omega)
        rw [hlen, show (((a.length + j + 1 : Nat) : Int) - 1) = ((a.length + j : Nat) : Int) from by omega]
        refine this.trans ?_
        rw [List.drop_zero, List.take_append_of_le_length (by simp), List.take_of_length_le (by simp)]
      rw [hs, some_bind']
      exact ih m (by omega) (by omega)
theorem rateText_ref (n : Nat) (hn : 100 ≤ n) (k : Int) (h : 1 ≤ k ∧ k ≤ 1000000) : F.ref05_RateText n k = some (rateText k).1 := by
  unfold F.ref05_RateText rateText
  rw [if_neg (by omega)]
  by_cases h3 : k = 1000000
  · subst h3; rfl
  have e3 : (k == 1000000) = false := by simpa using h3
  rw [e3, cond_false, if_neg h3]
  obtain ⟨u, rfl⟩ : ∃ u : Nat, k = u := ⟨k.toNat, by omega⟩
  rw [IntWalk.u64_in _ (by omega), digits_ref n (by omega) u (by omega), some_bind']
  have hl : (Lib.decDigits u).length ≤ 6 := dd_length_le (by omega) (by omega)
  obtain ⟨p1, p2, p3, p4⟩ := pad6_all (k := u) (by omega)
  have hpad : List.replicate (6 - (Lib.decDigits u).length) 48 ++ Lib.decDigits u = pad6 u :=
    val_inj (digs_append.2 ⟨digs_rep _, dd_digs u⟩) p3 (by simp; omega) (by rw [val_zeros_left, dd_val, p4])
  rw [padl_loop n _ _ (6 - (Lib.decDigits u).length) n _ (by omega) (by omega), hpad]
  have ht := trz_le (pad6 u)
  have hne : trz (pad6 u) ≠ [] := fun hh => by have := (trz_nil p3).1 hh; omega
  conv => lhs; rw [trz_pad (pad6 u)]
  rw [strip_loop n _ _ (trz (pad6 u)) hne (fun x => trz_last) (by omega) _ n (by omega) (by omega), bif_pos (by rw [strMax_eq]; omega)]
  simp
def rateR (s : List UInt8) : NumR :=
  if s = [49] then numR 1000000 0 0 else if s = [] then numR 0 13 0 else if s.head? ≠ some 48 then numR 0 11 0 else if (s.drop 1).head? ≠ some 46 then numR 0 11 1
  else if s.drop 2 = [] then numR 0 13 2 else if 0 ≤ badK isDig 0 (s.drop 2) then numR 0 14 (2 + badK isDig 0 (s.drop 2)) else if 6 < (s.drop 2).length then numR 0 12 8
  else if val (s.drop 2) = 0 then numR 0 10 0 else numR ((val (s.drop 2) * 10 ^ (6 - (s.drop 2).length) : Nat) : Int) 0 0
theorem rate_digs_loop (n : Nat) (X : Type) (k3 : Int → Int → Int → Int → Int → Int → Int → Option X) (d : List UInt8) (hd : Digs d) (hl : d.length ≤ 6) (a b c e f g : Int) : ∀ (j i m : Nat), i + j = 6 → j < m →
    F.num_Rate.L23 n k3 m d (i : Int) a b c e f g (val ((d ++ List.replicate (6 - d.length) 48).take i) : Int) = k3 a b c e f g ((val d * 10 ^ (6 - d.length) : Nat) : Int) := by
  have hD : Digs (d ++ List.replicate (6 - d.length) 48) := digs_append.2 ⟨hd, digs_rep _⟩
  have hL : (d ++ List.replicate (6 - d.length) (48 : UInt8)).length = 6 := by simp; omega
  intro j
  induction j with
  | zero =>
    intro i m hi hm
    cases m with
    | zero => omega
    | succ m =>
      show F.num_Rate.L23.step n _ k3 d _ _ _ _ _ _ _ _ = _
      unfold F.num_Rate.L23.step
      rw [bif_neg (by omega), List.take_of_length_le (by omega), val_zeros_right]
  | succ j ih =>
    intro i m hi hm
    cases m with
    | zero => omega
    | succ m =>
      show F.num_Rate.L23.step n (F.num_Rate.L23 n k3 m) k3 d _ _ _ _ _ _ _ _ = _
      unfold F.num_Rate.L23.step
      rw [bif_pos (by omega), wrap_succ (by omega)]
      have hb : val ((d ++ List.replicate (6 - d.length) 48).take i) < 10 ^ i := by
        have := val_lt (digs_take i hD)
        rw [List.length_take, hL, Nat.min_eq_left (by omega)] at this
        exact this
      have hp : (10 : Nat) ^ i ≤ 10 ^ 6 := Nat.pow_le_pow_right (by omega) (by omega)
      have hstep : ∀ x, (d ++ List.replicate (6 - d.length) (48 : UInt8))[i]? = some x → val ((d ++ List.replicate (6 - d.length) 48).take (i + 1)) = val ((d ++ List.replicate (6 - d.length) 48).take i) * 10 + dv x := by
        intro x hx
        rw [List.take_add_one, hx]
        exact val_snoc _ _
      by_cases hlt : i < d.length
      · have hx : (d ++ List.replicate (6 - d.length) (48 : UInt8))[i]? = d[i]? := List.getElem?_append_left hlt
        rw [bif_pos (by omega), idx_lt hlt, some_bind']
        have hg : d[i]? = some d[i] := by simp [hlt]
        have hdx := List.all_eq_true.1 hd d[i] (List.getElem_mem hlt)
        have hdi := isDig_iff.1 hdx
        have hv := hstep d[i] (hx.trans hg)
        have hdl := dv_lt hdx
        have h8 : IntKind.wrap .i64 (IntKind.wrap .u8 ((d[i].toNat : Int) - 48)) = (dv d[i] : Int) := by
          rw [IntWalk.u8_in _ (by omega), wrap_in (by omega)]; unfold dv; omega
        rw [h8, wrap_in (x := 10 * _) (by omega), wrap_in (by omega), show 10 * (val ((d ++ List.replicate (6 - d.length) (48 : UInt8)).take i) : Int) + (dv d[i] : Int) = (val ((d ++ List.replicate (6 - d.length) (48 : UInt8)).take (i + 1)) : Int) from by omega]
        exact ih (i + 1) m (by omega) (by omega)
      · have hx : (d ++ List.replicate (6 - d.length) (48 : UInt8))[i]? = some 48 := by
          rw [List.getElem?_append_right (by omega), List.getElem?_replicate, if_pos (by omega)]
        have hv := hstep 48 hx
        rw [dv_48] at hv
        rw [bif_neg (by omega), wrap_in (x := 10 * _) (by omega), wrap_in (by omega), show 10 * (val ((d ++ List.replicate (6 - d.length) (48 : UInt8)).take i) : Int) + 0 = (val ((d ++ List.replicate (6 - d.length) (48 : UInt8)).take (i + 1)) : Int) from by omega]
        exact ih (i + 1) m (by omega) (by omega)
theorem rate_head_loop (n : Nat) (X : Type) (k0 : List UInt8 → Int → Int → Int → Int → Option X) (s : List UInt8) (m : Nat) (hm : 3 ≤ m) :
    F.num_Rate.L5 n k0 m s (48, 46, ()) 0 0 0 0 0 = if s = [] then k0 s 0 0 13 0 else if s.head? ≠ some 48 then k0 s 0 0 11 0 else if (s.drop 1).head? ≠ some 46 then k0 s 0 0 11 1 else k0 s 0 0 0 0 := by
  obtain ⟨m, rfl⟩ : ∃ q, m = q + 3 := ⟨m - 3, by omega⟩
  show F.num_Rate.L5.step n (F.num_Rate.L5 n k0 (m + 2)) k0 s _ _ _ _ _ _ = _
  have hb : ∀ (b c : UInt8), ((b.toNat : Int) == (c.toNat : Int)) = decide (b = c) := by
    intro b c
    by_cases h : b = c
    · simp [h]
    · have : ¬ (b.toNat : Int) = (c.toNat : Int) := fun hh => h (u8_ext (by omega))
      simp [h, this]
  cases s with
  | nil => rfl
  | cons b r =>
    have e48 : ((b.toNat : Int) == 48) = decide (b = 48) := hb b 48
    unfold F.num_Rate.L5.step
    have a1 : decide ((0 : Int) < 2) = true := rfl
    have a2 : ((0 : Int) == 0) = true := rfl
    have a3 : ((0 : Int) == (((b :: r).length : Nat) : Int)) = false := by
      have : ¬ (0 : Int) = (((b :: r).length : Nat) : Int) := by simp; omega
      simpa using this
    have a4 : decide ((0 : Int) ≥ (((b :: r).length : Nat) : Int)) = false := by
      have : ¬ (0 : Int) ≥ (((b :: r).length : Nat) : Int) := by simp only [List.length_cons]; omega
      exact decide_eq_false this
    have a5 : idx (b :: r) (0 : Int) = some b := rfl
    rw [a1, a2, a3, a4, a5, cond_true, cond_true, cond_false, cond_false, some_bind', e48]
    by_cases h1 : b = 48
    · subst h1
      simp only [decide_true, Bool.not_true, cond_false]
      show F.num_Rate.L5.step n (F.num_Rate.L5 n k0 (m + 1)) k0 _ _ 1 _ _ _ _ = _
      unfold F.num_Rate.L5.step
      have c1 : decide ((1 : Int) < 2) = true := rfl
      have c2 : ((1 : Int) == 0) = false := rfl
      have c3 : ((1 : Int) == 1) = true := rfl
      rw [c1, c2, c3, cond_true, cond_false, cond_true]
      cases r with
      | nil => rfl
      | cons c r =>
        have e46 : ((c.toNat : Int) == 46) = decide (c = 46) := hb c 46
        have b3 : ((1 : Int) == (((48 :: c :: r).length : Nat) : Int)) = false := by
          have : ¬ (1 : Int) = (((48 :: c :: r).length : Nat) : Int) := by simp; omega
          simpa using this
        have b4 : decide ((1 : Int) ≥ (((48 :: c :: r).length : Nat) : Int)) = false := by
          have : ¬ (1 : Int) ≥ (((48 :: c :: r).length : Nat) : Int) := by simp; omega
          simpa using this
        have b5 : idx (48 :: c :: r) (1 : Int) = some c := rfl
        rw [b3, b4, b5, cond_false, cond_false, some_bind', e46]
        by_cases h2 : c = 46
        · subst h2
          rfl
        · simp [h2]
    · simp [h1]
theorem rate_num (n : Nat) (hn : 100 ≤ n) (s : List UInt8) (hs : s.length ≤ 1000000) (hl : s.length < n) : F.num_Rate n s = some (rateR s) := by
  unfold F.num_Rate rateR
  by_cases h1 : s = [49]
  · rw [if_pos h1, h1]; rfl
  have e1 : (s == [49]) = false := by simpa using h1
  rw [e1, cond_false, if_neg h1, rate_head_loop n _ _ s n (by omega)]
  by_cases h2 : s = []
  · rw [if_pos h2, if_pos h2]; rfl
  rw [if_neg h2, if_neg h2]
  by_cases h3 : s.head? ≠ some 48
  · rw [if_pos h3, if_pos h3]; rfl
  rw [if_neg h3, if_neg h3]
  by_cases h4 : (s.drop 1).head? ≠ some 46
  · rw [if_pos h4, if_pos h4]; rfl
  rw [if_neg h4, if_neg h4]
  have e2 : (!((0 : Int) == 0 && (0 : Int) == 0)) = false := rfl
  simp only [e2, cond_false]
  have hlen : 2 ≤ s.length := by
    cases s with
    | nil => exact absurd rfl h2
    | cons b r => cases r with
      | nil => simp at h4
      | cons => simp
  have hsub : sub s 2 (s.length : Int) = some (s.drop 2) := by
    have := sub_nat s 2 s.length hlen (Nat.le_refl _)
    rw [List.take_length] at this
    exact this
  have hdl : (s.drop 2).length + 2 = s.length := by simp; omega
  rw [hsub, some_bind', text_cls n 4 _ _ _ (by omega) (by omega), some_bind', textF4 _ (by omega)]
  generalize s.drop 2 = d at hdl ⊢
  by_cases h5 : d = []
  · rw [if_pos h5, if_pos h5]; rfl
  rw [if_neg h5, if_neg h5]
  by_cases h6 : 0 ≤ badK isDig 0 d
  · rw [if_pos h6, if_pos h6]
    have := badK_hi isDig 0 d
    have e : (!((14 : Int) == 0 && badK isDig 0 d == 0)) = true := rfl
    simp only [e, cond_true, fault_eq, some_bind']
    rw [wrap_in (by omega)]
    rfl
  rw [if_neg h6, if_neg h6]
  simp only [e2, cond_false]
  have hd := digs_of_bad h6
  by_cases h7 : 6 < d.length
  · rw [bif_pos (by omega), if_pos h7]; rfl
  rw [bif_neg (by omega), if_neg h7]
  have := rate_digs_loop n _ (fun e12_b0_0 e12_b0_1 e12_b1_0 e12_b1_1 e12_b2_0 e12_b2_1 e12_b3_0 =>
                    bif e12_b3_0 == (0 : Int) then
                      (F.num_fault n (10 : Int) (0 : Int)).bind fun y13 =>
                        some ((y13.1, (y13.2.1.1, y13.2.1.2.1, ()), ()))
                    else
                      some ((e12_b3_0, ((0 : Int), (0 : Int), ()), ()))) d hd (by omega) 0 0 0 0 0 0 6 0 n (by omega) (by omega)
  refine this.trans ?_
  have hpp : 0 < 10 ^ (6 - d.length) := Nat.pow_pos (by omega)
  by_cases h8 : val d = 0
  · rw [if_pos h8, h8, Nat.zero_mul]; rfl
  · rw [if_neg h8]
    have : ¬ ((val d * 10 ^ (6 - d.length) : Nat) : Int) = 0 := by
      have := Nat.mul_pos (Nat.pos_of_ne_zero h8) hpp
      omega
    have e : (((val d * 10 ^ (6 - d.length) : Nat) : Int) == 0) = false := by simpa using this
    rw [e, cond_false]
    rfl
theorem awake05 (n : Nat) (hn : 100 ≤ n) : F.law05_awake n = some true := by
  unfold F.law05_awake
  have t5 : (rateText 500000) = ([48, 46, 53], 0, ()) := by
    obtain ⟨p1, p2, p3, p4⟩ := pad6_all (k := 500000) (by omega)
    have hp : pad6 500000 = [53, 48, 48, 48, 48, 48] := val_inj p3 rfl p2 p4
    unfold rateText
    rw [if_neg (by omega), if_neg (by omega), show (500000 : Int).toNat = 500000 from rfl, hp]
    rfl
  rw [parse_num n _ _ _ (by simp) (by simp; omega), parse_num n _ _ _ (by simp) (by simp; omega), rate_num n hn _ (by simp) (by simp; omega), rate_num n hn _ (by simp) (by simp; omega), rate_num n hn _ (by simp) (by simp; omega), rate_num n hn _ (by simp) (by simp; omega), rate_num n hn _ (by simp) (by simp; omega), rateText_num, t5]
  simp only [some_bind']
  rfl
end Go.AM
set_option linter.unusedVariables false
set_option linter.unusedSimpArgs false
namespace Go.AM
theorem rate_form (d : List UInt8) : rateR (48 :: 46 :: d) = if d = [] then numR 0 13 2 else if 0 ≤ badK isDig 0 d then numR 0 14 (2 + badK isDig 0 d) else if 6 < d.length then numR 0 12 8
    else if val d = 0 then numR 0 10 0 else numR ((val d * 10 ^ (6 - d.length) : Nat) : Int) 0 0 := by
  unfold rateR
  rw [if_neg (by simp), if_neg (by simp), if_neg (by simp), if_neg (by simp)]
  rfl
theorem rate_read (k : Int) (hk : 1 ≤ k ∧ k < 1000000) (z : Nat) : rateR (48 :: 46 :: (trz (pad6 k.toNat) ++ List.replicate z 48)) = if (trz (pad6 k.toNat)).length + z ≤ 6 then numR k 0 0 else numR 0 12 8 := by
  obtain ⟨p1, p2, p3, p4⟩ := pad6_all (k := k.toNat) (by omega)
  have hd : Digs (trz (pad6 k.toNat) ++ List.replicate z 48) := digs_append.2 ⟨trz_digs p3, digs_rep _⟩
  have hne : trz (pad6 k.toNat) ≠ [] := fun hh => by have := (trz_nil p3).1 hh; omega
  have hlen : (trz (pad6 k.toNat) ++ List.replicate z (48 : UInt8)).length = (trz (pad6 k.toNat)).length + z := by simp
  rw [rate_form, if_neg (by simp [hne]), if_neg (by rw [bad_of_digs hd]; omega), hlen]
  have hpad := trz_pad (pad6 k.toNat)
  have hv : val (trz (pad6 k.toNat)) * 10 ^ (6 - (trz (pad6 k.toNat)).length) = k.toNat := by
    rw [p2] at hpad
    have := congrArg val hpad
    rw [val_zeros_right, p4] at this
    exact this.symm
  have hv0 : ¬ val (trz (pad6 k.toNat)) = 0 := fun h => by rw [h] at hv; omega
  have hle := trz_le (pad6 k.toNat)
  by_cases h : (trz (pad6 k.toNat)).length + z ≤ 6
  · rw [if_neg (by omega), if_pos h, val_zeros_right]
    have hp : 0 < 10 ^ z := Nat.pow_pos (by omega)
    rw [if_neg (by have := Nat.mul_pos (Nat.pos_of_ne_zero hv0) hp; omega), Nat.mul_assoc, ← Nat.pow_add, show z + (6 - ((trz (pad6 k.toNat)).length + z)) = 6 - (trz (pad6 k.toNat)).length from by omega, hv]
    rw [show ((k.toNat : Nat) : Int) = k from by omega]
  · rw [if_pos (by omega), if_neg h]
theorem rateText_form {k : Int} (hk : 1 ≤ k ∧ k < 1000000) : rateText k = (48 :: 46 :: trz (pad6 k.toNat), 0, ()) := by
  unfold rateText
  rw [if_neg (by omega), if_neg (by omega)]; rfl
theorem rate_ok {s : List UInt8} (h : (rateR s).2.1.1 = 0) : (rateR s).2.1.2.1 = 0 ∧ 1 ≤ (rateR s).1 ∧ (rateR s).1 ≤ 1000000 ∧ (rateText (rateR s).1).2.1 = 0 ∧
    ∃ a j, s = a ++ List.replicate j 48 ∧ (rateText (rateR s).1).1 = a ∧ a ≠ [] ∧ (∀ x, a.getLast? = some x → x ≠ 48) := by
  by_cases h1 : s = [49]
  · subst h1
    exact ⟨rfl, by decide, by decide, rfl, [49], 0, rfl, rfl, by simp, by simp⟩
  have e := h
  unfold rateR at e
  rw [if_neg h1] at e
  by_cases h2 : s = []
  · rw [if_pos h2] at e; cases e
  rw [if_neg h2] at e
  by_cases h3 : s.head? ≠ some 48
  · rw [if_pos h3] at e; cases e
  rw [if_neg h3] at e
  by_cases h4 : (s.drop 1).head? ≠ some 46
  · rw [if_pos h4] at e; cases e
  clear e
  obtain ⟨d, rfl⟩ : ∃ d, s = 48 :: 46 :: d := by
    cases s with
    | nil => exact absurd rfl h2
    | cons b r => cases r with
      | nil => simp at h4
      | cons c r =>
        simp at h3 h4
        exact ⟨r, by rw [h3, h4]⟩
  rw [rate_form] at h ⊢
  by_cases g1 : d = []
  · rw [if_pos g1] at h; cases h
  rw [if_neg g1] at h ⊢
  by_cases g2 : 0 ≤ badK isDig 0 d
  · rw [if_pos g2] at h; cases h
  rw [if_neg g2] at h ⊢
  by_cases g3 : 6 < d.length
  · rw [if_pos g3] at h; cases h
  rw [if_neg g3] at h ⊢
  by_cases g4 : val d = 0
  · rw [if_pos g4] at h; cases h
  rw [if_neg g4]
  have hd := digs_of_bad g2
  have hp : 0 < 10 ^ (6 - d.length) := Nat.pow_pos (by omega)
  have hpos := Nat.mul_pos (Nat.pos_of_ne_zero g4) hp
  have hub : val d * 10 ^ (6 - d.length) < 1000000 := by
    have h5 := val_lt (digs_append.2 ⟨hd, digs_rep (6 - d.length)⟩)
    rw [val_zeros_right, List.length_append, List.length_replicate, show d.length + (6 - d.length) = 6 from by omega] at h5
    exact h5
  have hk : 1 ≤ ((val d * 10 ^ (6 - d.length) : Nat) : Int) ∧ ((val d * 10 ^ (6 - d.length) : Nat) : Int) < 1000000 := by omega
  have hf := rateText_form hk
  obtain ⟨p1, p2, p3, p4⟩ := pad6_all hub
  have hpd : pad6 (val d * 10 ^ (6 - d.length)) = d ++ List.replicate (6 - d.length) 48 :=
    val_inj p3 (digs_append.2 ⟨hd, digs_rep _⟩) (by simp; omega) (by rw [p4, val_zeros_right])
  have ht : trz (pad6 (val d * 10 ^ (6 - d.length))) = trz d := by rw [hpd, trz_zeros]
  have hne : trz d ≠ [] := fun hh => g4 ((trz_nil hd).1 hh)
  show (0 : Int) = 0 ∧ _ ∧ _ ∧ (rateText ((val d * 10 ^ (6 - d.length) : Nat) : Int)).2.1 = 0 ∧ ∃ a j, _ ∧ (rateText ((val d * 10 ^ (6 - d.length) : Nat) : Int)).1 = a ∧ _
  rw [hf]
  refine ⟨rfl, hk.1, by show ((val d * 10 ^ (6 - d.length) : Nat) : Int) ≤ 1000000; omega, rfl, 48 :: 46 :: trz d, d.length - (trz d).length, ?_, ?_, by simp, ?_⟩
  · rw [List.cons_append, List.cons_append, ← trz_pad]
  · show 48 :: 46 :: trz (pad6 (val d * 10 ^ (6 - d.length))) = _
    rw [ht]
  · intro x hx
    refine trz_last (l := d) ?_
    rw [← hx]
    cases e : trz d with
    | nil => exact absurd e hne
    | cons b r => simp [List.getLast?_cons]
theorem rate_zero {s : List UInt8} (h : ¬ (rateR s).2.1.1 = 0) : (rateR s).1 = 0 := by
  unfold rateR at h ⊢
  by_cases h1 : s = [49]
  · rw [if_pos h1] at h; exact absurd rfl h
  rw [if_neg h1] at h ⊢
  by_cases h2 : s = []
  · rw [if_pos h2]; rfl
  rw [if_neg h2] at h ⊢
  by_cases h3 : s.head? ≠ some 48
  · rw [if_pos h3]; rfl
  rw [if_neg h3] at h ⊢
  by_cases h4 : (s.drop 1).head? ≠ some 46
  · rw [if_pos h4]; rfl
  rw [if_neg h4] at h ⊢
  by_cases g1 : s.drop 2 = []
  · rw [if_pos g1]; rfl
  rw [if_neg g1] at h ⊢
  by_cases g2 : 0 ≤ badK isDig 0 (s.drop 2)
  · rw [if_pos g2]; rfl
  rw [if_neg g2] at h ⊢
  by_cases g3 : 6 < (s.drop 2).length
  · rw [if_pos g3]; rfl
  rw [if_neg g3] at h ⊢
  by_cases g4 : val (s.drop 2) = 0
  · rw [if_pos g4]; rfl
  rw [if_neg g4] at h
  exact absurd rfl h
theorem strip_round {X : Type} (a : List UInt8) (ha : a ≠ []) (hl : ∀ x, a.getLast? = some x → x ≠ 48) (hal : a.length < 1000) (j : Nat) (hj : j < 1000) (rec k2 : List UInt8 → Option X) :
    (bif decide (((a ++ List.replicate j (48 : UInt8)).length : Int) > (1 : Int)) then
      (idx (a ++ List.replicate j (48 : UInt8)) (IntKind.wrap .i64 (((a ++ List.replicate j (48 : UInt8)).length : Int) - (1 : Int)))).bind fun x12 =>
      bif ((x12.toNat : Int)) == (48 : Int) then
        (sub (a ++ List.replicate j (48 : UInt8)) (0 : Int) (IntKind.wrap .i64 (((a ++ List.replicate j (48 : UInt8)).length : Int) - (1 : Int)))).bind fun x13 => rec x13
      else k2 (a ++ List.replicate j (48 : UInt8))
    else k2 (a ++ List.replicate j (48 : UInt8))) = match j with | 0 => k2 a | j + 1 => rec (a ++ List.replicate j 48) := by
  have hp : 0 < a.length := List.length_pos_iff.2 ha
  cases j with
  | zero =>
    rw [List.replicate_zero, List.append_nil]
    by_cases h1 : 1 < a.length
    · rw [bif_pos (by omega), wrap_in (by omega), idx_pred hp]
      have hg : a[a.length - 1]? = a.getLast? := by rw [List.getLast?_eq_getElem?]
      rw [hg]
      cases e : a.getLast? with
      | none => simp at e; exact absurd e ha
      | some x =>
        have hx := hl x e
        have e2 : ((x.toNat : Int) == 48) = false := by
          have : ¬ (x.toNat : Int) = 48 := fun h => hx (u8_ext (by simp; omega))
          simpa using this
        rw [some_bind', e2, cond_false]
    · rw [bif_neg (by omega)]
  | succ j =>
    rw [List.replicate_succ', ← List.append_assoc]
    have hlen : (a ++ List.replicate j (48 : UInt8) ++ [48]).length = a.length + j + 1 := by simp; omega
    rw [bif_pos (by omega), wrap_in (by omega), idx_pred (by omega)]
    have hg : (a ++ List.replicate j (48 : UInt8) ++ [48])[(a ++ List.replicate j (48 : UInt8) ++ [48]).length - 1]? = some 48 := by
      rw [← List.getLast?_eq_getElem?]; simp
    rw [hg, some_bind']
    have e2 : ((((48 : UInt8).toNat : Nat) : Int) == 48) = true := rfl
    rw [e2, cond_true]
    have hs : sub (a ++ List.replicate j (48 : UInt8) ++ [48]) 0 (((a ++ List.replicate j (48 : UInt8) ++ [48]).length : Int) - 1) = some (a ++ List.replicate j 48) := by
      have := sub_nat (a ++ List.replicate j (48 : UInt8) ++ [48]) 0 (a.length + j) (by omega) (by rw [hlen]; omega)
      rw [hlen, show (((a.length + j + 1 : Nat) : Int) - 1) = ((a.length + j : Nat) : Int) from by omega]
      refine this.trans ?_
      rw [List.drop_zero, List.take_append_of_le_length (by simp), List.take_of_length_le (by simp)]
    rw [hs, some_bind']
theorem strip25 (n : Nat) (X : Type) (k2 : (List UInt8) → (List UInt8) → Int → Int → Int → Int → Int → Int → Option X) (a u : List UInt8) (b c d e f g : Int) (ha : a ≠ []) (hl : ∀ x, a.getLast? = some x → x ≠ 48) (hal : a.length < 1000) : ∀ (j m : Nat), j < m → j < 1000 →
    F.law05_NumRateBack.L25 n k2 m (a ++ List.replicate j 48) u b c d e f g = k2 a u b c d e f g := by
  intro j
  induction j with
  | zero =>
    intro m hm hj
    obtain ⟨m, rfl⟩ : ∃ q, m = q + 1 := ⟨m - 1, by omega⟩
    exact strip_round a ha hl hal 0 hj (fun x => F.law05_NumRateBack.L25 n k2 m x u b c d e f g) (fun x => k2 x u b c d e f g)
  | succ j ih =>
    intro m hm hj
    obtain ⟨m, rfl⟩ : ∃ q, m = q + 1 := ⟨m - 1, by omega⟩
    exact (strip_round a ha hl hal (j + 1) hj (fun x => F.law05_NumRateBack.L25 n k2 m x u b c d e f g) (fun x => k2 x u b c d e f g)).trans (ih m (by omega) (by omega))
theorem strip25_1 (n : Nat) (X : Type) (k2 : (List UInt8) → (List UInt8) → Int → Int → Int → Int → Option X) (a u : List UInt8) (b c d e : Int) (ha : a ≠ []) (hl : ∀ x, a.getLast? = some x → x ≠ 48) (hal : a.length < 1000) : ∀ (j m : Nat), j < m → j < 1000 →
    F.law05_NumRateBack.L25_1 n k2 m (a ++ List.replicate j 48) u b c d e = k2 a u b c d e := by
  intro j
  induction j with
  | zero =>
    intro m hm hj
    obtain ⟨m, rfl⟩ : ∃ q, m = q + 1 := ⟨m - 1, by omega⟩
    exact strip_round a ha hl hal 0 hj (fun x => F.law05_NumRateBack.L25_1 n k2 m x u b c d e) (fun x => k2 x u b c d e)
  | succ j ih =>
    intro m hm hj
    obtain ⟨m, rfl⟩ : ∃ q, m = q + 1 := ⟨m - 1, by omega⟩
    exact (strip_round a ha hl hal (j + 1) hj (fun x => F.law05_NumRateBack.L25_1 n k2 m x u b c d e) (fun x => k2 x u b c d e)).trans (ih m (by omega) (by omega))
theorem strip25_2 (n : Nat) (X : Type) (k2 : (List UInt8) → (List UInt8) → Int → Int → Option X) (a u : List UInt8) (b c : Int) (ha : a ≠ []) (hl : ∀ x, a.getLast? = some x → x ≠ 48) (hal : a.length < 1000) : ∀ (j m : Nat), j < m → j < 1000 →
    F.law05_NumRateBack.L25_2 n k2 m (a ++ List.replicate j 48) u b c = k2 a u b c := by
  intro j
  induction j with
  | zero =>
    intro m hm hj
    obtain ⟨m, rfl⟩ : ∃ q, m = q + 1 := ⟨m - 1, by omega⟩
    exact strip_round a ha hl hal 0 hj (fun x => F.law05_NumRateBack.L25_2 n k2 m x u b c) (fun x => k2 x u b c)
  | succ j ih =>
    intro m hm hj
    obtain ⟨m, rfl⟩ : ∃ q, m = q + 1 := ⟨m - 1, by omega⟩
    exact (strip_round a ha hl hal (j + 1) hj (fun x => F.law05_NumRateBack.L25_2 n k2 m x u b c) (fun x => k2 x u b c)).trans (ih m (by omega) (by omega))
theorem zeros_loop (n : Nat) (X : Type) (k0 : Int → (List UInt8) → (List UInt8) → (List UInt8) → Int → Int → Option X) (a : Int) (s t : List UInt8) (z : Int) (p q : Int) (ht : t.length < 1000) (hz : z ≤ 6) : ∀ (j i m : Nat), (i : Int) + j = z → j < m →
    F.law05_NumRateBack.L11 n k0 m a z s t (t ++ List.replicate i 48) (i : Int) p q = k0 a s t (t ++ List.replicate z.toNat 48) p q := by
  intro j
  induction j with
  | zero =>
    intro i m hi hm
    obtain ⟨m, rfl⟩ : ∃ q, m = q + 1 := ⟨m - 1, by omega⟩
    show F.law05_NumRateBack.L11.step n _ k0 _ _ _ _ _ _ _ _ = _
    unfold F.law05_NumRateBack.L11.step
    rw [bif_neg (by omega), show z.toNat = i from by omega]
  | succ j ih =>
    intro i m hi hm
    obtain ⟨m, rfl⟩ : ∃ q, m = q + 1 := ⟨m - 1, by omega⟩
    show F.law05_NumRateBack.L11.step n (F.law05_NumRateBack.L11 n k0 m) k0 _ _ _ _ _ _ _ _ = _
    unfold F.law05_NumRateBack.L11.step
    rw [bif_pos (by omega), bif_pos (by simp [strMax_eq]; omega), wrap_succ (by omega), List.append_assoc, ← List.replicate_succ']
    exact ih (i + 1) m (by omega) (by omega)
theorem zeros0 (n : Nat) (hn : 1000 ≤ n) (X : Type) (k0 : Int → (List UInt8) → (List UInt8) → (List UInt8) → Int → Int → Option X) (a : Int) (s t : List UInt8) (z : Int) (p q : Int) (ht : t.length < 1000) (hz : 0 ≤ z ∧ z ≤ 6) :
    F.law05_NumRateBack.L11 n k0 n a z s t t 0 p q = k0 a s t (t ++ List.replicate z.toNat 48) p q := by
  have := zeros_loop n X k0 a s t z p q ht hz.2 z.toNat 0 n (by omega) (by omega)
  rw [List.replicate_zero, List.append_nil] at this
  exact this
theorem tail_gen (n : Nat) (hn : 1000 ≤ n) (s : List UInt8) (hs : s.length ≤ 200) (L : NumR → List UInt8 → Option Bool) (hL : ∀ (y : NumR) (a : List UInt8) (j : Nat), s = a ++ List.replicate j 48 → a ≠ [] → (∀ x, a.getLast? = some x → x ≠ 48) → L y a = some true) :
    ((F.num_Rate n s).bind fun y =>
      bif !((y.2.1.1 == (0 : Int)) && (y.2.1.2.1 == (0 : Int))) then bif y.1 == (0 : Int) then some true else some (false)
      else (F.num_RateText n y.1).bind fun u =>
        bif !(u.2.1 == (0 : Int)) then some (false)
        else bif decide (y.1 < (1 : Int)) then some (false)
        else bif decide (y.1 > (1000000 : Int)) then some (false)
        else L y u.1) = some true := by
  rw [rate_num n (by omega) s (by omega) (by omega), some_bind']
  by_cases h : (rateR s).2.1.1 = 0
  · obtain ⟨r1, r2, r3, r4, a, j, r5, r6, r7, r8⟩ := rate_ok h
    rw [h, r1, rateText_num, some_bind', r4, bif_neg (by omega), bif_neg (by omega), r6, hL _ a j r5 r7 r8]
    rfl
  · have e : ((rateR s).2.1.1 == 0) = false := by simpa using h
    rw [e, rate_zero h]; rfl
theorem num_rateBack (n : Nat) (hn : 1000 ≤ n) (k z : Int) (s : List UInt8) : F.law05_NumRateBack n k z s = some true := by
  unfold F.law05_NumRateBack
  rw [awake05 n (by omega)]
  simp only [some_bind']
  by_cases h : 200 < s.length
  · rw [bif_pos (by omega)]
  rw [bif_neg (by omega)]
  by_cases hz0 : z < 0
  · rw [bif_pos hz0]
  rw [bif_neg hz0]
  by_cases hz6 : z > 6
  · rw [bif_pos hz6]
  rw [bif_neg hz6, rateText_num, some_bind']
  have fin : ∀ (a : List UInt8), (bif a == a then some true else some false) = some true := by intro a; simp
  by_cases hk : k < 1 ∨ k > 1000000
  · have e : rateText k = ([], 10, ()) := by unfold rateText; rw [if_pos hk]
    rw [e]
    have e1 : ((10 : Int) == 0) = false := rfl
    simp only [e1, cond_false]
    have T := tail_gen n hn s (by omega) (fun y u => F.law05_NumRateBack.L25_2 n (fun e51_2 e51_17 e51_b0_0 e51_b0_1 => bif e51_17 == e51_2 then some true else some (false)) n s u y.2.1.1 y.2.1.2.1)
      (fun y a j h1 h2 h3 => by
        have hlen := congrArg List.length h1
        simp at hlen
        show F.law05_NumRateBack.L25_2 n _ n s a _ _ = _
        conv => lhs; rw [h1]
        rw [strip25_2 n _ _ a a _ _ h2 h3 (by omega) j n (by omega) (by omega)]
        exact fin a)
    by_cases h1 : k ≥ 1
    · rw [bif_pos h1, bif_neg (by omega)]; exact T
    · rw [bif_neg h1]; exact T
  by_cases hk1 : k = 1000000
  · subst hk1
    have e : rateText 1000000 = ([49], 0, ()) := rfl
    rw [e]
    have e1 : ((0 : Int) == 0) = true := rfl
    simp only [e1, cond_true]
    rw [rate_num n (by omega) _ (by simp) (by simp; omega)]
    have e2 : rateR [49] = numR 1000000 0 0 := rfl
    rw [e2, some_bind']
    have T := tail_gen n hn s (by omega) (fun y u => F.law05_NumRateBack.L25_1 n (fun e39_2 e39_17 e39_b0_0 e39_b0_1 e39_b1_0 e39_b1_1 => bif e39_17 == e39_2 then some true else some (false)) n s u 0 0 y.2.1.1 y.2.1.2.1)
      (fun y a j h1 h2 h3 => by
        have hlen := congrArg List.length h1
        simp at hlen
        show F.law05_NumRateBack.L25_1 n _ n s a _ _ _ _ = _
        conv => lhs; rw [h1]
        rw [strip25_1 n _ _ a a _ _ _ _ h2 h3 (by omega) j n (by omega) (by omega)]
        exact fin a)
    exact T
  · have e := rateText_form (k := k) (by omega)
    rw [e]
    have e1 : ((0 : Int) == 0) = true := rfl
    simp only [e1, cond_true]
    obtain ⟨p1, p2, p3, p4⟩ := pad6_all (k := k.toNat) (by omega)
    have hle := trz_le (pad6 k.toNat)
    have hR := rate_read k (by omega)
    have hR0 := hR 0
    rw [List.replicate_zero, List.append_nil, if_pos (by omega)] at hR0
    have hlast : ∀ x, (48 :: 46 :: trz (pad6 k.toNat)).getLast? = some x → x ≠ 48 := by
      intro x hx
      have hne : trz (pad6 k.toNat) ≠ [] := fun hh => by have := (trz_nil p3).1 hh; omega
      refine trz_last (l := pad6 k.toNat) ?_
      rw [← hx]
      cases e : trz (pad6 k.toNat) with
      | nil => exact absurd e hne
      | cons b r => simp [List.getLast?_cons]
    generalize hT : trz (pad6 k.toNat) = t at hR hR0 hle hlast ⊢
    rw [rate_num n (by omega) _ (by simp; omega) (by simp; omega), some_bind', hR0]
    simp only [numR]
    have e2 : (!(k == k)) = false := by simp
    have e3 : (!((0 : Int) == 0 && (0 : Int) == 0)) = false := rfl
    rw [e2, e3, cond_false, cond_false, bif_neg (by simp; omega), bif_pos (by omega)]
    refine (zeros0 n hn _ _ k s (48 :: 46 :: t) z 0 0 (by simp; omega) (by omega)).trans ?_
    have hw : (48 :: 46 :: t) ++ List.replicate z.toNat 48 = 48 :: 46 :: (t ++ List.replicate z.toNat 48) := rfl
    have hwl : (48 :: 46 :: (t ++ List.replicate z.toNat (48 : UInt8))).length = t.length + z.toNat + 2 := by simp
    rw [hw, rate_num n (by omega) _ (by omega) (by omega), some_bind', hR z.toNat, hwl]
    have T : ∀ b c d e, _ := fun b c d e => tail_gen n hn s (by omega) (fun y u => F.law05_NumRateBack.L25 n (fun e14_2 e14_17 e14_b0_0 e14_b0_1 e14_b1_0 e14_b1_1 e14_b2_0 e14_b2_1 => bif e14_17 == e14_2 then some true else some (false)) n s u b c d e y.2.1.1 y.2.1.2.1)
      (fun y a j h1 h2 h3 => by
        have hlen := congrArg List.length h1
        simp at hlen
        show F.law05_NumRateBack.L25 n _ n s a _ _ _ _ _ _ = _
        conv => lhs; rw [h1]
        rw [strip25 n _ _ a a _ _ _ _ _ _ h2 h3 (by omega) j n (by omega) (by omega)]
        exact fin a)
    have hidx : ∃ x, idx (48 :: 46 :: t) (IntKind.wrap .i64 ((((48 :: 46 :: t : List UInt8).length : Nat) : Int) - 1)) = some x ∧ ((x.toNat : Int) == 48) = false := by
      have hg : (48 :: 46 :: t)[(48 :: 46 :: t).length - 1]? = (48 :: 46 :: t : List UInt8).getLast? := by rw [List.getLast?_eq_getElem?]
      rw [wrap_in (by simp; omega), idx_pred (by simp), hg]
      cases e : (48 :: 46 :: t : List UInt8).getLast? with
      | none => simp at e
      | some x =>
        refine ⟨x, rfl, ?_⟩
        have hx := hlast x e
        have : ¬ (x.toNat : Int) = 48 := fun h => hx (u8_ext (by simp; omega))
        simpa using this
    obtain ⟨x, hx1, hx2⟩ := hidx
    by_cases h8 : t.length + z.toNat ≤ 6
    · rw [if_pos h8, bif_pos (by omega)]
      simp only [numR]
      rw [e2, e3, cond_false, cond_false, bif_neg (by omega), hx1, some_bind', hx2, cond_false]
      exact T _ _ _ _
    · rw [if_neg h8, bif_neg (by omega), bif_pos (by omega)]
      simp only [numR]
      have e4 : (!((0 : Int) == 0)) = false := rfl
      have e5 : (!((12 : Int) == 12 && (8 : Int) == 8)) = false := rfl
      rw [e4, e5, cond_false, cond_false, hx1, some_bind', hx2, cond_false]
      exact T _ _ _ _
end Go.AM
namespace Go.Proofs.YthfaagjjkdoedaaDoor.numRateBack
open Go.ChangeShapes Go.WideShapes Go.ChangeAt Go.RowKit Go.AM
theorem own : ownKnob Tryd.prog.godebug = none := by kernel_rfl
theorem goes : LawGoes Tryd.prog SI 3 [(.int .i64), (.int .i64), .str] := fun x hx w vals hI hr =>
  ok3 _ (x.1, x.2.1, x.2.2.1, ()) true (num_rateBack 1000 (by omega) x.1 x.2.1 x.2.2.1) w (AllD w) vals (WOf.of hI) hr (fun b o h => h)
noncomputable def laidWorld (os : Os) : World := laidOf Tryd.prog os [layTab 6 Rows.laid_math_bits_deBruijn32tab, layTab 7 Rows.laid_math_bits_deBruijn64tab, layTab 2 Rows.laid_internal_strconv_uint64pow10, layTab 4 Rows.laid_unicode_utf8_acceptRanges, layErr 1 101 103 Rows.laid_strconv_ErrRange, layErr 0 101 103 Rows.laid_strconv_ErrSyntax, layTab 3 Rows.laid_unicode_utf8_first]
theorem laid_met (os : Os) (args : Array Value) : laidMet Tryd.prog Rows.numRateBackRow.laid ((laidWorld os).forCall (fun _ _ => 0) ⟨#[], args, []⟩).memory :=
  (LaidIn.of_run [6, 7, 2, 4, 1, 0, 3, (World.holding Tryd.prog os ⟨#[], #[], []⟩).heap.size, (World.holding Tryd.prog os ⟨#[], #[], []⟩).heap.size + 1] 8 (by kernel_rfl) (by kernel_rfl) (by kernel_rfl) (by kernel_rfl)).met
theorem witness_row (os : Os) {H : Type} (enc : TypeId × Value → H) :
    (OpenSpec.ofChange Rows.numRateBackSpec).preRow enc Tryd.prog Tryd.f3 Rows.numRateBackRow.domain false Rows.numRateBackRow.laid ((laidWorld os).forCall (fun _ _ => 0) ⟨#[], #[.int .i64 0, .int .i64 0, .string .empty], []⟩).memory #[.int .i64 0, .int .i64 0, .string .empty] := by
  have hw : (DataW.whole enc Tryd.prog ((laidWorld os).forCall (fun _ _ => 0) ⟨#[], #[.int .i64 0, .int .i64 0, .string .empty], []⟩).memory Tryd.f3.params.toList Rows.numRateBackSpec.vars false (#[.int .i64 0, .int .i64 0, .string .empty] : Array Value).toList 8).map (fun x => (x.1, x.2.1)) =
      some ([.lit (.int .i64 0), .lit (.int .i64 0), .lit (.string [])], []) := by kernel_rfl
  obtain ⟨⟨x1, x2, x3⟩, hx, hx1⟩ := Option.map_eq_some_iff.1 hw
  simp only [Prod.mk.injEq] at hx1
  obtain ⟨rfl, rfl⟩ := hx1
  exact OpenSpec.preRow_of_cond 8 hx (by kernel_rfl) (fun k hk => by cases hk) (by kernel_rfl) (laid_met os _)
set_option maxRecDepth 100000 in
theorem lifted (os : Os) (started : os.Started) (H : Type) (enc : TypeId × Value → H) (F : Stop.Interp) :
    ReturnsInHanded {} Tryd.checked os 3 .any ((OpenSpec.ofChange Rows.numRateBackSpec).preRow enc Tryd.prog Tryd.f3 Rows.numRateBackRow.domain false Rows.numRateBackRow.laid) (((OpenSpec.ofChange Rows.numRateBackSpec).at F).post enc Tryd.prog Tryd.f3 false true false false) := by
  refine returnsInHanded_of_row (C := Tryd.checked) (s := OpenSpec.ofChange Rows.numRateBackSpec) own started (by kernel_rfl) Tryd.func3
    (witness_row_atRef (enc := enc) (C := Tryd.checked) false (laidWorld os) #[.int .i64 0, .int .i64 0, .string .empty] rfl (by kernel_rfl) (by kernel_rfl) (by kernel_rfl) (witness_row os enc)) ?_
  intro W base args ds gs before hval hW _ _ hw hL hO _
  exact law_calls (s := Rows.numRateBackSpec) (n := 8) (by kernel_rfl) Tryd.func3 (by kernel_rfl) (by decide) (by kernel_rfl) rfl Tryd.underlying4 rfl (fun ds h => by match ds, h with | [_, _, _], _ => rfl) goes hval hW hw ⟨hL, hO⟩
theorem said : Rows.NumRateBackSaid :=
  OpenClaim.holds_of_cond 3 Tryd.f3 rfl rfl rfl rfl rfl rfl rfl ⟨rfl, rfl, rfl, rfl, rfl⟩ rfl rfl rfl rfl rfl (by kernel_rfl) Tryd.func3 (by kernel_rfl)
    (of_decide_eq_true (by kernel_rfl)) (by unfold Func.isWrapper; first | (rw [if_pos (by decide +kernel)]; kernel_rfl) | (rw [if_neg (by decide +kernel)]; exact ⟨rfl, rfl⟩))
    (fun os started H enc _ F => by rw [OpenClaim.pre_eq_preRow]; exact lifted os started H enc F)
theorem plain (f : FuncId) (fn : Func) (hf : Tryd.pinned.checked.prog.funcNamed "forebay/forebaylaw05.NumRateBack" = some f) (hfn : Tryd.pinned.checked.prog.funcs[f]? = some fn) :
    true = Tryd.pinned.checked.prog.looks [] ∧ ∀ (j : Nat) t, fn.params[j]? = some t → Tryd.pinned.checked.prog.wantsStandIn t = false := by
  obtain rfl : f = 3 := Option.some.inj ((show Tryd.prog.funcNamed "forebay/forebaylaw05.NumRateBack" = some 3 by kernel_rfl).symm.trans hf) |>.symm
  obtain rfl : fn = Tryd.f3 := (Option.some.inj (Tryd.func3.symm.trans hfn)).symm
  refine ⟨by kernel_rfl, fun j t ht => ?_⟩
  have hm : t ∈ ([3, 3, 9] : List TypeId) := by
    rw [Tryd.params3] at ht
    have := Array.mem_of_getElem? ht
    simpa using this
  have all : ∀ x ∈ ([3, 3, 9] : List TypeId), Tryd.prog.wantsStandIn x = false := fun x hx => by
    have h : ([3, 3, 9] : List TypeId).all (fun x => Tryd.prog.wantsStandIn x == false) = true := by kernel_rfl
    simpa using List.all_eq_true.1 h x hx
  exact all t hm
theorem proved : Rows.NumRateBackCardSaid :=
  Claim7.holds_tied_plain_at .later [] _ _ _ _ said (fun _ h => by cases h) (by kernel_rfl) (fun _ h => by cases h) numRateBack_row_tie rfl ⟨rfl, rfl⟩ (by kernel_rfl) rfl plain (by kernel_rfl)
end Go.Proofs.YthfaagjjkdoedaaDoor.numRateBack
