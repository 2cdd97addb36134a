/- Part 3 of a proof by the abstract machine. -/
import Derived.Test.YtpnaofiiekopcaaDoorQ2
set_option linter.unusedVariables false
namespace Go.AM
noncomputable def F.dec_times (n : Nat) (a0 : Int) (a1 : Int) : Option ((Int) × (Bool) × Unit) :=
  (O.mul64 n a0 (10 : Int)).bind fun y1 =>
    (O.add64 n y1.2.1 a1 (0 : Int)).bind fun y2 =>
      bif y1.1 == (0 : Int) then
        some ((y2.1, y2.2.1 == (0 : Int), ()))
      else
        some ((y2.1, false, ()))
noncomputable def F.dec_Normal.L3.step {X : Type} (n : Nat) (rec : Bool → Int → Int → Bool → Int → Int → Option X) (k0 : Bool → Int → Int → Bool → Int → Int → Option X) (vb0_0 : Bool) (vb0_1 : Int) (vb0_2 : Int) (vb1_0 : Bool) (vb1_1 : Int) (vb1_2 : Int) : Option X :=
  bif (vb0_1.tmod (10 : Int)) == (0 : Int) then
    bif decide (vb0_2 < (18 : Int)) then
      rec vb0_0 (IntKind.wrap .u64 (vb0_1.tdiv (10 : Int))) (IntKind.wrap .i64 (vb0_2 + (1 : Int))) vb1_0 vb1_1 vb1_2
    else
      k0 vb0_0 vb0_1 vb0_2 vb1_0 vb1_1 vb1_2
  else
    k0 vb0_0 vb0_1 vb0_2 vb1_0 vb1_1 vb1_2
noncomputable def F.dec_Normal.L3 {X : Type} (n : Nat) (k0 : Bool → Int → Int → Bool → Int → Int → Option X) : Nat → Bool → Int → Int → Bool → Int → Int → Option X
  | 0 => fun _ _ _ _ _ _ => none
  | m + 1 => fun vb0_0 vb0_1 vb0_2 vb1_0 vb1_1 vb1_2 => F.dec_Normal.L3.step n (F.dec_Normal.L3 n k0 m) k0 vb0_0 vb0_1 vb0_2 vb1_0 vb1_1 vb1_2
noncomputable def F.dec_Normal.L5.step {X : Type} (n : Nat) (rec : Bool → Int → Int → Bool → Int → Int → Option X) (k2 : Bool → Int → Int → Bool → Int → Int → Option X) (kr : Int → Bool → Int → Int → Bool → Int → Int → Option X) (vb0_0 : Bool) (vb0_1 : Int) (vb0_2 : Int) (vb1_0 : Bool) (vb1_1 : Int) (vb1_2 : Int) : Option X :=
  bif decide (vb0_2 > (18 : Int)) then
    (F.dec_times n vb0_1 (0 : Int)).bind fun y2 =>
      bif !y2.2.1 then
        kr (10 : Int) vb0_0 vb0_1 vb0_2 false (0 : Int) (0 : Int)
      else
        rec vb0_0 y2.1 (IntKind.wrap .i64 (vb0_2 - (1 : Int))) vb1_0 vb1_1 vb1_2
  else
    k2 vb0_0 vb0_1 vb0_2 vb1_0 vb1_1 vb1_2
noncomputable def F.dec_Normal.L5 {X : Type} (n : Nat) (k2 : Bool → Int → Int → Bool → Int → Int → Option X) (kr : Int → Bool → Int → Int → Bool → Int → Int → Option X) : Nat → Bool → Int → Int → Bool → Int → Int → Option X
  | 0 => fun _ _ _ _ _ _ => none
  | m + 1 => fun vb0_0 vb0_1 vb0_2 vb1_0 vb1_1 vb1_2 => F.dec_Normal.L5.step n (F.dec_Normal.L5 n k2 kr m) k2 kr vb0_0 vb0_1 vb0_2 vb1_0 vb1_1 vb1_2
noncomputable def F.dec_Normal (n : Nat) (a0 : (Bool) × (Int) × (Int) × Unit) : Option (((Bool) × (Int) × (Int) × Unit) × (Int) × Unit) :=
  bif a0.2.1 == (0 : Int) then
    some (((false, (0 : Int), (0 : Int), ()), (0 : Int), ()))
  else
    F.dec_Normal.L3 n
      (fun e1_b0_0 e1_b0_1 e1_b0_2 e1_b1_0 e1_b1_1 e1_b1_2 =>
        F.dec_Normal.L5 n
          (fun e3_b0_0 e3_b0_1 e3_b0_2 e3_b1_0 e3_b1_1 e3_b1_2 =>
            bif decide (e3_b0_2 < (-18 : Int)) then
              some (((false, (0 : Int), (0 : Int), ()), (10 : Int), ()))
            else
              some (((e3_b0_0, e3_b0_1, e3_b0_2, ()), (0 : Int), ())))
          (fun e4_3 e4_b0_0 e4_b0_1 e4_b0_2 e4_b1_0 e4_b1_1 e4_b1_2 =>
            some (((e4_b1_0, e4_b1_1, e4_b1_2, ()), e4_3, ()))) n e1_b0_0 e1_b0_1 e1_b0_2 e1_b1_0 e1_b1_1 e1_b1_2) n a0.1 a0.2.1 a0.2.2.1 false (0 : Int) (0 : Int)
noncomputable def F.stringslite_HasPrefix (n : Nat) (a0 : List UInt8) (a1 : List UInt8) : Option (Bool) :=
  bif decide ((a0.length : Int) ≥ (a1.length : Int)) then
    (sub a0 (0 : Int) (a1.length : Int)).bind fun x1 =>
      some (x1 == a1)
  else
    some (false)
noncomputable def F.strings_HasPrefix (n : Nat) (a0 : List UInt8) (a1 : List UInt8) : Option (Bool) :=
  (F.stringslite_HasPrefix n a0 a1).bind fun y1 =>
    some (y1)
noncomputable def F.dec_look.L2_dec_look_1.step {X : Type} (n : Nat) (rec : Int → (List UInt8) → Int → Int → Int → Option X) (k0 : Int → (List UInt8) → Int → Int → Int → Option X) (v3 : Int) (vb0_0 : List UInt8) (vb1_0 : Int) (vb1_1 : Int) (vb2_0 : Int) : Option X :=
  bif decide (vb2_0 < (vb0_0.length : Int)) then
    (idx vb0_0 vb2_0).bind fun x2 =>
      bif decide (((x2).toNat) ≥ (48 : Int)) then
        (idx vb0_0 vb2_0).bind fun x3 =>
          bif decide (((x3).toNat) ≤ (57 : Int)) then
            rec v3 vb0_0 vb1_0 vb1_1 (IntKind.wrap .i64 (vb2_0 + (1 : Int)))
          else
            k0 v3 vb0_0 vb1_0 vb1_1 vb2_0
      else
        k0 v3 vb0_0 vb1_0 vb1_1 vb2_0
  else
    k0 v3 vb0_0 vb1_0 vb1_1 vb2_0
noncomputable def F.dec_look.L2_dec_look_1 {X : Type} (n : Nat) (k0 : Int → (List UInt8) → Int → Int → Int → Option X) : Nat → Int → (List UInt8) → Int → Int → Int → Option X
  | 0 => fun _ _ _ _ _ => none
  | m + 1 => fun v3 vb0_0 vb1_0 vb1_1 vb2_0 => F.dec_look.L2_dec_look_1.step n (F.dec_look.L2_dec_look_1 n k0 m) k0 v3 vb0_0 vb1_0 vb1_1 vb2_0
noncomputable def F.dec_look (n : Nat) (a0 : List UInt8) : Option ((Int) × (Int) × Unit) :=
  (F.strings_HasPrefix n a0 ([45])).bind fun y1 =>
    bif y1 then
      F.dec_look.L2_dec_look_1 n
        (fun e4_3 e4_b0_0 e4_b1_0 e4_b1_1 e4_b2_0 =>
          bif decide (e4_b2_0 > e4_3) then
            (sub e4_b0_0 e4_b2_0 (e4_b0_0.length : Int)).bind fun x5 =>
              (F.strings_HasPrefix n x5 ([46])).bind fun y6 =>
                bif y6 then
                  F.dec_look.L2_dec_look_1 n
                    (fun e7_3 e7_b0_0 e7_b1_0 e7_b1_1 e7_b2_0 =>
                      bif decide (e7_b2_0 > e7_3) then
                        bif e7_b2_0 == (e7_b0_0.length : Int) then
                          some (((0 : Int), (0 : Int), ()))
                        else
                        bif e7_b2_0 == (e7_b0_0.length : Int) then
                          some (((11 : Int), e7_b2_0, ()))
                        else
                          some (((14 : Int), e7_b2_0, ()))
                      else
                      bif e7_b2_0 == (e7_b0_0.length : Int) then
                        some (((11 : Int), e7_b2_0, ()))
                      else
                        some (((14 : Int), e7_b2_0, ()))) n (IntKind.wrap .i64 (e4_b2_0 + (1 : Int))) e4_b0_0 e4_b1_0 e4_b1_1 (IntKind.wrap .i64 (e4_b2_0 + (1 : Int)))
                else
                bif decide (e4_b2_0 > e4_3) then
                  bif e4_b2_0 == (e4_b0_0.length : Int) then
                    some (((0 : Int), (0 : Int), ()))
                  else
                  bif e4_b2_0 == (e4_b0_0.length : Int) then
                    some (((11 : Int), e4_b2_0, ()))
                  else
                    some (((14 : Int), e4_b2_0, ()))
                else
                bif e4_b2_0 == (e4_b0_0.length : Int) then
                  some (((11 : Int), e4_b2_0, ()))
                else
                  some (((14 : Int), e4_b2_0, ()))
          else
          bif decide (e4_b2_0 > e4_3) then
            bif e4_b2_0 == (e4_b0_0.length : Int) then
              some (((0 : Int), (0 : Int), ()))
            else
            bif e4_b2_0 == (e4_b0_0.length : Int) then
              some (((11 : Int), e4_b2_0, ()))
            else
              some (((14 : Int), e4_b2_0, ()))
          else
          bif e4_b2_0 == (e4_b0_0.length : Int) then
            some (((11 : Int), e4_b2_0, ()))
          else
            some (((14 : Int), e4_b2_0, ()))) n (1 : Int) a0 (0 : Int) (0 : Int) (1 : Int)
    else
      F.dec_look.L2_dec_look_1 n
        (fun e8_3 e8_b0_0 e8_b1_0 e8_b1_1 e8_b2_0 =>
          bif decide (e8_b2_0 > e8_3) then
            (sub e8_b0_0 e8_b2_0 (e8_b0_0.length : Int)).bind fun x9 =>
              (F.strings_HasPrefix n x9 ([46])).bind fun y10 =>
                bif y10 then
                  F.dec_look.L2_dec_look_1 n
                    (fun e11_3 e11_b0_0 e11_b1_0 e11_b1_1 e11_b2_0 =>
                      bif decide (e11_b2_0 > e11_3) then
                        bif e11_b2_0 == (e11_b0_0.length : Int) then
                          some (((0 : Int), (0 : Int), ()))
                        else
                        bif e11_b2_0 == (e11_b0_0.length : Int) then
                          some (((11 : Int), e11_b2_0, ()))
                        else
                          some (((14 : Int), e11_b2_0, ()))
                      else
                      bif e11_b2_0 == (e11_b0_0.length : Int) then
                        some (((11 : Int), e11_b2_0, ()))
                      else
                        some (((14 : Int), e11_b2_0, ()))) n (IntKind.wrap .i64 (e8_b2_0 + (1 : Int))) e8_b0_0 e8_b1_0 e8_b1_1 (IntKind.wrap .i64 (e8_b2_0 + (1 : Int)))
                else
                bif decide (e8_b2_0 > e8_3) then
                  bif e8_b2_0 == (e8_b0_0.length : Int) then
                    some (((0 : Int), (0 : Int), ()))
                  else
                  bif e8_b2_0 == (e8_b0_0.length : Int) then
                    some (((11 : Int), e8_b2_0, ()))
                  else
                    some (((14 : Int), e8_b2_0, ()))
                else
                bif e8_b2_0 == (e8_b0_0.length : Int) then
                  some (((11 : Int), e8_b2_0, ()))
                else
                  some (((14 : Int), e8_b2_0, ()))
          else
          bif decide (e8_b2_0 > e8_3) then
            bif e8_b2_0 == (e8_b0_0.length : Int) then
              some (((0 : Int), (0 : Int), ()))
            else
            bif e8_b2_0 == (e8_b0_0.length : Int) then
              some (((11 : Int), e8_b2_0, ()))
            else
              some (((14 : Int), e8_b2_0, ()))
          else
          bif e8_b2_0 == (e8_b0_0.length : Int) then
            some (((11 : Int), e8_b2_0, ()))
          else
            some (((14 : Int), e8_b2_0, ()))) n (0 : Int) a0 (0 : Int) (0 : Int) (0 : Int)
noncomputable def F.stringslite_CutPrefix (n : Nat) (a0 : List UInt8) (a1 : List UInt8) : Option ((List UInt8) × (Bool) × Unit) :=
  (F.stringslite_HasPrefix n a0 a1).bind fun y1 =>
    bif !y1 then
      some ((a0, false, ()))
    else
      (sub a0 (a1.length : Int) (a0.length : Int)).bind fun x2 =>
        some ((x2, true, ()))
noncomputable def F.strings_CutPrefix (n : Nat) (a0 : List UInt8) (a1 : List UInt8) : Option ((List UInt8) × (Bool) × Unit) :=
  (F.stringslite_CutPrefix n a0 a1).bind fun y1 =>
    some ((y1.1, y1.2.1, ()))
noncomputable def F.stringslite_Cut (n : Nat) (a0 : List UInt8) (a1 : List UInt8) : Option ((List UInt8) × (List UInt8) × (Bool) × Unit) :=
  (O.index1 n a0 a1).bind fun y1 =>
    bif decide (y1 ≥ (0 : Int)) then
      (sub a0 (0 : Int) y1).bind fun x2 =>
        (sub a0 (IntKind.wrap .i64 (y1 + (a1.length : Int))) (a0.length : Int)).bind fun x3 =>
          some ((x2, x3, true, ()))
    else
      some ((a0, [], false, ()))
noncomputable def F.strings_Cut (n : Nat) (a0 : List UInt8) (a1 : List UInt8) : Option ((List UInt8) × (List UInt8) × (Bool) × Unit) :=
  (F.stringslite_Cut n a0 a1).bind fun y1 =>
    some ((y1.1, y1.2.1, y1.2.2.1, ()))
noncomputable def F.dec_Parse.L14.step {X : Type} (n : Nat) (rec : (List UInt8) → Int → Int → Bool → Int → Int → Int → Int → Int → Int → Bool → Int → Int → Option X) (k0 : Bool → Int → Int → Int → Int → Int → Int → Bool → Int → Int → Option X) (v10 : List UInt8) (v66 : Int) (v67 : Int) (vb0_0 : Bool) (vb0_1 : Int) (vb0_2 : Int) (vb1_0 : Int) (vb1_1 : Int) (vb2_0 : Int) (vb2_1 : Int) (vb3_0 : Bool) (vb3_1 : Int) (vb3_2 : Int) : Option X :=
  bif decide (v67 < v66) then
    (idx v10 v67).bind fun x7 =>
      (F.dec_times n vb3_1 (IntKind.wrap .u64 (IntKind.wrap .u8 (((x7).toNat) - (48 : Int))))).bind fun y8 =>
        bif !y8.2.1 then
          k0 vb0_0 vb0_1 vb0_2 vb1_0 vb1_1 vb2_0 vb2_1 vb3_0 (1 : Int) (-19 : Int)
        else
          rec v10 v66 (IntKind.wrap .i64 (v67 + (1 : Int))) vb0_0 vb0_1 vb0_2 vb1_0 vb1_1 vb2_0 vb2_1 vb3_0 y8.1 vb3_2
  else
    k0 vb0_0 vb0_1 vb0_2 vb1_0 vb1_1 vb2_0 vb2_1 vb3_0 vb3_1 vb3_2
noncomputable def F.dec_Parse.L14 {X : Type} (n : Nat) (k0 : Bool → Int → Int → Int → Int → Int → Int → Bool → Int → Int → Option X) : Nat → (List UInt8) → Int → Int → Bool → Int → Int → Int → Int → Int → Int → Bool → Int → Int → Option X
  | 0 => fun _ _ _ _ _ _ _ _ _ _ _ _ _ => none
  | m + 1 => fun v10 v66 v67 vb0_0 vb0_1 vb0_2 vb1_0 vb1_1 vb2_0 vb2_1 vb3_0 vb3_1 vb3_2 => F.dec_Parse.L14.step n (F.dec_Parse.L14 n k0 m) k0 v10 v66 v67 vb0_0 vb0_1 vb0_2 vb1_0 vb1_1 vb2_0 vb2_1 vb3_0 vb3_1 vb3_2
noncomputable def F.dec_Parse (n : Nat) (a0 : List UInt8) : Option (((Bool) × (Int) × (Int) × Unit) × ((Int) × (Int) × Unit) × Unit) :=
  (F.dec_look n a0).bind fun y1 =>
    bif !((y1.1 == (0 : Int)) && (y1.2.1 == (0 : Int))) then
      some (((false, (0 : Int), (0 : Int), ()), (y1.1, y1.2.1, ()), ()))
    else
      (F.strings_CutPrefix n a0 ([45])).bind fun y2 =>
        (F.strings_Cut n y2.1 ([46])).bind fun y3 =>
          (O.trimR n y3.2.1 ([48])).bind fun y4 =>
            bif decide (y3.1.length + y4.length ≤ strMax) then
              (O.trimL n (y3.1 ++ y4) ([48])).bind fun y5 =>
                (O.trimR n y5 ([48])).bind fun y6 =>
                  bif (IntKind.wrap .i64 (0 - (y4.length : Int))) == (0 : Int) then
                    bif decide ((y6.length : Int) < (y5.length : Int)) then
                      F.dec_Parse.L14 n
                        (fun e9_b0_0 e9_b0_1 e9_b0_2 e9_b1_0 e9_b1_1 e9_b2_0 e9_b2_1 e9_b3_0 e9_b3_1 e9_b3_2 =>
                          (F.dec_Normal n (e9_b3_0, e9_b3_1, e9_b3_2, ())).bind fun y10 =>
                            bif !(y10.2.1 == (0 : Int)) then
                              some (((false, (0 : Int), (0 : Int), ()), (y10.2.1, (0 : Int), ()), ()))
                            else
                              some (((y10.1.1, y10.1.2.1, y10.1.2.2.1, ()), ((0 : Int), (0 : Int), ()), ()))) n y6 (y6.length : Int) (0 : Int) false (0 : Int) (0 : Int) (0 : Int) (0 : Int) y1.1 y1.2.1 y2.2.1 (0 : Int) (IntKind.wrap .i64 ((y5.length : Int) - (y6.length : Int)))
                    else
                      F.dec_Parse.L14 n
                        (fun e11_b0_0 e11_b0_1 e11_b0_2 e11_b1_0 e11_b1_1 e11_b2_0 e11_b2_1 e11_b3_0 e11_b3_1 e11_b3_2 =>
                          (F.dec_Normal n (e11_b3_0, e11_b3_1, e11_b3_2, ())).bind fun y12 =>
                            bif !(y12.2.1 == (0 : Int)) then
                              some (((false, (0 : Int), (0 : Int), ()), (y12.2.1, (0 : Int), ()), ()))
                            else
                              some (((y12.1.1, y12.1.2.1, y12.1.2.2.1, ()), ((0 : Int), (0 : Int), ()), ()))) n y5 (y5.length : Int) (0 : Int) false (0 : Int) (0 : Int) (0 : Int) (0 : Int) y1.1 y1.2.1 y2.2.1 (0 : Int) (IntKind.wrap .i64 (0 - (y4.length : Int)))
                  else
                    F.dec_Parse.L14 n
                      (fun e13_b0_0 e13_b0_1 e13_b0_2 e13_b1_0 e13_b1_1 e13_b2_0 e13_b2_1 e13_b3_0 e13_b3_1 e13_b3_2 =>
                        (F.dec_Normal n (e13_b3_0, e13_b3_1, e13_b3_2, ())).bind fun y14 =>
                          bif !(y14.2.1 == (0 : Int)) then
                            some (((false, (0 : Int), (0 : Int), ()), (y14.2.1, (0 : Int), ()), ()))
                          else
                            some (((y14.1.1, y14.1.2.1, y14.1.2.2.1, ()), ((0 : Int), (0 : Int), ()), ()))) n y5 (y5.length : Int) (0 : Int) false (0 : Int) (0 : Int) (0 : Int) (0 : Int) y1.1 y1.2.1 y2.2.1 (0 : Int) (IntKind.wrap .i64 (0 - (y4.length : Int)))
            else
              none
noncomputable def F.dec_Check (n : Nat) (a0 : (Bool) × (Int) × (Int) × Unit) : Option (Int) :=
  bif !(a0.2.1 == (0 : Int)) then
    bif decide (a0.2.2.1 < (-18 : Int)) then
      some ((10 : Int))
    else
    bif decide (a0.2.2.1 > (18 : Int)) then
      some ((10 : Int))
    else
      (F.dec_Normal n (a0.1, a0.2.1, a0.2.2.1, ())).bind fun y1 =>
        bif !(y1.2.1 == (0 : Int)) then
          some ((21 : Int))
        else
        bif !((y1.1.1 == a0.1) && ((y1.1.2.1 == a0.2.1) && (y1.1.2.2.1 == a0.2.2.1))) then
          some ((21 : Int))
        else
          some ((0 : Int))
  else
    (F.dec_Normal n (a0.1, a0.2.1, a0.2.2.1, ())).bind fun y2 =>
      bif !(y2.2.1 == (0 : Int)) then
        some ((21 : Int))
      else
      bif !((y2.1.1 == a0.1) && ((y2.1.2.1 == a0.2.1) && (y2.1.2.2.1 == a0.2.2.1))) then
        some ((21 : Int))
      else
        some ((0 : Int))
noncomputable def F.dec_Text (n : Nat) (a0 : (Bool) × (Int) × (Int) × Unit) : Option ((List UInt8) × (Int) × Unit) :=
  (F.dec_Check n (a0.1, a0.2.1, a0.2.2.1, ())).bind fun y1 =>
    bif !(y1 == (0 : Int)) then
      some (([], y1, ()))
    else
      (O.futoa n a0.2.1 (10 : Int)).bind fun y2 =>
        bif decide (a0.2.2.1 ≥ (0 : Int)) then
          (O.repeat' n ([48]) a0.2.2.1).bind fun y3 =>
            bif decide (y2.length + y3.length ≤ strMax) then
              bif a0.1 then
                bif decide (1 + ((y2 ++ y3).length) ≤ strMax) then
                  some ((([45]) ++ (y2 ++ y3), (0 : Int), ()))
                else
                  none
              else
                some ((y2 ++ y3, (0 : Int), ()))
            else
              none
        else
          (O.repeat' n ([48]) (if (IntKind.wrap .i64 ((IntKind.wrap .i64 ((1 : Int) - a0.2.2.1)) - (y2.length : Int))) > (0 : Int) then (IntKind.wrap .i64 ((IntKind.wrap .i64 ((1 : Int) - a0.2.2.1)) - (y2.length : Int))) else (0 : Int))).bind fun y4 =>
            bif decide (y4.length + y2.length ≤ strMax) then
              (sub (y4 ++ y2) (0 : Int) (IntKind.wrap .i64 (((y4 ++ y2).length : Int) + a0.2.2.1))).bind fun x5 =>
                bif decide (x5.length + 1 ≤ strMax) then
                  (sub (y4 ++ y2) (IntKind.wrap .i64 (((y4 ++ y2).length : Int) + a0.2.2.1)) ((y4 ++ y2).length : Int)).bind fun x6 =>
                    bif decide (((x5 ++ ([46])).length) + x6.length ≤ strMax) then
                      bif a0.1 then
                        bif decide (1 + (((x5 ++ ([46])) ++ x6).length) ≤ strMax) then
                          some ((([45]) ++ ((x5 ++ ([46])) ++ x6), (0 : Int), ()))
                        else
                          none
                      else
                        some (((x5 ++ ([46])) ++ x6, (0 : Int), ()))
                    else
                      none
                else
                  none
            else
              none
noncomputable def F.law03_awake (n : Nat) : Option (Bool) :=
  (F.dec_Parse n ([45, 48, 49, 46, 53, 48])).bind fun y1 =>
    (F.dec_Text n (y1.1.1, y1.1.2.1, y1.1.2.2.1, ())).bind fun y2 =>
      (F.dec_Parse n ([49, 46])).bind fun y3 =>
        (F.dec_Parse n ([43, 49])).bind fun y4 =>
          (F.dec_Parse n ([49, 48, 48, 48])).bind fun y5 =>
            (F.dec_Parse n ([57, 57, 57, 57, 57, 57, 57, 57, 57, 57, 57, 57, 57, 57, 57, 57, 57, 57, 57, 57])).bind fun y6 =>
              bif (y1.2.1.1 == (0 : Int)) && (y1.2.1.2.1 == (0 : Int)) then
                bif (y1.1.1 == true) && ((y1.1.2.1 == (15 : Int)) && (y1.1.2.2.1 == (-1 : Int))) then
                  bif y2.1 == ([45, 49, 46, 53]) then
                    bif y2.2.1 == (0 : Int) then
                      bif (y3.2.1.1 == (11 : Int)) && (y3.2.1.2.1 == (2 : Int)) then
                        bif (y4.2.1.1 == (14 : Int)) && (y4.2.1.2.1 == (0 : Int)) then
                          bif (y5.2.1.1 == (0 : Int)) && (y5.2.1.2.1 == (0 : Int)) then
                            bif (y5.1.1 == false) && ((y5.1.2.1 == (1 : Int)) && (y5.1.2.2.1 == (3 : Int))) then
                              some ((y6.2.1.1 == (10 : Int)) && (y6.2.1.2.1 == (0 : Int)))
                            else
                              some (false)
                          else
                            some (false)
                        else
                          some (false)
                      else
                        some (false)
                    else
                      some (false)
                  else
                    some (false)
                else
                  some (false)
              else
                some (false)
noncomputable def F.dec_size (n : Nat) (a0 : (Bool) × (Int) × (Int) × Unit) (a1 : (Bool) × (Int) × (Int) × Unit) : Option (Int) :=
  (O.futoa n a0.2.1 (10 : Int)).bind fun y1 =>
    (O.futoa n a1.2.1 (10 : Int)).bind fun y2 =>
      bif a0.2.1 == (0 : Int) then
        some ((IntKind.wrap .i64 ((if (IntKind.wrap .i64 (if (1 : Int) < a0.2.1 then (1 : Int) else a0.2.1)) < (1 : Int) then (IntKind.wrap .i64 (if (1 : Int) < a0.2.1 then (1 : Int) else a0.2.1)) else (1 : Int)) - (if (IntKind.wrap .i64 (if (1 : Int) < a1.2.1 then (1 : Int) else a1.2.1)) < (1 : Int) then (IntKind.wrap .i64 (if (1 : Int) < a1.2.1 then (1 : Int) else a1.2.1)) else (1 : Int)))))
      else
      bif a1.2.1 == (0 : Int) then
        some ((IntKind.wrap .i64 ((if (IntKind.wrap .i64 (if (1 : Int) < a0.2.1 then (1 : Int) else a0.2.1)) < (1 : Int) then (IntKind.wrap .i64 (if (1 : Int) < a0.2.1 then (1 : Int) else a0.2.1)) else (1 : Int)) - (if (IntKind.wrap .i64 (if (1 : Int) < a1.2.1 then (1 : Int) else a1.2.1)) < (1 : Int) then (IntKind.wrap .i64 (if (1 : Int) < a1.2.1 then (1 : Int) else a1.2.1)) else (1 : Int)))))
      else
      bif !((IntKind.wrap .i64 ((y1.length : Int) + a0.2.2.1)) == (IntKind.wrap .i64 ((y2.length : Int) + a1.2.2.1))) then
        bif decide ((IntKind.wrap .i64 ((y1.length : Int) + a0.2.2.1)) < (IntKind.wrap .i64 ((y2.length : Int) + a1.2.2.1))) then
          some ((-1 : Int))
        else
          some ((1 : Int))
      else
        (O.repeat' n ([48]) (IntKind.wrap .i64 ((if (y2.length : Int) > (y1.length : Int) then (y2.length : Int) else (y1.length : Int)) - (y1.length : Int)))).bind fun y3 =>
          bif decide (y1.length + y3.length ≤ strMax) then
            (O.repeat' n ([48]) (IntKind.wrap .i64 ((if (y2.length : Int) > (y1.length : Int) then (y2.length : Int) else (y1.length : Int)) - (y2.length : Int)))).bind fun y4 =>
              bif decide (y2.length + y4.length ≤ strMax) then
                (O.compare n (y1 ++ y3) (y2 ++ y4)).bind fun y5 =>
                  some (y5)
              else
                none
          else
            none
noncomputable def F.dec_Compare.L2.step {X : Type} (n : Nat) (rec : ((Bool) × (Int) × (Int) × (Bool) × (Int) × (Int) × Unit) → Int → Bool → Int → Int → Bool → Int → Int → Option X) (k0 : Bool → Int → Int → Bool → Int → Int → Option X) (kr : Int → Int → Bool → Int → Int → Bool → Int → Int → Option X) (v11 : (Bool) × (Int) × (Int) × (Bool) × (Int) × (Int) × Unit) (v12 : Int) (vb0_0 : Bool) (vb0_1 : Int) (vb0_2 : Int) (vb1_0 : Bool) (vb1_1 : Int) (vb1_2 : Int) : Option X :=
  bif decide (v12 < (2 : Int)) then
    bif v12 == (0 : Int) then
      (F.dec_Check n (v11.1, v11.2.1, v11.2.2.1, ())).bind fun y1 =>
        bif !(y1 == (0 : Int)) then
          kr (0 : Int) y1 vb0_0 vb0_1 vb0_2 vb1_0 vb1_1 vb1_2
        else
          rec (v11.1, v11.2.1, v11.2.2.1, v11.2.2.2.1, v11.2.2.2.2.1, v11.2.2.2.2.2.1, ()) (IntKind.wrap .i64 (v12 + (1 : Int))) vb0_0 vb0_1 vb0_2 vb1_0 vb1_1 vb1_2
    else
    bif v12 == (1 : Int) then
      (F.dec_Check n (v11.2.2.2.1, v11.2.2.2.2.1, v11.2.2.2.2.2.1, ())).bind fun y2 =>
        bif !(y2 == (0 : Int)) then
          kr (0 : Int) y2 vb0_0 vb0_1 vb0_2 vb1_0 vb1_1 vb1_2
        else
          rec (v11.1, v11.2.1, v11.2.2.1, v11.2.2.2.1, v11.2.2.2.2.1, v11.2.2.2.2.2.1, ()) (IntKind.wrap .i64 (v12 + (1 : Int))) vb0_0 vb0_1 vb0_2 vb1_0 vb1_1 vb1_2
    else
      none
  else
    k0 vb0_0 vb0_1 vb0_2 vb1_0 vb1_1 vb1_2
noncomputable def F.dec_Compare.L2 {X : Type} (n : Nat) (k0 : Bool → Int → Int → Bool → Int → Int → Option X) (kr : Int → Int → Bool → Int → Int → Bool → Int → Int → Option X) : Nat → ((Bool) × (Int) × (Int) × (Bool) × (Int) × (Int) × Unit) → Int → Bool → Int → Int → Bool → Int → Int → Option X
  | 0 => fun _ _ _ _ _ _ _ _ => none
  | m + 1 => fun v11 v12 vb0_0 vb0_1 vb0_2 vb1_0 vb1_1 vb1_2 => F.dec_Compare.L2.step n (F.dec_Compare.L2 n k0 kr m) k0 kr v11 v12 vb0_0 vb0_1 vb0_2 vb1_0 vb1_1 vb1_2
noncomputable def F.dec_Compare (n : Nat) (a0 : (Bool) × (Int) × (Int) × Unit) (a1 : (Bool) × (Int) × (Int) × Unit) : Option ((Int) × (Int) × Unit) :=
  F.dec_Compare.L2 n
    (fun e3_b0_0 e3_b0_1 e3_b0_2 e3_b1_0 e3_b1_1 e3_b1_2 =>
      bif e3_b0_0 then
        bif e3_b1_0 then
          (F.dec_size n (e3_b1_0, e3_b1_1, e3_b1_2, ()) (e3_b0_0, e3_b0_1, e3_b0_2, ())).bind fun y4 =>
            some ((y4, (0 : Int), ()))
        else
        bif e3_b0_0 then
          some (((-1 : Int), (0 : Int), ()))
        else
        bif e3_b1_0 then
          some (((1 : Int), (0 : Int), ()))
        else
          (F.dec_size n (e3_b0_0, e3_b0_1, e3_b0_2, ()) (e3_b1_0, e3_b1_1, e3_b1_2, ())).bind fun y5 =>
            some ((y5, (0 : Int), ()))
      else
      bif e3_b0_0 then
        some (((-1 : Int), (0 : Int), ()))
      else
      bif e3_b1_0 then
        some (((1 : Int), (0 : Int), ()))
      else
        (F.dec_size n (e3_b0_0, e3_b0_1, e3_b0_2, ()) (e3_b1_0, e3_b1_1, e3_b1_2, ())).bind fun y6 =>
          some ((y6, (0 : Int), ())))
    (fun e7_4 e7_5 e7_b0_0 e7_b0_1 e7_b0_2 e7_b1_0 e7_b1_1 e7_b1_2 =>
      some ((e7_4, e7_5, ()))) n (a0.1, a0.2.1, a0.2.2.1, a1.1, a1.2.1, a1.2.2.1, ()) (0 : Int) a0.1 a0.2.1 a0.2.2.1 a1.1 a1.2.1 a1.2.2.1
noncomputable def F.law03_less (n : Nat) (a0 : (Bool) × (Int) × (Int) × Unit) : Option ((Bool) × (Int) × (Int) × Unit) :=
  bif !(a0.2.1 == (0 : Int)) then
    some ((!a0.1, a0.2.1, a0.2.2.1, ()))
  else
    some ((a0.1, a0.2.1, a0.2.2.1, ()))
noncomputable def F.law03_DecOrders.C6 {X : Type} (n : Nat) (kr : Bool → Bool → Int → Int → Bool → Int → Int → Bool → Int → Int → Bool → Int → Int → Bool → Int → Int → Bool → Int → Int → Option X) (kn : Int → Bool → Int → Int → Bool → Int → Int → Bool → Int → Int → Bool → Int → Int → Bool → Int → Int → Bool → Int → Int → Option X) (c4 : Int) (c6 : Int) (p0 : Bool) (p1 : Int) (p2 : Int) (p3 : Bool) (p4 : Int) (p5 : Int) (p6 : Bool) (p7 : Int) (p8 : Int) (q0 : Bool) (q1 : Int) (q2 : Int) (q3 : Bool) (q4 : Int) (q5 : Int) (q6 : Bool) (q7 : Int) (q8 : Int) (w0 : Bool) (w1 : Int) (w2 : Int) : Option X :=
 bif !(c6 == (0 : Int)) then
 bif (w0 == false) && ((w1 == (0 : Int)) && (w2 == (0 : Int))) then
 bif c6 == (10 : Int) then
 (F.law03_awake n ).bind fun y3 =>
 kr y3 p0 p1 p2 p3 p4 p5 p6 p7 p8 q0 q1 q2 q3 q4 q5 q6 q7 q8
 else
 kr false p0 p1 p2 p3 p4 p5 p6 p7 p8 q0 q1 q2 q3 q4 q5 q6 q7 q8
 else
 kr false p0 p1 p2 p3 p4 p5 p6 p7 p8 q0 q1 q2 q3 q4 q5 q6 q7 q8
 else
 bif c4 == (0 : Int) then
 kn c4 p0 p1 p2 p3 p4 p5 p6 p7 p8 w0 w1 w2 q3 q4 q5 q6 q7 q8
 else
 bif c4 == (1 : Int) then
 kn c4 p0 p1 p2 p3 p4 p5 p6 p7 p8 q0 q1 q2 w0 w1 w2 q6 q7 q8
 else
 bif c4 == (2 : Int) then
 kn c4 p0 p1 p2 p3 p4 p5 p6 p7 p8 q0 q1 q2 q3 q4 q5 w0 w1 w2
 else
 none
noncomputable def F.law03_DecOrders.L3.step {X : Type} (n : Nat) (rec : Int → Bool → Int → Int → Bool → Int → Int → Bool → Int → Int → Bool → Int → Int → Bool → Int → Int → Bool → Int → Int → Option X) (k0 : Bool → Int → Int → Bool → Int → Int → Bool → Int → Int → Bool → Int → Int → Bool → Int → Int → Bool → Int → Int → Option X) (kr : Bool → Bool → Int → Int → Bool → Int → Int → Bool → Int → Int → Bool → Int → Int → Bool → Int → Int → Bool → Int → Int → Option X) (v4 : Int) (p0 : Bool) (p1 : Int) (p2 : Int) (p3 : Bool) (p4 : Int) (p5 : Int) (p6 : Bool) (p7 : Int) (p8 : Int) (q0 : Bool) (q1 : Int) (q2 : Int) (q3 : Bool) (q4 : Int) (q5 : Int) (q6 : Bool) (q7 : Int) (q8 : Int) : Option X :=
 bif decide (v4 < (3 : Int)) then
 bif v4 == (0 : Int) then
 (F.dec_Normal n (p0, p1, p2, ())).bind fun y1 =>
 F.law03_DecOrders.C6 n
 (fun e2 r0 r1 r2 r3 r4 r5 r6 r7 r8 s0 s1 s2 s3 s4 s5 s6 s7 s8 =>
 kr e2 r0 r1 r2 r3 r4 r5 r6 r7 r8 s0 s1 s2 s3 s4 s5 s6 s7 s8)
 (fun e4 r0 r1 r2 r3 r4 r5 r6 r7 r8 s0 s1 s2 s3 s4 s5 s6 s7 s8 =>
 rec (IntKind.wrap .i64 (e4 + (1 : Int))) r0 r1 r2 r3 r4 r5 r6 r7 r8 s0 s1 s2 s3 s4 s5 s6 s7 s8) v4 y1.2.1 p0 p1 p2 p3 p4 p5 p6 p7 p8 q0 q1 q2 q3 q4 q5 q6 q7 q8 y1.1.1 y1.1.2.1 y1.1.2.2.1
 else
 bif v4 == (1 : Int) then
 (F.dec_Normal n (p3, p4, p5, ())).bind fun y6 =>
 F.law03_DecOrders.C6 n
 (fun e2 r0 r1 r2 r3 r4 r5 r6 r7 r8 s0 s1 s2 s3 s4 s5 s6 s7 s8 =>
 kr e2 r0 r1 r2 r3 r4 r5 r6 r7 r8 s0 s1 s2 s3 s4 s5 s6 s7 s8)
 (fun e4 r0 r1 r2 r3 r4 r5 r6 r7 r8 s0 s1 s2 s3 s4 s5 s6 s7 s8 =>
 rec (IntKind.wrap .i64 (e4 + (1 : Int))) r0 r1 r2 r3 r4 r5 r6 r7 r8 s0 s1 s2 s3 s4 s5 s6 s7 s8) v4 y6.2.1 p0 p1 p2 p3 p4 p5 p6 p7 p8 q0 q1 q2 q3 q4 q5 q6 q7 q8 y6.1.1 y6.1.2.1 y6.1.2.2.1
 else
 bif v4 == (2 : Int) then
 (F.dec_Normal n (p6, p7, p8, ())).bind fun y9 =>
 F.law03_DecOrders.C6 n
 (fun e2 r0 r1 r2 r3 r4 r5 r6 r7 r8 s0 s1 s2 s3 s4 s5 s6 s7 s8 =>
 kr e2 r0 r1 r2 r3 r4 r5 r6 r7 r8 s0 s1 s2 s3 s4 s5 s6 s7 s8)
 (fun e4 r0 r1 r2 r3 r4 r5 r6 r7 r8 s0 s1 s2 s3 s4 s5 s6 s7 s8 =>
 rec (IntKind.wrap .i64 (e4 + (1 : Int))) r0 r1 r2 r3 r4 r5 r6 r7 r8 s0 s1 s2 s3 s4 s5 s6 s7 s8) v4 y9.2.1 p0 p1 p2 p3 p4 p5 p6 p7 p8 q0 q1 q2 q3 q4 q5 q6 q7 q8 y9.1.1 y9.1.2.1 y9.1.2.2.1
 else
 none
 else
 k0 p0 p1 p2 p3 p4 p5 p6 p7 p8 q0 q1 q2 q3 q4 q5 q6 q7 q8
noncomputable def F.law03_DecOrders.L3 {X : Type} (n : Nat) (k0 : Bool → Int → Int → Bool → Int → Int → Bool → Int → Int → Bool → Int → Int → Bool → Int → Int → Bool → Int → Int → Option X) (kr : Bool → Bool → Int → Int → Bool → Int → Int → Bool → Int → Int → Bool → Int → Int → Bool → Int → Int → Bool → Int → Int → Option X) : Nat → Int → Bool → Int → Int → Bool → Int → Int → Bool → Int → Int → Bool → Int → Int → Bool → Int → Int → Bool → Int → Int → Option X
 | 0 => fun _ _ _ _ _ _ _ _ _ _ _ _ _ _ _ _ _ _ _ => none
 | m + 1 => fun v4 p0 p1 p2 p3 p4 p5 p6 p7 p8 q0 q1 q2 q3 q4 q5 q6 q7 q8 => F.law03_DecOrders.L3.step n (F.law03_DecOrders.L3 n k0 kr m) k0 kr v4 p0 p1 p2 p3 p4 p5 p6 p7 p8 q0 q1 q2 q3 q4 q5 q6 q7 q8
noncomputable def F.law03_DecOrders.C20 {X : Type} (n : Nat) (kr : Bool → Bool → Int → Int → Bool → Int → Int → Bool → Int → Int → Bool → Int → Int → Bool → Int → Int → Bool → Int → Int → Int → Int → Int → Int → Int → Int → Int → Int → Int → Option X) (kn : Int → Int → Bool → Int → Int → Bool → Int → Int → Bool → Int → Int → Bool → Int → Int → Bool → Int → Int → Bool → Int → Int → Int → Int → Int → Int → Int → Int → Int → Int → Int → Option X) (c8 : Int) (c9 : Int) (c10 : Int) (p0 : Bool) (p1 : Int) (p2 : Int) (p3 : Bool) (p4 : Int) (p5 : Int) (p6 : Bool) (p7 : Int) (p8 : Int) (q0 : Bool) (q1 : Int) (q2 : Int) (q3 : Bool) (q4 : Int) (q5 : Int) (q6 : Bool) (q7 : Int) (q8 : Int) (w0 : Int) (w1 : Int) (w2 : Int) (w3 : Int) (w4 : Int) (w5 : Int) (w6 : Int) (w7 : Int) (w8 : Int) : Option X :=
 bif c9 == (0 : Int) then
 (F.law03_less n (q0, q1, q2, ())).bind fun y35 =>
 bif c8 == (0 : Int) then
 (F.law03_less n (q0, q1, q2, ())).bind fun y36 =>
 (F.dec_Compare n (y35.1, y35.2.1, y35.2.2.1, ()) (y36.1, y36.2.1, y36.2.2.1, ())).bind fun y37 =>
 bif !(y37.2.1 == (0 : Int)) then
 kr false p0 p1 p2 p3 p4 p5 p6 p7 p8 q0 q1 q2 q3 q4 q5 q6 q7 q8 w0 w1 w2 w3 w4 w5 w6 w7 w8
 else
 bif !(y37.1 == c10) then
 kr false p0 p1 p2 p3 p4 p5 p6 p7 p8 q0 q1 q2 q3 q4 q5 q6 q7 q8 w0 w1 w2 w3 w4 w5 w6 w7 w8
 else
 kn c8 c9 p0 p1 p2 p3 p4 p5 p6 p7 p8 q0 q1 q2 q3 q4 q5 q6 q7 q8 w0 w1 w2 w3 w4 w5 w6 w7 w8
 else
 bif c8 == (1 : Int) then
 (F.law03_less n (q3, q4, q5, ())).bind fun y38 =>
 (F.dec_Compare n (y35.1, y35.2.1, y35.2.2.1, ()) (y38.1, y38.2.1, y38.2.2.1, ())).bind fun y39 =>
 bif !(y39.2.1 == (0 : Int)) then
 kr false p0 p1 p2 p3 p4 p5 p6 p7 p8 q0 q1 q2 q3 q4 q5 q6 q7 q8 w0 w1 w2 w3 w4 w5 w6 w7 w8
 else
 bif !(y39.1 == c10) then
 kr false p0 p1 p2 p3 p4 p5 p6 p7 p8 q0 q1 q2 q3 q4 q5 q6 q7 q8 w0 w1 w2 w3 w4 w5 w6 w7 w8
 else
 kn c8 c9 p0 p1 p2 p3 p4 p5 p6 p7 p8 q0 q1 q2 q3 q4 q5 q6 q7 q8 w0 w1 w2 w3 w4 w5 w6 w7 w8
 else
 bif c8 == (2 : Int) then
 (F.law03_less n (q6, q7, q8, ())).bind fun y40 =>
 (F.dec_Compare n (y35.1, y35.2.1, y35.2.2.1, ()) (y40.1, y40.2.1, y40.2.2.1, ())).bind fun y41 =>
 bif !(y41.2.1 == (0 : Int)) then
 kr false p0 p1 p2 p3 p4 p5 p6 p7 p8 q0 q1 q2 q3 q4 q5 q6 q7 q8 w0 w1 w2 w3 w4 w5 w6 w7 w8
 else
 bif !(y41.1 == c10) then
 kr false p0 p1 p2 p3 p4 p5 p6 p7 p8 q0 q1 q2 q3 q4 q5 q6 q7 q8 w0 w1 w2 w3 w4 w5 w6 w7 w8
 else
 kn c8 c9 p0 p1 p2 p3 p4 p5 p6 p7 p8 q0 q1 q2 q3 q4 q5 q6 q7 q8 w0 w1 w2 w3 w4 w5 w6 w7 w8
 else
 none
 else
 bif c9 == (1 : Int) then
 (F.law03_less n (q3, q4, q5, ())).bind fun y42 =>
 bif c8 == (0 : Int) then
 (F.law03_less n (q0, q1, q2, ())).bind fun y43 =>
 (F.dec_Compare n (y42.1, y42.2.1, y42.2.2.1, ()) (y43.1, y43.2.1, y43.2.2.1, ())).bind fun y44 =>
 bif !(y44.2.1 == (0 : Int)) then
 kr false p0 p1 p2 p3 p4 p5 p6 p7 p8 q0 q1 q2 q3 q4 q5 q6 q7 q8 w0 w1 w2 w3 w4 w5 w6 w7 w8
 else
 bif !(y44.1 == c10) then
 kr false p0 p1 p2 p3 p4 p5 p6 p7 p8 q0 q1 q2 q3 q4 q5 q6 q7 q8 w0 w1 w2 w3 w4 w5 w6 w7 w8
 else
 kn c8 c9 p0 p1 p2 p3 p4 p5 p6 p7 p8 q0 q1 q2 q3 q4 q5 q6 q7 q8 w0 w1 w2 w3 w4 w5 w6 w7 w8
 else
 bif c8 == (1 : Int) then
 (F.law03_less n (q3, q4, q5, ())).bind fun y45 =>
 (F.dec_Compare n (y42.1, y42.2.1, y42.2.2.1, ()) (y45.1, y45.2.1, y45.2.2.1, ())).bind fun y46 =>
 bif !(y46.2.1 == (0 : Int)) then
 kr false p0 p1 p2 p3 p4 p5 p6 p7 p8 q0 q1 q2 q3 q4 q5 q6 q7 q8 w0 w1 w2 w3 w4 w5 w6 w7 w8
 else
 bif !(y46.1 == c10) then
 kr false p0 p1 p2 p3 p4 p5 p6 p7 p8 q0 q1 q2 q3 q4 q5 q6 q7 q8 w0 w1 w2 w3 w4 w5 w6 w7 w8
 else
 kn c8 c9 p0 p1 p2 p3 p4 p5 p6 p7 p8 q0 q1 q2 q3 q4 q5 q6 q7 q8 w0 w1 w2 w3 w4 w5 w6 w7 w8
 else
 bif c8 == (2 : Int) then
 (F.law03_less n (q6, q7, q8, ())).bind fun y47 =>
 (F.dec_Compare n (y42.1, y42.2.1, y42.2.2.1, ()) (y47.1, y47.2.1, y47.2.2.1, ())).bind fun y48 =>
 bif !(y48.2.1 == (0 : Int)) then
 kr false p0 p1 p2 p3 p4 p5 p6 p7 p8 q0 q1 q2 q3 q4 q5 q6 q7 q8 w0 w1 w2 w3 w4 w5 w6 w7 w8
 else
 bif !(y48.1 == c10) then
 kr false p0 p1 p2 p3 p4 p5 p6 p7 p8 q0 q1 q2 q3 q4 q5 q6 q7 q8 w0 w1 w2 w3 w4 w5 w6 w7 w8
 else
 kn c8 c9 p0 p1 p2 p3 p4 p5 p6 p7 p8 q0 q1 q2 q3 q4 q5 q6 q7 q8 w0 w1 w2 w3 w4 w5 w6 w7 w8
 else
 none
 else
 bif c9 == (2 : Int) then
 (F.law03_less n (q6, q7, q8, ())).bind fun y49 =>
 bif c8 == (0 : Int) then
 (F.law03_less n (q0, q1, q2, ())).bind fun y50 =>
 (F.dec_Compare n (y49.1, y49.2.1, y49.2.2.1, ()) (y50.1, y50.2.1, y50.2.2.1, ())).bind fun y51 =>
 bif !(y51.2.1 == (0 : Int)) then
 kr false p0 p1 p2 p3 p4 p5 p6 p7 p8 q0 q1 q2 q3 q4 q5 q6 q7 q8 w0 w1 w2 w3 w4 w5 w6 w7 w8
 else
 bif !(y51.1 == c10) then
 kr false p0 p1 p2 p3 p4 p5 p6 p7 p8 q0 q1 q2 q3 q4 q5 q6 q7 q8 w0 w1 w2 w3 w4 w5 w6 w7 w8
 else
 kn c8 c9 p0 p1 p2 p3 p4 p5 p6 p7 p8 q0 q1 q2 q3 q4 q5 q6 q7 q8 w0 w1 w2 w3 w4 w5 w6 w7 w8
 else
 bif c8 == (1 : Int) then
 (F.law03_less n (q3, q4, q5, ())).bind fun y52 =>
 (F.dec_Compare n (y49.1, y49.2.1, y49.2.2.1, ()) (y52.1, y52.2.1, y52.2.2.1, ())).bind fun y53 =>
 bif !(y53.2.1 == (0 : Int)) then
 kr false p0 p1 p2 p3 p4 p5 p6 p7 p8 q0 q1 q2 q3 q4 q5 q6 q7 q8 w0 w1 w2 w3 w4 w5 w6 w7 w8
 else
 bif !(y53.1 == c10) then
 kr false p0 p1 p2 p3 p4 p5 p6 p7 p8 q0 q1 q2 q3 q4 q5 q6 q7 q8 w0 w1 w2 w3 w4 w5 w6 w7 w8
 else
 kn c8 c9 p0 p1 p2 p3 p4 p5 p6 p7 p8 q0 q1 q2 q3 q4 q5 q6 q7 q8 w0 w1 w2 w3 w4 w5 w6 w7 w8
 else
 bif c8 == (2 : Int) then
 (F.law03_less n (q6, q7, q8, ())).bind fun y54 =>
 (F.dec_Compare n (y49.1, y49.2.1, y49.2.2.1, ()) (y54.1, y54.2.1, y54.2.2.1, ())).bind fun y55 =>
 bif !(y55.2.1 == (0 : Int)) then
 kr false p0 p1 p2 p3 p4 p5 p6 p7 p8 q0 q1 q2 q3 q4 q5 q6 q7 q8 w0 w1 w2 w3 w4 w5 w6 w7 w8
 else
 bif !(y55.1 == c10) then
 kr false p0 p1 p2 p3 p4 p5 p6 p7 p8 q0 q1 q2 q3 q4 q5 q6 q7 q8 w0 w1 w2 w3 w4 w5 w6 w7 w8
 else
 kn c8 c9 p0 p1 p2 p3 p4 p5 p6 p7 p8 q0 q1 q2 q3 q4 q5 q6 q7 q8 w0 w1 w2 w3 w4 w5 w6 w7 w8
 else
 none
 else
 none
noncomputable def F.law03_DecOrders.C19 {X : Type} (n : Nat) (kr : Bool → Bool → Int → Int → Bool → Int → Int → Bool → Int → Int → Bool → Int → Int → Bool → Int → Int → Bool → Int → Int → Int → Int → Int → Int → Int → Int → Int → Int → Int → Option X) (kn : Int → Int → Bool → Int → Int → Bool → Int → Int → Bool → Int → Int → Bool → Int → Int → Bool → Int → Int → Bool → Int → Int → Int → Int → Int → Int → Int → Int → Int → Int → Int → Option X) (c8 : Int) (c9 : Int) (c10 : Int) (p0 : Bool) (p1 : Int) (p2 : Int) (p3 : Bool) (p4 : Int) (p5 : Int) (p6 : Bool) (p7 : Int) (p8 : Int) (q0 : Bool) (q1 : Int) (q2 : Int) (q3 : Bool) (q4 : Int) (q5 : Int) (q6 : Bool) (q7 : Int) (q8 : Int) (w0 : Int) (w1 : Int) (w2 : Int) (w3 : Int) (w4 : Int) (w5 : Int) (w6 : Int) (w7 : Int) (w8 : Int) : Option X :=
 bif c8 == (0 : Int) then
 bif c9 == (0 : Int) then
 F.law03_DecOrders.C20 n
 (fun e2 r0 r1 r2 r3 r4 r5 r6 r7 r8 s0 s1 s2 s3 s4 s5 s6 s7 s8 t0 t1 t2 t3 t4 t5 t6 t7 t8 =>
 kr e2 r0 r1 r2 r3 r4 r5 r6 r7 r8 s0 s1 s2 s3 s4 s5 s6 s7 s8 t0 t1 t2 t3 t4 t5 t6 t7 t8)
 (fun e8 e9 r0 r1 r2 r3 r4 r5 r6 r7 r8 s0 s1 s2 s3 s4 s5 s6 s7 s8 t0 t1 t2 t3 t4 t5 t6 t7 t8 =>
 kn e8 e9 r0 r1 r2 r3 r4 r5 r6 r7 r8 s0 s1 s2 s3 s4 s5 s6 s7 s8 t0 t1 t2 t3 t4 t5 t6 t7 t8) c8 c9 c10 p0 p1 p2 p3 p4 p5 p6 p7 p8 q0 q1 q2 q3 q4 q5 q6 q7 q8 c10 w1 w2 w3 w4 w5 w6 w7 w8
 else
 bif c9 == (1 : Int) then
 F.law03_DecOrders.C20 n
 (fun e2 r0 r1 r2 r3 r4 r5 r6 r7 r8 s0 s1 s2 s3 s4 s5 s6 s7 s8 t0 t1 t2 t3 t4 t5 t6 t7 t8 =>
 kr e2 r0 r1 r2 r3 r4 r5 r6 r7 r8 s0 s1 s2 s3 s4 s5 s6 s7 s8 t0 t1 t2 t3 t4 t5 t6 t7 t8)
 (fun e8 e9 r0 r1 r2 r3 r4 r5 r6 r7 r8 s0 s1 s2 s3 s4 s5 s6 s7 s8 t0 t1 t2 t3 t4 t5 t6 t7 t8 =>
 kn e8 e9 r0 r1 r2 r3 r4 r5 r6 r7 r8 s0 s1 s2 s3 s4 s5 s6 s7 s8 t0 t1 t2 t3 t4 t5 t6 t7 t8) c8 c9 c10 p0 p1 p2 p3 p4 p5 p6 p7 p8 q0 q1 q2 q3 q4 q5 q6 q7 q8 w0 c10 w2 w3 w4 w5 w6 w7 w8
 else
 bif c9 == (2 : Int) then
 F.law03_DecOrders.C20 n
 (fun e2 r0 r1 r2 r3 r4 r5 r6 r7 r8 s0 s1 s2 s3 s4 s5 s6 s7 s8 t0 t1 t2 t3 t4 t5 t6 t7 t8 =>
 kr e2 r0 r1 r2 r3 r4 r5 r6 r7 r8 s0 s1 s2 s3 s4 s5 s6 s7 s8 t0 t1 t2 t3 t4 t5 t6 t7 t8)
 (fun e8 e9 r0 r1 r2 r3 r4 r5 r6 r7 r8 s0 s1 s2 s3 s4 s5 s6 s7 s8 t0 t1 t2 t3 t4 t5 t6 t7 t8 =>
 kn e8 e9 r0 r1 r2 r3 r4 r5 r6 r7 r8 s0 s1 s2 s3 s4 s5 s6 s7 s8 t0 t1 t2 t3 t4 t5 t6 t7 t8) c8 c9 c10 p0 p1 p2 p3 p4 p5 p6 p7 p8 q0 q1 q2 q3 q4 q5 q6 q7 q8 w0 w1 c10 w3 w4 w5 w6 w7 w8
 else
 none
 else
 bif c8 == (1 : Int) then
 bif c9 == (0 : Int) then
 F.law03_DecOrders.C20 n
 (fun e2 r0 r1 r2 r3 r4 r5 r6 r7 r8 s0 s1 s2 s3 s4 s5 s6 s7 s8 t0 t1 t2 t3 t4 t5 t6 t7 t8 =>
 kr e2 r0 r1 r2 r3 r4 r5 r6 r7 r8 s0 s1 s2 s3 s4 s5 s6 s7 s8 t0 t1 t2 t3 t4 t5 t6 t7 t8)
 (fun e8 e9 r0 r1 r2 r3 r4 r5 r6 r7 r8 s0 s1 s2 s3 s4 s5 s6 s7 s8 t0 t1 t2 t3 t4 t5 t6 t7 t8 =>
 kn e8 e9 r0 r1 r2 r3 r4 r5 r6 r7 r8 s0 s1 s2 s3 s4 s5 s6 s7 s8 t0 t1 t2 t3 t4 t5 t6 t7 t8) c8 c9 c10 p0 p1 p2 p3 p4 p5 p6 p7 p8 q0 q1 q2 q3 q4 q5 q6 q7 q8 w0 w1 w2 c10 w4 w5 w6 w7 w8
 else
 bif c9 == (1 : Int) then
 F.law03_DecOrders.C20 n
 (fun e2 r0 r1 r2 r3 r4 r5 r6 r7 r8 s0 s1 s2 s3 s4 s5 s6 s7 s8 t0 t1 t2 t3 t4 t5 t6 t7 t8 =>
 kr e2 r0 r1 r2 r3 r4 r5 r6 r7 r8 s0 s1 s2 s3 s4 s5 s6 s7 s8 t0 t1 t2 t3 t4 t5 t6 t7 t8)
 (fun e8 e9 r0 r1 r2 r3 r4 r5 r6 r7 r8 s0 s1 s2 s3 s4 s5 s6 s7 s8 t0 t1 t2 t3 t4 t5 t6 t7 t8 =>
 kn e8 e9 r0 r1 r2 r3 r4 r5 r6 r7 r8 s0 s1 s2 s3 s4 s5 s6 s7 s8 t0 t1 t2 t3 t4 t5 t6 t7 t8) c8 c9 c10 p0 p1 p2 p3 p4 p5 p6 p7 p8 q0 q1 q2 q3 q4 q5 q6 q7 q8 w0 w1 w2 w3 c10 w5 w6 w7 w8
 else
 bif c9 == (2 : Int) then
 F.law03_DecOrders.C20 n
 (fun e2 r0 r1 r2 r3 r4 r5 r6 r7 r8 s0 s1 s2 s3 s4 s5 s6 s7 s8 t0 t1 t2 t3 t4 t5 t6 t7 t8 =>
 kr e2 r0 r1 r2 r3 r4 r5 r6 r7 r8 s0 s1 s2 s3 s4 s5 s6 s7 s8 t0 t1 t2 t3 t4 t5 t6 t7 t8)
 (fun e8 e9 r0 r1 r2 r3 r4 r5 r6 r7 r8 s0 s1 s2 s3 s4 s5 s6 s7 s8 t0 t1 t2 t3 t4 t5 t6 t7 t8 =>
 kn e8 e9 r0 r1 r2 r3 r4 r5 r6 r7 r8 s0 s1 s2 s3 s4 s5 s6 s7 s8 t0 t1 t2 t3 t4 t5 t6 t7 t8) c8 c9 c10 p0 p1 p2 p3 p4 p5 p6 p7 p8 q0 q1 q2 q3 q4 q5 q6 q7 q8 w0 w1 w2 w3 w4 c10 w6 w7 w8
 else
 none
 else
 bif c8 == (2 : Int) then
 bif c9 == (0 : Int) then
 F.law03_DecOrders.C20 n
 (fun e2 r0 r1 r2 r3 r4 r5 r6 r7 r8 s0 s1 s2 s3 s4 s5 s6 s7 s8 t0 t1 t2 t3 t4 t5 t6 t7 t8 =>
 kr e2 r0 r1 r2 r3 r4 r5 r6 r7 r8 s0 s1 s2 s3 s4 s5 s6 s7 s8 t0 t1 t2 t3 t4 t5 t6 t7 t8)
 (fun e8 e9 r0 r1 r2 r3 r4 r5 r6 r7 r8 s0 s1 s2 s3 s4 s5 s6 s7 s8 t0 t1 t2 t3 t4 t5 t6 t7 t8 =>
 kn e8 e9 r0 r1 r2 r3 r4 r5 r6 r7 r8 s0 s1 s2 s3 s4 s5 s6 s7 s8 t0 t1 t2 t3 t4 t5 t6 t7 t8) c8 c9 c10 p0 p1 p2 p3 p4 p5 p6 p7 p8 q0 q1 q2 q3 q4 q5 q6 q7 q8 w0 w1 w2 w3 w4 w5 c10 w7 w8
 else
 bif c9 == (1 : Int) then
 F.law03_DecOrders.C20 n
 (fun e2 r0 r1 r2 r3 r4 r5 r6 r7 r8 s0 s1 s2 s3 s4 s5 s6 s7 s8 t0 t1 t2 t3 t4 t5 t6 t7 t8 =>
 kr e2 r0 r1 r2 r3 r4 r5 r6 r7 r8 s0 s1 s2 s3 s4 s5 s6 s7 s8 t0 t1 t2 t3 t4 t5 t6 t7 t8)
 (fun e8 e9 r0 r1 r2 r3 r4 r5 r6 r7 r8 s0 s1 s2 s3 s4 s5 s6 s7 s8 t0 t1 t2 t3 t4 t5 t6 t7 t8 =>
 kn e8 e9 r0 r1 r2 r3 r4 r5 r6 r7 r8 s0 s1 s2 s3 s4 s5 s6 s7 s8 t0 t1 t2 t3 t4 t5 t6 t7 t8) c8 c9 c10 p0 p1 p2 p3 p4 p5 p6 p7 p8 q0 q1 q2 q3 q4 q5 q6 q7 q8 w0 w1 w2 w3 w4 w5 w6 c10 w8
 else
 bif c9 == (2 : Int) then
 F.law03_DecOrders.C20 n
 (fun e2 r0 r1 r2 r3 r4 r5 r6 r7 r8 s0 s1 s2 s3 s4 s5 s6 s7 s8 t0 t1 t2 t3 t4 t5 t6 t7 t8 =>
 kr e2 r0 r1 r2 r3 r4 r5 r6 r7 r8 s0 s1 s2 s3 s4 s5 s6 s7 s8 t0 t1 t2 t3 t4 t5 t6 t7 t8)
 (fun e8 e9 r0 r1 r2 r3 r4 r5 r6 r7 r8 s0 s1 s2 s3 s4 s5 s6 s7 s8 t0 t1 t2 t3 t4 t5 t6 t7 t8 =>
 kn e8 e9 r0 r1 r2 r3 r4 r5 r6 r7 r8 s0 s1 s2 s3 s4 s5 s6 s7 s8 t0 t1 t2 t3 t4 t5 t6 t7 t8) c8 c9 c10 p0 p1 p2 p3 p4 p5 p6 p7 p8 q0 q1 q2 q3 q4 q5 q6 q7 q8 w0 w1 w2 w3 w4 w5 w6 w7 c10
 else
 none
 else
 none
noncomputable def F.law03_DecOrders.C17 {X : Type} (n : Nat) (kr : Bool → Bool → Int → Int → Bool → Int → Int → Bool → Int → Int → Bool → Int → Int → Bool → Int → Int → Bool → Int → Int → Int → Int → Int → Int → Int → Int → Int → Int → Int → Option X) (kn : Int → Int → Bool → Int → Int → Bool → Int → Int → Bool → Int → Int → Bool → Int → Int → Bool → Int → Int → Bool → Int → Int → Int → Int → Int → Int → Int → Int → Int → Int → Int → Option X) (c8 : Int) (c9 : Int) (c10 : Int) (c11 : Int) (p0 : Bool) (p1 : Int) (p2 : Int) (p3 : Bool) (p4 : Int) (p5 : Int) (p6 : Bool) (p7 : Int) (p8 : Int) (q0 : Bool) (q1 : Int) (q2 : Int) (q3 : Bool) (q4 : Int) (q5 : Int) (q6 : Bool) (q7 : Int) (q8 : Int) (w0 : Int) (w1 : Int) (w2 : Int) (w3 : Int) (w4 : Int) (w5 : Int) (w6 : Int) (w7 : Int) (w8 : Int) : Option X :=
 bif !(c11 == (0 : Int)) then
 kr false p0 p1 p2 p3 p4 p5 p6 p7 p8 q0 q1 q2 q3 q4 q5 q6 q7 q8 w0 w1 w2 w3 w4 w5 w6 w7 w8
 else
 bif decide (c10 < (-1 : Int)) then
 kr false p0 p1 p2 p3 p4 p5 p6 p7 p8 q0 q1 q2 q3 q4 q5 q6 q7 q8 w0 w1 w2 w3 w4 w5 w6 w7 w8
 else
 bif decide (c10 > (1 : Int)) then
 kr false p0 p1 p2 p3 p4 p5 p6 p7 p8 q0 q1 q2 q3 q4 q5 q6 q7 q8 w0 w1 w2 w3 w4 w5 w6 w7 w8
 else
 bif c8 == (0 : Int) then
 bif c9 == (0 : Int) then
 bif !((c10 == (0 : Int)) == ((q0 == q0) && ((q1 == q1) && (q2 == q2)))) then
 kr false p0 p1 p2 p3 p4 p5 p6 p7 p8 q0 q1 q2 q3 q4 q5 q6 q7 q8 w0 w1 w2 w3 w4 w5 w6 w7 w8
 else
 F.law03_DecOrders.C19 n
 (fun e2 r0 r1 r2 r3 r4 r5 r6 r7 r8 s0 s1 s2 s3 s4 s5 s6 s7 s8 t0 t1 t2 t3 t4 t5 t6 t7 t8 =>
 kr e2 r0 r1 r2 r3 r4 r5 r6 r7 r8 s0 s1 s2 s3 s4 s5 s6 s7 s8 t0 t1 t2 t3 t4 t5 t6 t7 t8)
 (fun e8 e9 r0 r1 r2 r3 r4 r5 r6 r7 r8 s0 s1 s2 s3 s4 s5 s6 s7 s8 t0 t1 t2 t3 t4 t5 t6 t7 t8 =>
 kn e8 e9 r0 r1 r2 r3 r4 r5 r6 r7 r8 s0 s1 s2 s3 s4 s5 s6 s7 s8 t0 t1 t2 t3 t4 t5 t6 t7 t8) c8 c9 c10 p0 p1 p2 p3 p4 p5 p6 p7 p8 q0 q1 q2 q3 q4 q5 q6 q7 q8 w0 w1 w2 w3 w4 w5 w6 w7 w8
 else
 bif c9 == (1 : Int) then
 bif !((c10 == (0 : Int)) == ((q0 == q3) && ((q1 == q4) && (q2 == q5)))) then
 kr false p0 p1 p2 p3 p4 p5 p6 p7 p8 q0 q1 q2 q3 q4 q5 q6 q7 q8 w0 w1 w2 w3 w4 w5 w6 w7 w8
 else
 F.law03_DecOrders.C19 n
 (fun e2 r0 r1 r2 r3 r4 r5 r6 r7 r8 s0 s1 s2 s3 s4 s5 s6 s7 s8 t0 t1 t2 t3 t4 t5 t6 t7 t8 =>
 kr e2 r0 r1 r2 r3 r4 r5 r6 r7 r8 s0 s1 s2 s3 s4 s5 s6 s7 s8 t0 t1 t2 t3 t4 t5 t6 t7 t8)
 (fun e8 e9 r0 r1 r2 r3 r4 r5 r6 r7 r8 s0 s1 s2 s3 s4 s5 s6 s7 s8 t0 t1 t2 t3 t4 t5 t6 t7 t8 =>
 kn e8 e9 r0 r1 r2 r3 r4 r5 r6 r7 r8 s0 s1 s2 s3 s4 s5 s6 s7 s8 t0 t1 t2 t3 t4 t5 t6 t7 t8) c8 c9 c10 p0 p1 p2 p3 p4 p5 p6 p7 p8 q0 q1 q2 q3 q4 q5 q6 q7 q8 w0 w1 w2 w3 w4 w5 w6 w7 w8
 else
 bif c9 == (2 : Int) then
 bif !((c10 == (0 : Int)) == ((q0 == q6) && ((q1 == q7) && (q2 == q8)))) then
 kr false p0 p1 p2 p3 p4 p5 p6 p7 p8 q0 q1 q2 q3 q4 q5 q6 q7 q8 w0 w1 w2 w3 w4 w5 w6 w7 w8
 else
 F.law03_DecOrders.C19 n
 (fun e2 r0 r1 r2 r3 r4 r5 r6 r7 r8 s0 s1 s2 s3 s4 s5 s6 s7 s8 t0 t1 t2 t3 t4 t5 t6 t7 t8 =>
 kr e2 r0 r1 r2 r3 r4 r5 r6 r7 r8 s0 s1 s2 s3 s4 s5 s6 s7 s8 t0 t1 t2 t3 t4 t5 t6 t7 t8)
 (fun e8 e9 r0 r1 r2 r3 r4 r5 r6 r7 r8 s0 s1 s2 s3 s4 s5 s6 s7 s8 t0 t1 t2 t3 t4 t5 t6 t7 t8 =>
 kn e8 e9 r0 r1 r2 r3 r4 r5 r6 r7 r8 s0 s1 s2 s3 s4 s5 s6 s7 s8 t0 t1 t2 t3 t4 t5 t6 t7 t8) c8 c9 c10 p0 p1 p2 p3 p4 p5 p6 p7 p8 q0 q1 q2 q3 q4 q5 q6 q7 q8 w0 w1 w2 w3 w4 w5 w6 w7 w8
 else
 none
 else
 bif c8 == (1 : Int) then
 bif c9 == (0 : Int) then
 bif !((c10 == (0 : Int)) == ((q3 == q0) && ((q4 == q1) && (q5 == q2)))) then
 kr false p0 p1 p2 p3 p4 p5 p6 p7 p8 q0 q1 q2 q3 q4 q5 q6 q7 q8 w0 w1 w2 w3 w4 w5 w6 w7 w8
 else
 F.law03_DecOrders.C19 n
 (fun e2 r0 r1 r2 r3 r4 r5 r6 r7 r8 s0 s1 s2 s3 s4 s5 s6 s7 s8 t0 t1 t2 t3 t4 t5 t6 t7 t8 =>
 kr e2 r0 r1 r2 r3 r4 r5 r6 r7 r8 s0 s1 s2 s3 s4 s5 s6 s7 s8 t0 t1 t2 t3 t4 t5 t6 t7 t8)
 (fun e8 e9 r0 r1 r2 r3 r4 r5 r6 r7 r8 s0 s1 s2 s3 s4 s5 s6 s7 s8 t0 t1 t2 t3 t4 t5 t6 t7 t8 =>
 kn e8 e9 r0 r1 r2 r3 r4 r5 r6 r7 r8 s0 s1 s2 s3 s4 s5 s6 s7 s8 t0 t1 t2 t3 t4 t5 t6 t7 t8) c8 c9 c10 p0 p1 p2 p3 p4 p5 p6 p7 p8 q0 q1 q2 q3 q4 q5 q6 q7 q8 w0 w1 w2 w3 w4 w5 w6 w7 w8
 else
 bif c9 == (1 : Int) then
 bif !((c10 == (0 : Int)) == ((q3 == q3) && ((q4 == q4) && (q5 == q5)))) then
 kr false p0 p1 p2 p3 p4 p5 p6 p7 p8 q0 q1 q2 q3 q4 q5 q6 q7 q8 w0 w1 w2 w3 w4 w5 w6 w7 w8
 else
 F.law03_DecOrders.C19 n
 (fun e2 r0 r1 r2 r3 r4 r5 r6 r7 r8 s0 s1 s2 s3 s4 s5 s6 s7 s8 t0 t1 t2 t3 t4 t5 t6 t7 t8 =>
 kr e2 r0 r1 r2 r3 r4 r5 r6 r7 r8 s0 s1 s2 s3 s4 s5 s6 s7 s8 t0 t1 t2 t3 t4 t5 t6 t7 t8)
 (fun e8 e9 r0 r1 r2 r3 r4 r5 r6 r7 r8 s0 s1 s2 s3 s4 s5 s6 s7 s8 t0 t1 t2 t3 t4 t5 t6 t7 t8 =>
 kn e8 e9 r0 r1 r2 r3 r4 r5 r6 r7 r8 s0 s1 s2 s3 s4 s5 s6 s7 s8 t0 t1 t2 t3 t4 t5 t6 t7 t8) c8 c9 c10 p0 p1 p2 p3 p4 p5 p6 p7 p8 q0 q1 q2 q3 q4 q5 q6 q7 q8 w0 w1 w2 w3 w4 w5 w6 w7 w8
 else
 bif c9 == (2 : Int) then
 bif !((c10 == (0 : Int)) == ((q3 == q6) && ((q4 == q7) && (q5 == q8)))) then
 kr false p0 p1 p2 p3 p4 p5 p6 p7 p8 q0 q1 q2 q3 q4 q5 q6 q7 q8 w0 w1 w2 w3 w4 w5 w6 w7 w8
 else
 F.law03_DecOrders.C19 n
 (fun e2 r0 r1 r2 r3 r4 r5 r6 r7 r8 s0 s1 s2 s3 s4 s5 s6 s7 s8 t0 t1 t2 t3 t4 t5 t6 t7 t8 =>
 kr e2 r0 r1 r2 r3 r4 r5 r6 r7 r8 s0 s1 s2 s3 s4 s5 s6 s7 s8 t0 t1 t2 t3 t4 t5 t6 t7 t8)
 (fun e8 e9 r0 r1 r2 r3 r4 r5 r6 r7 r8 s0 s1 s2 s3 s4 s5 s6 s7 s8 t0 t1 t2 t3 t4 t5 t6 t7 t8 =>
 kn e8 e9 r0 r1 r2 r3 r4 r5 r6 r7 r8 s0 s1 s2 s3 s4 s5 s6 s7 s8 t0 t1 t2 t3 t4 t5 t6 t7 t8) c8 c9 c10 p0 p1 p2 p3 p4 p5 p6 p7 p8 q0 q1 q2 q3 q4 q5 q6 q7 q8 w0 w1 w2 w3 w4 w5 w6 w7 w8
 else
 none
 else
 bif c8 == (2 : Int) then
 bif c9 == (0 : Int) then
 bif !((c10 == (0 : Int)) == ((q6 == q0) && ((q7 == q1) && (q8 == q2)))) then
 kr false p0 p1 p2 p3 p4 p5 p6 p7 p8 q0 q1 q2 q3 q4 q5 q6 q7 q8 w0 w1 w2 w3 w4 w5 w6 w7 w8
 else
 F.law03_DecOrders.C19 n
 (fun e2 r0 r1 r2 r3 r4 r5 r6 r7 r8 s0 s1 s2 s3 s4 s5 s6 s7 s8 t0 t1 t2 t3 t4 t5 t6 t7 t8 =>
 kr e2 r0 r1 r2 r3 r4 r5 r6 r7 r8 s0 s1 s2 s3 s4 s5 s6 s7 s8 t0 t1 t2 t3 t4 t5 t6 t7 t8)
 (fun e8 e9 r0 r1 r2 r3 r4 r5 r6 r7 r8 s0 s1 s2 s3 s4 s5 s6 s7 s8 t0 t1 t2 t3 t4 t5 t6 t7 t8 =>
 kn e8 e9 r0 r1 r2 r3 r4 r5 r6 r7 r8 s0 s1 s2 s3 s4 s5 s6 s7 s8 t0 t1 t2 t3 t4 t5 t6 t7 t8) c8 c9 c10 p0 p1 p2 p3 p4 p5 p6 p7 p8 q0 q1 q2 q3 q4 q5 q6 q7 q8 w0 w1 w2 w3 w4 w5 w6 w7 w8
 else
 bif c9 == (1 : Int) then
 bif !((c10 == (0 : Int)) == ((q6 == q3) && ((q7 == q4) && (q8 == q5)))) then
 kr false p0 p1 p2 p3 p4 p5 p6 p7 p8 q0 q1 q2 q3 q4 q5 q6 q7 q8 w0 w1 w2 w3 w4 w5 w6 w7 w8
 else
 F.law03_DecOrders.C19 n
 (fun e2 r0 r1 r2 r3 r4 r5 r6 r7 r8 s0 s1 s2 s3 s4 s5 s6 s7 s8 t0 t1 t2 t3 t4 t5 t6 t7 t8 =>
 kr e2 r0 r1 r2 r3 r4 r5 r6 r7 r8 s0 s1 s2 s3 s4 s5 s6 s7 s8 t0 t1 t2 t3 t4 t5 t6 t7 t8)
 (fun e8 e9 r0 r1 r2 r3 r4 r5 r6 r7 r8 s0 s1 s2 s3 s4 s5 s6 s7 s8 t0 t1 t2 t3 t4 t5 t6 t7 t8 =>
 kn e8 e9 r0 r1 r2 r3 r4 r5 r6 r7 r8 s0 s1 s2 s3 s4 s5 s6 s7 s8 t0 t1 t2 t3 t4 t5 t6 t7 t8) c8 c9 c10 p0 p1 p2 p3 p4 p5 p6 p7 p8 q0 q1 q2 q3 q4 q5 q6 q7 q8 w0 w1 w2 w3 w4 w5 w6 w7 w8
 else
 bif c9 == (2 : Int) then
 bif !((c10 == (0 : Int)) == ((q6 == q6) && ((q7 == q7) && (q8 == q8)))) then
 kr false p0 p1 p2 p3 p4 p5 p6 p7 p8 q0 q1 q2 q3 q4 q5 q6 q7 q8 w0 w1 w2 w3 w4 w5 w6 w7 w8
 else
 F.law03_DecOrders.C19 n
 (fun e2 r0 r1 r2 r3 r4 r5 r6 r7 r8 s0 s1 s2 s3 s4 s5 s6 s7 s8 t0 t1 t2 t3 t4 t5 t6 t7 t8 =>
 kr e2 r0 r1 r2 r3 r4 r5 r6 r7 r8 s0 s1 s2 s3 s4 s5 s6 s7 s8 t0 t1 t2 t3 t4 t5 t6 t7 t8)
 (fun e8 e9 r0 r1 r2 r3 r4 r5 r6 r7 r8 s0 s1 s2 s3 s4 s5 s6 s7 s8 t0 t1 t2 t3 t4 t5 t6 t7 t8 =>
 kn e8 e9 r0 r1 r2 r3 r4 r5 r6 r7 r8 s0 s1 s2 s3 s4 s5 s6 s7 s8 t0 t1 t2 t3 t4 t5 t6 t7 t8) c8 c9 c10 p0 p1 p2 p3 p4 p5 p6 p7 p8 q0 q1 q2 q3 q4 q5 q6 q7 q8 w0 w1 w2 w3 w4 w5 w6 w7 w8
 else
 none
 else
 none
noncomputable def F.law03_DecOrders.L14.step {X : Type} (n : Nat) (rec : Int → Int → Bool → Int → Int → Bool → Int → Int → Bool → Int → Int → Bool → Int → Int → Bool → Int → Int → Bool → Int → Int → Int → Int → Int → Int → Int → Int → Int → Int → Int → Option X) (k4 : Int → Bool → Int → Int → Bool → Int → Int → Bool → Int → Int → Bool → Int → Int → Bool → Int → Int → Bool → Int → Int → Int → Int → Int → Int → Int → Int → Int → Int → Int → Option X) (kr : Bool → Bool → Int → Int → Bool → Int → Int → Bool → Int → Int → Bool → Int → Int → Bool → Int → Int → Bool → Int → Int → Int → Int → Int → Int → Int → Int → Int → Int → Int → Option X) (v8 : Int) (v9 : Int) (p0 : Bool) (p1 : Int) (p2 : Int) (p3 : Bool) (p4 : Int) (p5 : Int) (p6 : Bool) (p7 : Int) (p8 : Int) (q0 : Bool) (q1 : Int) (q2 : Int) (q3 : Bool) (q4 : Int) (q5 : Int) (q6 : Bool) (q7 : Int) (q8 : Int) (c0 : Int) (c1 : Int) (c2 : Int) (c3 : Int) (c4 : Int) (c5 : Int) (c6 : Int) (c7 : Int) (c8 : Int) : Option X :=
 bif decide (v9 < (3 : Int)) then
 bif v8 == (0 : Int) then
 bif v9 == (0 : Int) then
 (F.dec_Compare n (q0, q1, q2, ()) (q0, q1, q2, ())).bind fun y13 =>
 F.law03_DecOrders.C17 n
 (fun e2 r0 r1 r2 r3 r4 r5 r6 r7 r8 s0 s1 s2 s3 s4 s5 s6 s7 s8 t0 t1 t2 t3 t4 t5 t6 t7 t8 =>
 kr e2 r0 r1 r2 r3 r4 r5 r6 r7 r8 s0 s1 s2 s3 s4 s5 s6 s7 s8 t0 t1 t2 t3 t4 t5 t6 t7 t8)
 (fun e8 e9 r0 r1 r2 r3 r4 r5 r6 r7 r8 s0 s1 s2 s3 s4 s5 s6 s7 s8 t0 t1 t2 t3 t4 t5 t6 t7 t8 =>
 rec e8 (IntKind.wrap .i64 (e9 + (1 : Int))) r0 r1 r2 r3 r4 r5 r6 r7 r8 s0 s1 s2 s3 s4 s5 s6 s7 s8 t0 t1 t2 t3 t4 t5 t6 t7 t8) v8 v9 y13.1 y13.2.1 p0 p1 p2 p3 p4 p5 p6 p7 p8 q0 q1 q2 q3 q4 q5 q6 q7 q8 c0 c1 c2 c3 c4 c5 c6 c7 c8
 else
 bif v9 == (1 : Int) then
 (F.dec_Compare n (q0, q1, q2, ()) (q3, q4, q5, ())).bind fun y130 =>
 F.law03_DecOrders.C17 n
 (fun e2 r0 r1 r2 r3 r4 r5 r6 r7 r8 s0 s1 s2 s3 s4 s5 s6 s7 s8 t0 t1 t2 t3 t4 t5 t6 t7 t8 =>
 kr e2 r0 r1 r2 r3 r4 r5 r6 r7 r8 s0 s1 s2 s3 s4 s5 s6 s7 s8 t0 t1 t2 t3 t4 t5 t6 t7 t8)
 (fun e8 e9 r0 r1 r2 r3 r4 r5 r6 r7 r8 s0 s1 s2 s3 s4 s5 s6 s7 s8 t0 t1 t2 t3 t4 t5 t6 t7 t8 =>
 rec e8 (IntKind.wrap .i64 (e9 + (1 : Int))) r0 r1 r2 r3 r4 r5 r6 r7 r8 s0 s1 s2 s3 s4 s5 s6 s7 s8 t0 t1 t2 t3 t4 t5 t6 t7 t8) v8 v9 y130.1 y130.2.1 p0 p1 p2 p3 p4 p5 p6 p7 p8 q0 q1 q2 q3 q4 q5 q6 q7 q8 c0 c1 c2 c3 c4 c5 c6 c7 c8
 else
 bif v9 == (2 : Int) then
 (F.dec_Compare n (q0, q1, q2, ()) (q6, q7, q8, ())).bind fun y133 =>
 F.law03_DecOrders.C17 n
 (fun e2 r0 r1 r2 r3 r4 r5 r6 r7 r8 s0 s1 s2 s3 s4 s5 s6 s7 s8 t0 t1 t2 t3 t4 t5 t6 t7 t8 =>
 kr e2 r0 r1 r2 r3 r4 r5 r6 r7 r8 s0 s1 s2 s3 s4 s5 s6 s7 s8 t0 t1 t2 t3 t4 t5 t6 t7 t8)
 (fun e8 e9 r0 r1 r2 r3 r4 r5 r6 r7 r8 s0 s1 s2 s3 s4 s5 s6 s7 s8 t0 t1 t2 t3 t4 t5 t6 t7 t8 =>
 rec e8 (IntKind.wrap .i64 (e9 + (1 : Int))) r0 r1 r2 r3 r4 r5 r6 r7 r8 s0 s1 s2 s3 s4 s5 s6 s7 s8 t0 t1 t2 t3 t4 t5 t6 t7 t8) v8 v9 y133.1 y133.2.1 p0 p1 p2 p3 p4 p5 p6 p7 p8 q0 q1 q2 q3 q4 q5 q6 q7 q8 c0 c1 c2 c3 c4 c5 c6 c7 c8
 else
 none
 else
 bif v8 == (1 : Int) then
 bif v9 == (0 : Int) then
 (F.dec_Compare n (q3, q4, q5, ()) (q0, q1, q2, ())).bind fun y136 =>
 F.law03_DecOrders.C17 n
 (fun e2 r0 r1 r2 r3 r4 r5 r6 r7 r8 s0 s1 s2 s3 s4 s5 s6 s7 s8 t0 t1 t2 t3 t4 t5 t6 t7 t8 =>
 kr e2 r0 r1 r2 r3 r4 r5 r6 r7 r8 s0 s1 s2 s3 s4 s5 s6 s7 s8 t0 t1 t2 t3 t4 t5 t6 t7 t8)
 (fun e8 e9 r0 r1 r2 r3 r4 r5 r6 r7 r8 s0 s1 s2 s3 s4 s5 s6 s7 s8 t0 t1 t2 t3 t4 t5 t6 t7 t8 =>
 rec e8 (IntKind.wrap .i64 (e9 + (1 : Int))) r0 r1 r2 r3 r4 r5 r6 r7 r8 s0 s1 s2 s3 s4 s5 s6 s7 s8 t0 t1 t2 t3 t4 t5 t6 t7 t8) v8 v9 y136.1 y136.2.1 p0 p1 p2 p3 p4 p5 p6 p7 p8 q0 q1 q2 q3 q4 q5 q6 q7 q8 c0 c1 c2 c3 c4 c5 c6 c7 c8
 else
 bif v9 == (1 : Int) then
 (F.dec_Compare n (q3, q4, q5, ()) (q3, q4, q5, ())).bind fun y139 =>
 F.law03_DecOrders.C17 n
 (fun e2 r0 r1 r2 r3 r4 r5 r6 r7 r8 s0 s1 s2 s3 s4 s5 s6 s7 s8 t0 t1 t2 t3 t4 t5 t6 t7 t8 =>
 kr e2 r0 r1 r2 r3 r4 r5 r6 r7 r8 s0 s1 s2 s3 s4 s5 s6 s7 s8 t0 t1 t2 t3 t4 t5 t6 t7 t8)
 (fun e8 e9 r0 r1 r2 r3 r4 r5 r6 r7 r8 s0 s1 s2 s3 s4 s5 s6 s7 s8 t0 t1 t2 t3 t4 t5 t6 t7 t8 =>
 rec e8 (IntKind.wrap .i64 (e9 + (1 : Int))) r0 r1 r2 r3 r4 r5 r6 r7 r8 s0 s1 s2 s3 s4 s5 s6 s7 s8 t0 t1 t2 t3 t4 t5 t6 t7 t8) v8 v9 y139.1 y139.2.1 p0 p1 p2 p3 p4 p5 p6 p7 p8 q0 q1 q2 q3 q4 q5 q6 q7 q8 c0 c1 c2 c3 c4 c5 c6 c7 c8
 else
 bif v9 == (2 : Int) then
 (F.dec_Compare n (q3, q4, q5, ()) (q6, q7, q8, ())).bind fun y142 =>
 F.law03_DecOrders.C17 n
 (fun e2 r0 r1 r2 r3 r4 r5 r6 r7 r8 s0 s1 s2 s3 s4 s5 s6 s7 s8 t0 t1 t2 t3 t4 t5 t6 t7 t8 =>
 kr e2 r0 r1 r2 r3 r4 r5 r6 r7 r8 s0 s1 s2 s3 s4 s5 s6 s7 s8 t0 t1 t2 t3 t4 t5 t6 t7 t8)
 (fun e8 e9 r0 r1 r2 r3 r4 r5 r6 r7 r8 s0 s1 s2 s3 s4 s5 s6 s7 s8 t0 t1 t2 t3 t4 t5 t6 t7 t8 =>
 rec e8 (IntKind.wrap .i64 (e9 + (1 : Int))) r0 r1 r2 r3 r4 r5 r6 r7 r8 s0 s1 s2 s3 s4 s5 s6 s7 s8 t0 t1 t2 t3 t4 t5 t6 t7 t8) v8 v9 y142.1 y142.2.1 p0 p1 p2 p3 p4 p5 p6 p7 p8 q0 q1 q2 q3 q4 q5 q6 q7 q8 c0 c1 c2 c3 c4 c5 c6 c7 c8
 else
 none
 else
 bif v8 == (2 : Int) then
 bif v9 == (0 : Int) then
 (F.dec_Compare n (q6, q7, q8, ()) (q0, q1, q2, ())).bind fun y145 =>
 F.law03_DecOrders.C17 n
 (fun e2 r0 r1 r2 r3 r4 r5 r6 r7 r8 s0 s1 s2 s3 s4 s5 s6 s7 s8 t0 t1 t2 t3 t4 t5 t6 t7 t8 =>
 kr e2 r0 r1 r2 r3 r4 r5 r6 r7 r8 s0 s1 s2 s3 s4 s5 s6 s7 s8 t0 t1 t2 t3 t4 t5 t6 t7 t8)
 (fun e8 e9 r0 r1 r2 r3 r4 r5 r6 r7 r8 s0 s1 s2 s3 s4 s5 s6 s7 s8 t0 t1 t2 t3 t4 t5 t6 t7 t8 =>
 rec e8 (IntKind.wrap .i64 (e9 + (1 : Int))) r0 r1 r2 r3 r4 r5 r6 r7 r8 s0 s1 s2 s3 s4 s5 s6 s7 s8 t0 t1 t2 t3 t4 t5 t6 t7 t8) v8 v9 y145.1 y145.2.1 p0 p1 p2 p3 p4 p5 p6 p7 p8 q0 q1 q2 q3 q4 q5 q6 q7 q8 c0 c1 c2 c3 c4 c5 c6 c7 c8
 else
 bif v9 == (1 : Int) then
 (F.dec_Compare n (q6, q7, q8, ()) (q3, q4, q5, ())).bind fun y148 =>
 F.law03_DecOrders.C17 n
 (fun e2 r0 r1 r2 r3 r4 r5 r6 r7 r8 s0 s1 s2 s3 s4 s5 s6 s7 s8 t0 t1 t2 t3 t4 t5 t6 t7 t8 =>
 kr e2 r0 r1 r2 r3 r4 r5 r6 r7 r8 s0 s1 s2 s3 s4 s5 s6 s7 s8 t0 t1 t2 t3 t4 t5 t6 t7 t8)
 (fun e8 e9 r0 r1 r2 r3 r4 r5 r6 r7 r8 s0 s1 s2 s3 s4 s5 s6 s7 s8 t0 t1 t2 t3 t4 t5 t6 t7 t8 =>
 rec e8 (IntKind.wrap .i64 (e9 + (1 : Int))) r0 r1 r2 r3 r4 r5 r6 r7 r8 s0 s1 s2 s3 s4 s5 s6 s7 s8 t0 t1 t2 t3 t4 t5 t6 t7 t8) v8 v9 y148.1 y148.2.1 p0 p1 p2 p3 p4 p5 p6 p7 p8 q0 q1 q2 q3 q4 q5 q6 q7 q8 c0 c1 c2 c3 c4 c5 c6 c7 c8
 else
 bif v9 == (2 : Int) then
 (F.dec_Compare n (q6, q7, q8, ()) (q6, q7, q8, ())).bind fun y151 =>
 F.law03_DecOrders.C17 n
 (fun e2 r0 r1 r2 r3 r4 r5 r6 r7 r8 s0 s1 s2 s3 s4 s5 s6 s7 s8 t0 t1 t2 t3 t4 t5 t6 t7 t8 =>
 kr e2 r0 r1 r2 r3 r4 r5 r6 r7 r8 s0 s1 s2 s3 s4 s5 s6 s7 s8 t0 t1 t2 t3 t4 t5 t6 t7 t8)
 (fun e8 e9 r0 r1 r2 r3 r4 r5 r6 r7 r8 s0 s1 s2 s3 s4 s5 s6 s7 s8 t0 t1 t2 t3 t4 t5 t6 t7 t8 =>
 rec e8 (IntKind.wrap .i64 (e9 + (1 : Int))) r0 r1 r2 r3 r4 r5 r6 r7 r8 s0 s1 s2 s3 s4 s5 s6 s7 s8 t0 t1 t2 t3 t4 t5 t6 t7 t8) v8 v9 y151.1 y151.2.1 p0 p1 p2 p3 p4 p5 p6 p7 p8 q0 q1 q2 q3 q4 q5 q6 q7 q8 c0 c1 c2 c3 c4 c5 c6 c7 c8
 else
 none
 else
 none
 else
 k4 v8 p0 p1 p2 p3 p4 p5 p6 p7 p8 q0 q1 q2 q3 q4 q5 q6 q7 q8 c0 c1 c2 c3 c4 c5 c6 c7 c8
noncomputable def F.law03_DecOrders.L14 {X : Type} (n : Nat) (k4 : Int → Bool → Int → Int → Bool → Int → Int → Bool → Int → Int → Bool → Int → Int → Bool → Int → Int → Bool → Int → Int → Int → Int → Int → Int → Int → Int → Int → Int → Int → Option X) (kr : Bool → Bool → Int → Int → Bool → Int → Int → Bool → Int → Int → Bool → Int → Int → Bool → Int → Int → Bool → Int → Int → Int → Int → Int → Int → Int → Int → Int → Int → Int → Option X) : Nat → Int → Int → Bool → Int → Int → Bool → Int → Int → Bool → Int → Int → Bool → Int → Int → Bool → Int → Int → Bool → Int → Int → Int → Int → Int → Int → Int → Int → Int → Int → Int → Option X
 | 0 => fun _ _ _ _ _ _ _ _ _ _ _ _ _ _ _ _ _ _ _ _ _ _ _ _ _ _ _ _ _ => none
 | m + 1 => fun v8 v9 p0 p1 p2 p3 p4 p5 p6 p7 p8 q0 q1 q2 q3 q4 q5 q6 q7 q8 c0 c1 c2 c3 c4 c5 c6 c7 c8 => F.law03_DecOrders.L14.step n (F.law03_DecOrders.L14 n k4 kr m) k4 kr v8 v9 p0 p1 p2 p3 p4 p5 p6 p7 p8 q0 q1 q2 q3 q4 q5 q6 q7 q8 c0 c1 c2 c3 c4 c5 c6 c7 c8
noncomputable def F.law03_DecOrders.L11.step {X : Type} (n : Nat) (rec : Int → Bool → Int → Int → Bool → Int → Int → Bool → Int → Int → Bool → Int → Int → Bool → Int → Int → Bool → Int → Int → Int → Int → Int → Int → Int → Int → Int → Int → Int → Option X) (k2 : Bool → Int → Int → Bool → Int → Int → Bool → Int → Int → Bool → Int → Int → Bool → Int → Int → Bool → Int → Int → Int → Int → Int → Int → Int → Int → Int → Int → Int → Option X) (kr : Bool → Bool → Int → Int → Bool → Int → Int → Bool → Int → Int → Bool → Int → Int → Bool → Int → Int → Bool → Int → Int → Int → Int → Int → Int → Int → Int → Int → Int → Int → Option X) (v8 : Int) (p0 : Bool) (p1 : Int) (p2 : Int) (p3 : Bool) (p4 : Int) (p5 : Int) (p6 : Bool) (p7 : Int) (p8 : Int) (q0 : Bool) (q1 : Int) (q2 : Int) (q3 : Bool) (q4 : Int) (q5 : Int) (q6 : Bool) (q7 : Int) (q8 : Int) (c0 : Int) (c1 : Int) (c2 : Int) (c3 : Int) (c4 : Int) (c5 : Int) (c6 : Int) (c7 : Int) (c8 : Int) : Option X :=
 bif decide (v8 < (3 : Int)) then
 F.law03_DecOrders.L14 n
 (fun e8 r0 r1 r2 r3 r4 r5 r6 r7 r8 s0 s1 s2 s3 s4 s5 s6 s7 s8 t0 t1 t2 t3 t4 t5 t6 t7 t8 =>
 rec (IntKind.wrap .i64 (e8 + (1 : Int))) r0 r1 r2 r3 r4 r5 r6 r7 r8 s0 s1 s2 s3 s4 s5 s6 s7 s8 t0 t1 t2 t3 t4 t5 t6 t7 t8)
 (fun e2 r0 r1 r2 r3 r4 r5 r6 r7 r8 s0 s1 s2 s3 s4 s5 s6 s7 s8 t0 t1 t2 t3 t4 t5 t6 t7 t8 =>
 kr e2 r0 r1 r2 r3 r4 r5 r6 r7 r8 s0 s1 s2 s3 s4 s5 s6 s7 s8 t0 t1 t2 t3 t4 t5 t6 t7 t8) n v8 (0 : Int) p0 p1 p2 p3 p4 p5 p6 p7 p8 q0 q1 q2 q3 q4 q5 q6 q7 q8 c0 c1 c2 c3 c4 c5 c6 c7 c8
 else
 k2 p0 p1 p2 p3 p4 p5 p6 p7 p8 q0 q1 q2 q3 q4 q5 q6 q7 q8 c0 c1 c2 c3 c4 c5 c6 c7 c8
noncomputable def F.law03_DecOrders.L11 {X : Type} (n : Nat) (k2 : Bool → Int → Int → Bool → Int → Int → Bool → Int → Int → Bool → Int → Int → Bool → Int → Int → Bool → Int → Int → Int → Int → Int → Int → Int → Int → Int → Int → Int → Option X) (kr : Bool → Bool → Int → Int → Bool → Int → Int → Bool → Int → Int → Bool → Int → Int → Bool → Int → Int → Bool → Int → Int → Int → Int → Int → Int → Int → Int → Int → Int → Int → Option X) : Nat → Int → Bool → Int → Int → Bool → Int → Int → Bool → Int → Int → Bool → Int → Int → Bool → Int → Int → Bool → Int → Int → Int → Int → Int → Int → Int → Int → Int → Int → Int → Option X
 | 0 => fun _ _ _ _ _ _ _ _ _ _ _ _ _ _ _ _ _ _ _ _ _ _ _ _ _ _ _ _ => none
 | m + 1 => fun v8 p0 p1 p2 p3 p4 p5 p6 p7 p8 q0 q1 q2 q3 q4 q5 q6 q7 q8 c0 c1 c2 c3 c4 c5 c6 c7 c8 => F.law03_DecOrders.L11.step n (F.law03_DecOrders.L11 n k2 kr m) k2 kr v8 p0 p1 p2 p3 p4 p5 p6 p7 p8 q0 q1 q2 q3 q4 q5 q6 q7 q8 c0 c1 c2 c3 c4 c5 c6 c7 c8
end Go.AM
