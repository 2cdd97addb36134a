/- Part 4 of a proof by the abstract machine. -/
import Derived.Test.YthpnjohdecdlkaaGreatDoorQ3
import Derived.Shelf.Strings.Builder1
import Derived.Shelf.Strings.Builder2
import Derived.Shelf.Strings.OnBuilder
import Derived.Shelf.Strings.Trim
import Derived.Shelf.Small.Utf8
import Derived.Shelf.Small.Bits
import Derived.Shelf.Small.Strs
import Derived.Shelf.Small.Wraps
import Derived.Shelf.Strings.BuilderF
import Derived.Shelf.Strings.BuilderK
import Derived.Shelf.Utf8.RuneCount
import Derived.Shelf.Strings.Builder2Cap
import Derived.Shelf.Strconv.Atoi
import Derived.Shelf.Strconv.Itoa0
import Derived.Shelf.Strconv.Itoa1
import Derived.Shelf.LaysM
import Derived.Shelf.Strconv.Itoa2
import Derived.Shelf.Strconv.Itoa3
import Derived.Shelf.Strconv.AtoiErrFast
import Derived.Shelf.Strconv.ParseIntEmpty
import Derived.Shelf.Strconv.AtoiFail
import Derived.Shelf.Strconv.Clone
import Derived.Shelf.Strconv.SyntaxError
import Derived.Shelf.LaysC
import Derived.Shelf.Strconv.ToError
import Derived.Shelf.Strconv.Lower
import Derived.Shelf.Strconv.ParseUint10
import Derived.Shelf.Strconv.ParseUint10Empty
import Derived.Shelf.Strconv.ParseUint10Any
import Derived.Shelf.Strconv.ParseInt10
import Derived.Shelf.Strconv.AtoiLong
import Derived.Shelf.Strconv.AtoiInnerAll
import Derived.Shelf.Strconv.RangeError
import Derived.Shelf.Strconv.ToErrorRange
import Derived.Shelf.Strconv.AtoiAll
import Derived.Shelf.Strconv.ErrVarAll
import Derived.Shelf.Strings.Search1
import Derived.Shelf.Strings.Search2
import Derived.Shelf.Strings.Search3
import Derived.Shelf.Strings.Cut
import Derived.Shelf.Strings.Count
import Derived.Shelf.Strings.Shaped
import Derived.Shelf.Strings.Prefix
import Derived.Shelf.Strings.Split
import Derived.Shelf.Strings.SplitShaped
import Derived.Shelf.Unicode.Decode
import Derived.Shelf.Strings.Runes
import Derived.Shelf.Strings.RuneCount
import Derived.Shelf.Strings.AsciiSet
import Derived.Shelf.Strings.Explode
import Derived.Shelf.Bits.Mul64
import Derived.Shelf.Strings.Repeat
import Derived.Shelf.Unicode.DecodeSlow
import Derived.Shelf.Unicode.DecodeAny
import Derived.Shelf.Unicode.DecodeLast
import Derived.Shelf.Strings.BuilderCap
import Derived.Ground.SlbNamesProg
import Derived.Shelf.Bytes.SlJoin
import Derived.Shelf.SlGeneric
import Derived.Ground.SlsfProg
import Derived.Shelf.SlSortCmp.WholeK
import Derived.Test.YthpnjohdecdlkaaGreatDoorProg
import Derived.Lib.AppendIntMem
import Derived.Lib.ItoaMem
import Derived.Lib.Walk
import Derived.WalkKit
import Derived.BigCall
import Derived.BigGuard
import Derived.Shelf.Strings.BuilderX
import Derived.Lib.Builder
import Derived.Lib.UnsafeStr
import Derived.Laws.Externs
import Derived.Shelf.RegionOpenPlain
import Derived.Deep.RegionHeld2
import Derived.LoopN
import Derived.KernelRfl
set_option linter.unusedVariables false
namespace Go.AM
abbrev Z0 : Type:=List UInt8
abbrev Z1 : Type:=(Bool) × (Int) × (Int)
abbrev Z2 : Type:=List (Z1)
abbrev Z3 : Type:=(Z0) × (Z0)
abbrev Z4 : Type:=List (Z3)
abbrev Z5 : Type:=(Z0) × (Int) × (Z2) × (Int) × (Z4) × (Int)
abbrev Z6 : Type:=List (Z5)
abbrev Z7 : Type:=(Z0) × (Int) × (Z2) × (Int) × (Z4) × (Int) × Unit
abbrev Z8 : Type:=List (UInt8)
abbrev Z9 : Type:=List (Z8)
abbrev Z10 : Type:=List (Z0)
abbrev Z11 : Type:=List (List UInt8 × Int)
abbrev Z12 : Type:=Nat × Nat
abbrev Z13 : Type:=Nat × List (Z1)
abbrev Z14 : Type:=((Z7) × Unit) × (Unit)
abbrev Z15 : Type:=(Z14) × (Int) × (Z14) × (Int) × (Z14) × (Int) × (Z14) × (Int) × (Z14) × (Int) × (Z14) × (Int) × Unit
abbrev Z16 : Type:=(Int) × (Int) × Unit
abbrev Z17 : Type:=(Bool) × (Int) × (Int) × Unit
abbrev Z18 : Type:=(Z0) × (Z0) × Unit
abbrev Z19 : Type:=Nat × List (Z3)
abbrev Z20 : Type:=List (Bool)
abbrev Z21 : Type:=Nat × List (UInt8)
abbrev Z22 : Type:=(Z0) × (Z0) × (Z0) × (Z0) × (Z0) × (Z0) × Unit
abbrev Z23 : Type:=Nat × List (Z0)
noncomputable def F.zam.L4.step {X : Type} (n : Nat) (rec : Int→Z0→Int→Z2→Int→Z4→Int→Option X) (k0 : Z0→Int→Z2→Int→Z4→Int→Option X) (kr : Bool→Z0→Int→Z2→Int→Z4→Int→Option X) (v3 : Int) (ab0 : Z0) (ab1 : Int) (ab2 : Z2) (ab3 : Int) (ab4 : Z4) (ab5 : Int) : Option X:=
 bif decide (v3 < (ab4.length : Int)) then
  (idx ab4 v3).bind fun x1 =>
   bif decide ((x1.1.length : Int) > (150 : Int)) then
    kr false ab0 ab1 ab2 ab3 ab4 ab5
   else
    (idx ab4 v3).bind fun x2 =>
     bif decide ((x2.2.length : Int) > (150 : Int)) then
      kr false ab0 ab1 ab2 ab3 ab4 ab5
     else
      rec (IntKind.wrap .i64 (v3 + (1 : Int))) ab0 ab1 ab2 ab3 ab4 ab5
 else
  k0 ab0 ab1 ab2 ab3 ab4 ab5
noncomputable def F.zam.L4 {X : Type} (n : Nat) (k0 : Z0→Int→Z2→Int→Z4→Int→Option X) (kr : Bool→Z0→Int→Z2→Int→Z4→Int→Option X) : Nat→Int→Z0→Int→Z2→Int→Z4→Int→Option X
 | 0 => fun _ _ _ _ _ _ _ => none
 | m + 1 => fun v3 ab0 ab1 ab2 ab3 ab4 ab5 => F.zam.L4.step n (F.zam.L4 n k0 kr m) k0 kr v3 ab0 ab1 ab2 ab3 ab4 ab5
noncomputable def F.zam (n : Nat) (a0 : Z7) : Option (Bool):=
 bif decide ((a0.1.length : Int) > (300 : Int)) then
  some (false)
 else
 bif decide ((a0.2.2.1.length : Int) > (80 : Int)) then
  some (false)
 else
 bif decide ((a0.2.2.2.2.1.length : Int) > (40 : Int)) then
  some (false)
 else
  F.zam.L4 n
   (fun g0 g1 g2 g3 g4 g5 =>
    some (true))
   (fun e2 g0 g1 g2 g3 g4 g5 =>
    some (e2)) n (0 : Int) a0.1 a0.2.1 a0.2.2.1 a0.2.2.2.1 a0.2.2.2.2.1 a0.2.2.2.2.2.1
noncomputable def F.zar.L2.step {X : Type} (n : Nat) (rec : Z6→Int→Option X) (k0 : Z6→Option X) (kr : Bool→Option X) (v0 : Z6) (v3 : Int) : Option X:=
 bif decide (v3 < (v0.length : Int)) then
  bif decide (v3 < (13 : Int)) then
   (idx v0 v3).bind fun x1 =>
    (F.zam n (x1.1,x1.2.1,x1.2.2.1,x1.2.2.2.1,x1.2.2.2.2.1,x1.2.2.2.2.2,())).bind fun y2 =>
     bif !y2 then
      kr false
     else
      rec v0 (IntKind.wrap .i64 (v3 + (1 : Int)))
  else
   k0 v0
 else
  k0 v0
noncomputable def F.zar.L2 {X : Type} (n : Nat) (k0 : Z6→Option X) (kr : Bool→Option X) : Nat→Z6→Int→Option X
 | 0 => fun _ _ => none
 | m + 1 => fun v0 v3 => F.zar.L2.step n (F.zar.L2 n k0 kr m) k0 kr v0 v3
noncomputable def F.zar (n : Nat) (a0 : Z6) : Option (Bool):=
 F.zar.L2 n
  (fun e0 =>
   some (decide ((e0.length : Int) ≤ (12 : Int))))
  (fun e2 =>
   some (e2)) n a0 (0 : Int)
noncomputable def F.zaf.L4.step {X : Type} (n : Nat) (rec : Z9→Z10→Int→Option X) (k0 : Unit→Option X) (kr : Bool→Option X) (v0 : Z9) (v1 : Z10) (v5 : Int) : Option X:=
 bif decide (v5 < (v0.length : Int)) then
  (idx v0 v5).bind fun x1 =>
   (idx v1 v5).bind fun x2 =>
    bif !(x1 == x2) then
     kr false
    else
     rec v0 v1 (IntKind.wrap .i64 (v5 + (1 : Int)))
 else
  k0 ()
noncomputable def F.zaf.L4 {X : Type} (n : Nat) (k0 : Unit→Option X) (kr : Bool→Option X) : Nat→Z9→Z10→Int→Option X
 | 0 => fun _ _ _ => none
 | m + 1 => fun v0 v1 v5 => F.zaf.L4.step n (F.zaf.L4 n k0 kr m) k0 kr v0 v1 v5
noncomputable def F.zaf (n : Nat) (a0 : Z9) (a1 : Z10) : Option (Bool):=
 bif !((a0.length : Int) == (a1.length : Int)) then
  some (false)
 else
  F.zaf.L4 n
   (fun (_ : Unit) =>
    some (true))
   (fun e4 =>
    some (e4)) n a0 a1 (0 : Int)
noncomputable def F.zb0 (n : Nat) (a0 : Int) : Option (Bool):=
 bif decide (a0 ≥ (1 : Int)) then
  some (decide (a0 ≤ (65536 : Int)))
 else
  some (false)
noncomputable def F.zby (n : Nat) (a0 : Z0) (a1 : Z0) : Option (Int):=
 (O.index1 n a0 a1).bind fun y1 =>
  some (y1)
noncomputable def F.za9 (n : Nat) (a0 : Z0) (a1 : Z0) : Option (Bool):=
 (F.zby n a0 a1).bind fun y1 =>
  some (decide (y1 ≥ (0 : Int)))
noncomputable def F.zj.L4.step {X : Type} (n : Nat) (rec : Z10→Int→Z10→Int→Int→Option X) (k0 : Z10→Int→Option X) (kr : Z9→Int→Int→Nat→Option X) (v0 : Z10) (v1 : Int) (v12 : Z10) (v13 : Int) (v14 : Int) : Option X:=
 bif decide (v14 < v13) then
  (idx v12 v14).bind fun x2 =>
   (F.za9 n x2 ([10])).bind fun y3 =>
    bif y3 then
     kr [] v14 (14 : Int) 0
    else
    bif decide ((IntKind.wrap .i64 ((x2.length : Int) + (1 : Int))) > v1) then
     kr [] v14 (27 : Int) 0
    else
     rec v0 v1 v12 v13 (IntKind.wrap .i64 (v14 + (1 : Int)))
 else
  k0 v0 v1
noncomputable def F.zj.L4 {X : Type} (n : Nat) (k0 : Z10→Int→Option X) (kr : Z9→Int→Int→Nat→Option X) : Nat→Z10→Int→Z10→Int→Int→Option X
 | 0 => fun _ _ _ _ _ => none
 | m + 1 => fun v0 v1 v12 v13 v14 => F.zj.L4.step n (F.zj.L4 n k0 kr m) k0 kr v0 v1 v12 v13 v14
noncomputable def F.zj.L3_split_datagrams_1.step {X : Type} (n : Nat) (rec : Z8→Int→Int→Z10→Int→Int→Z10→Int→Z9→Nat→Nat→Option X) (k0 : Z8→Int→Int→Z10→Int→Z9→Nat→Nat→Option X) (v4 : Z8) (v5 : Int) (v6 : Int) (v14 : Z10) (v15 : Int) (v16 : Int) (ab0 : Z10) (bb0 : Int) (cb0 : Z9) (vk0 : Nat) (vk1 : Nat) : Option X:=
 bif decide (v16 < v15) then
  (idx v14 v16).bind fun x6 =>
   bif decide ((IntKind.wrap .i64 ((IntKind.wrap .i64 ((IntKind.wrap .i64 (v6 + (x6.length : Int))) + (1 : Int))) - v5)) > bb0) then
    bif v6 == v6 then
     (sub v4 v5 v6).bind fun x7 =>
      bif decide ((cb0.length + 1) * 24 ≤ 2 ^ 46) && decide (0 < 24 ∧ 24 ≤ 2 ^ 20) then
       bif Nat.beq vk1 cb0.length then
        rec v4 v6 (IntKind.wrap .i64 ((IntKind.wrap .i64 (v6 + (x6.length : Int))) + (1 : Int))) v14 v15 (IntKind.wrap .i64 (v16 + (1 : Int))) ab0 bb0 (cb0 ++ ([x7])) vk0 ((cb0 ++ ([x7])).length)
       else
        none
      else
       none
    else
     none
   else
    rec v4 v5 (IntKind.wrap .i64 ((IntKind.wrap .i64 (v6 + (x6.length : Int))) + (1 : Int))) v14 v15 (IntKind.wrap .i64 (v16 + (1 : Int))) ab0 bb0 cb0 vk0 vk1
 else
  k0 v4 v5 v6 ab0 bb0 cb0 vk0 vk1
noncomputable def F.zj.L3_split_datagrams_1 {X : Type} (n : Nat) (k0 : Z8→Int→Int→Z10→Int→Z9→Nat→Nat→Option X) : Nat→Z8→Int→Int→Z10→Int→Int→Z10→Int→Z9→Nat→Nat→Option X
 | 0 => fun _ _ _ _ _ _ _ _ _ _ _ => none
 | m + 1 => fun v4 v5 v6 v14 v15 v16 ab0 bb0 cb0 vk0 vk1 => F.zj.L3_split_datagrams_1.step n (F.zj.L3_split_datagrams_1 n k0 m) k0 v4 v5 v6 v14 v15 v16 ab0 bb0 cb0 vk0 vk1
noncomputable def F.zj (n : Nat) (a0 : Z10) (a1 : Int) : Option ((Z9) × (Int) × (Int) × Unit):=
 (F.zb0 n a1).bind fun y1 =>
  bif !y1 then
   some (([],(0 : Int),(10 : Int),()))
  else
   F.zj.L4 n
    (fun e0 e1 =>
     (O.join n e0 ([10])).bind fun y5 =>
      bif decide (y5.length + 1 ≤ strMax) then
       F.zj.L3_split_datagrams_1 n
        (fun e4 e5 e6 g0 h0 i0 ek0 ek1 =>
         bif decide (e6 > e5) then
          bif e6 == e6 then
           (sub e4 e5 e6).bind fun x9 =>
            bif decide ((i0.length + 1) * 24 ≤ 2 ^ 46) && decide (0 < 24 ∧ 24 ≤ 2 ^ 20) then
             bif Nat.beq ek1 i0.length then
              some ((i0 ++ ([x9]),(0 : Int),(0 : Int),()))
             else
              none
            else
             none
          else
           none
         else
          some ((i0,(0 : Int),(0 : Int),()))) n (y5 ++ ([10])) (0 : Int) (0 : Int) e0 (e0.length : Int) (0 : Int) e0 e1 [] ((y5 ++ ([10])).length) 0
      else
       none)
    (fun e4 e5 e6 ek0 =>
     some ((e4,e5,e6,()))) n a0 a1 a0 (a0.length : Int) (0 : Int)
noncomputable def F.zb6 (n : Nat) (a0 : Z9) : Option (Z8):=
 (O.bjoin n a0 []).bind fun y1 =>
  some (y1)
noncomputable def F.zbj (n : Nat) : Option (Bool):=
 (F.zj n ([[97,98],[99],[100,101,102]]) (5 : Int)).bind fun y1 =>
  (F.zj n ([[97,98],[99],[100,101,102]]) (3 : Int)).bind fun y2 =>
   (F.zaf n y1.1 ([[97,98,10,99,10],[100,101,102,10]])).bind fun y3 =>
    bif y3 then
     bif y1.2.1 == (0 : Int) then
      bif y1.2.2.1 == (0 : Int) then
       bif (y2.1.length : Int) == (0 : Int) then
        bif y2.2.1 == (2 : Int) then
         bif y2.2.2.1 == (27 : Int) then
          (F.zb6 n y1.1).bind fun y4 =>
           some (y4 == ([97,98,10,99,10,100,101,102,10]))
         else
          some (false)
        else
         some (false)
       else
        some (false)
      else
       some (false)
     else
      some (false)
    else
     some (false)
noncomputable def F.zcf (n : Nat) (a0 : Int) : Option (Bool):=
 bif decide (a0 ≥ (1 : Int)) then
  some (decide (a0 ≤ (4 : Int)))
 else
  some (false)
noncomputable def F.zal (n : Nat) (a0 : Int) (a1 : Int) (a2 : Int) : Option (Bool):=
 bif decide (a0 ≥ a1) then
  some (decide (a0 ≤ a2))
 else
  some (false)
noncomputable def F.zcj (n : Nat) (a0 : Int) (a1 : Int) : Option (Bool):=
 bif a0 == (3 : Int) then
  (F.zal n a1 (33 : Int) (126 : Int)).bind fun y1 =>
   bif y1 then
    bif !(a1 == (44 : Int)) then
     some (!(a1 == (124 : Int)))
    else
     some (false)
   else
    some (false)
 else
 bif a0 == (2 : Int) then
  bif a1 == (47 : Int) then
   some (true)
  else
   (F.zal n a1 (65 : Int) (90 : Int)).bind fun y2 =>
    bif y2 then
     some (true)
    else
     (F.zal n a1 (97 : Int) (122 : Int)).bind fun y3 =>
      bif y3 then
       some (true)
      else
      bif a1 == (95 : Int) then
       some (true)
      else
      bif a1 == (46 : Int) then
       some (true)
      else
      bif a1 == (45 : Int) then
       some (true)
      else
       (F.zal n a1 (48 : Int) (57 : Int)).bind fun y4 =>
        some (y4)
 else
 bif a0 == (1 : Int) then
  (F.zal n a1 (65 : Int) (90 : Int)).bind fun y5 =>
   bif y5 then
    some (true)
   else
    (F.zal n a1 (97 : Int) (122 : Int)).bind fun y6 =>
     bif y6 then
      some (true)
     else
     bif a1 == (95 : Int) then
      some (true)
     else
     bif a1 == (46 : Int) then
      some (true)
     else
     bif a1 == (45 : Int) then
      some (true)
     else
      (F.zal n a1 (48 : Int) (57 : Int)).bind fun y7 =>
       some (y7)
 else
 bif a0 == (4 : Int) then
  (F.zal n a1 (48 : Int) (57 : Int)).bind fun y8 =>
   some (y8)
 else
  some (false)
noncomputable def F.zan.L4.step {X : Type} (n : Nat) (rec : Int→Z0→Int→Int→Option X) (k0 : Unit→Option X) (kr : Int→Int→Option X) (v0 : Int) (v1 : Z0) (v11 : Int) (v12 : Int) : Option X:=
 bif decide (v12 < v11) then
  (idx v1 v12).bind fun x2 =>
   (F.zcj n v0 ((x2).toNat)).bind fun y3 =>
    bif !y3 then
     kr v12 (0 : Int)
    else
     rec v0 v1 v11 (IntKind.wrap .i64 (v12 + (1 : Int)))
 else
  k0 ()
noncomputable def F.zan.L4 {X : Type} (n : Nat) (k0 : Unit→Option X) (kr : Int→Int→Option X) : Nat→Int→Z0→Int→Int→Option X
 | 0 => fun _ _ _ _ => none
 | m + 1 => fun v0 v1 v11 v12 => F.zan.L4.step n (F.zan.L4 n k0 kr m) k0 kr v0 v1 v11 v12
noncomputable def F.zan (n : Nat) (a0 : Int) (a1 : Z0) : Option ((Int) × (Int) × Unit):=
 (F.zcf n a0).bind fun y1 =>
  bif !y1 then
   some (((0 : Int),(1 : Int),()))
  else
   F.zan.L4 n
    (fun (_ : Unit) =>
     some (((-1 : Int),(0 : Int),())))
    (fun e4 e5 =>
     some ((e4,e5,()))) n a0 a1 (a1.length : Int) (0 : Int)
noncomputable def F.zbf (n : Nat) (a0 : Int) (a1 : Z0) (a2 : Int) (a3 : Int) : Option (Z16):=
 (F.zan n a0 a1).bind fun y1 =>
  bif !(y1.2.1 == (0 : Int)) then
   some (((1 : Int),(0 : Int),()))
  else
  bif decide (a2 < (0 : Int)) then
   some (((1 : Int),(0 : Int),()))
  else
  bif decide (a3 < a2) then
   some (((1 : Int),(0 : Int),()))
  else
  bif decide ((a1.length : Int) < a2) then
   some (((13 : Int),(a1.length : Int),()))
  else
  bif decide ((a1.length : Int) > a3) then
   some (((12 : Int),a3,()))
  else
  bif decide (y1.1 ≥ (0 : Int)) then
   some (((14 : Int),y1.1,()))
  else
   some (((0 : Int),(0 : Int),()))
noncomputable def F.za1 (n : Nat) (a0 : Z7) : Option (Bool):=
 (F.zbf n (1 : Int) a0.1 (1 : Int) (200 : Int)).bind fun y1 =>
  some ((y1.1 == (0 : Int)) && (y1.2.1 == (0 : Int)))
noncomputable def F.zaz (n : Nat) (a0 : Int) (a1 : Int) (a2 : Int) : Option (Bool):=
 bif decide (a0 ≥ a1) then
  some (decide (a0 ≤ a2))
 else
  some (false)
noncomputable def F.za2 (n : Nat) (a0 : Z7) : Option (Bool):=
 (F.zaz n a0.2.1 (1 : Int) (5 : Int)).bind fun y1 =>
  some (y1)
noncomputable def F.zcg (n : Nat) (a0 : Int) (a1 : Int) : Option ((Int) × (Bool) × Unit):=
 (O.mul64 n a0 (10 : Int)).bind fun y1 =>
  (O.add64 n y1.2.1 a1 (0 : Int)).bind fun y2 =>
   bif y1.1 == (0 : Int) then
    some ((y2.1,y2.2.1 == (0 : Int),()))
   else
    some ((y2.1,false,()))
noncomputable def F.zg.L3.step {X : Type} (n : Nat) (rec : Bool→Int→Int→Bool→Int→Int→Option X) (k0 : Bool→Int→Int→Bool→Int→Int→Option X) (ab0 : Bool) (ab1 : Int) (ab2 : Int) (bb0 : Bool) (bb1 : Int) (bb2 : Int) : Option X:=
 bif (ab1.tmod (10 : Int)) == (0 : Int) then
  bif decide (ab2 < (18 : Int)) then
   rec ab0 (IntKind.wrap .u64 (ab1.tdiv (10 : Int))) (IntKind.wrap .i64 (ab2 + (1 : Int))) bb0 bb1 bb2
  else
   k0 ab0 ab1 ab2 bb0 bb1 bb2
 else
  k0 ab0 ab1 ab2 bb0 bb1 bb2
noncomputable def F.zg.L3 {X : Type} (n : Nat) (k0 : Bool→Int→Int→Bool→Int→Int→Option X) : Nat→Bool→Int→Int→Bool→Int→Int→Option X
 | 0 => fun _ _ _ _ _ _ => none
 | m + 1 => fun ab0 ab1 ab2 bb0 bb1 bb2 => F.zg.L3.step n (F.zg.L3 n k0 m) k0 ab0 ab1 ab2 bb0 bb1 bb2
noncomputable def F.zg.L5.step {X : Type} (n : Nat) (rec : Bool→Int→Int→Bool→Int→Int→Option X) (k2 : Bool→Int→Int→Bool→Int→Int→Option X) (kr : Int→Bool→Int→Int→Bool→Int→Int→Option X) (ab0 : Bool) (ab1 : Int) (ab2 : Int) (bb0 : Bool) (bb1 : Int) (bb2 : Int) : Option X:=
 bif decide (ab2 > (18 : Int)) then
  (F.zcg n ab1 (0 : Int)).bind fun y2 =>
   bif !y2.2.1 then
    kr (10 : Int) ab0 ab1 ab2 false (0 : Int) (0 : Int)
   else
    rec ab0 y2.1 (IntKind.wrap .i64 (ab2 - (1 : Int))) bb0 bb1 bb2
 else
  k2 ab0 ab1 ab2 bb0 bb1 bb2
noncomputable def F.zg.L5 {X : Type} (n : Nat) (k2 : Bool→Int→Int→Bool→Int→Int→Option X) (kr : Int→Bool→Int→Int→Bool→Int→Int→Option X) : Nat→Bool→Int→Int→Bool→Int→Int→Option X
 | 0 => fun _ _ _ _ _ _ => none
 | m + 1 => fun ab0 ab1 ab2 bb0 bb1 bb2 => F.zg.L5.step n (F.zg.L5 n k2 kr m) k2 kr ab0 ab1 ab2 bb0 bb1 bb2
noncomputable def F.zg (n : Nat) (a0 : Z17) : Option ((Z17) × (Int) × Unit):=
 bif a0.2.1 == (0 : Int) then
  some (((false,(0 : Int),(0 : Int),()),(0 : Int),()))
 else
  F.zg.L3 n
   (fun g0 g1 g2 h0 h1 h2 =>
    F.zg.L5 n
     (fun g0 g1 g2 h0 h1 h2 =>
      bif decide (g2 < (-18 : Int)) then
       some (((false,(0 : Int),(0 : Int),()),(10 : Int),()))
      else
       some (((g0,g1,g2,()),(0 : Int),())))
     (fun e3 g0 g1 g2 h0 h1 h2 =>
      some (((h0,h1,h2,()),e3,()))) n g0 g1 g2 h0 h1 h2) n a0.1 a0.2.1 a0.2.2.1 false (0 : Int) (0 : Int)
noncomputable def F.zbe (n : Nat) (a0 : Z17) : Option (Int):=
 bif !(a0.2.1 == (0 : Int)) then
  bif decide (a0.2.2.1 < (-18 : Int)) then
   some ((10 : Int))
  else
  bif decide (a0.2.2.1 > (18 : Int)) then
   some ((10 : Int))
  else
   (F.zg n (a0.1,a0.2.1,a0.2.2.1,())).bind fun y1 =>
    bif !(y1.2.1 == (0 : Int)) then
     some ((21 : Int))
    else
    bif !((y1.1.1 == a0.1) && ((y1.1.2.1 == a0.2.1) && (y1.1.2.2.1 == a0.2.2.1))) then
     some ((21 : Int))
    else
     some ((0 : Int))
 else
  (F.zg n (a0.1,a0.2.1,a0.2.2.1,())).bind fun y2 =>
   bif !(y2.2.1 == (0 : Int)) then
    some ((21 : Int))
   else
   bif !((y2.1.1 == a0.1) && ((y2.1.2.1 == a0.2.1) && (y2.1.2.2.1 == a0.2.2.1))) then
    some ((21 : Int))
   else
    some ((0 : Int))
noncomputable def F.za8 (n : Nat) (a0 : Z17) : Option (Bool):=
 (F.zbe n (a0.1,a0.2.1,a0.2.2.1,())).bind fun y1 =>
  some (!(y1 == (0 : Int)))
noncomputable def F.zn.L2_slices_IndexFunc_api_Dec_api_Dec.step {X : Type} (n : Nat) (rec : Z2→Int→Int→Z0→Int→Z2→Int→Z4→Int→Option X) (k0 : Z0→Int→Z2→Int→Z4→Int→Option X) (kr : Int→Z0→Int→Z2→Int→Z4→Int→Option X) (v0 : Z2) (v7 : Int) (v8 : Int) (ab0 : Z0) (ab1 : Int) (ab2 : Z2) (ab3 : Int) (ab4 : Z4) (ab5 : Int) : Option X:=
 bif decide (v8 < v7) then
  (idx v0 v8).bind fun x2 =>
   (F.za8 n (x2.1,x2.2.1,x2.2.2,())).bind fun y3 =>
    bif y3 then
     kr v8 ab0 ab1 ab2 ab3 ab4 ab5
    else
     rec v0 v7 (IntKind.wrap .i64 (v8 + (1 : Int))) ab0 ab1 ab2 ab3 ab4 ab5
 else
  k0 ab0 ab1 ab2 ab3 ab4 ab5
noncomputable def F.zn.L2_slices_IndexFunc_api_Dec_api_Dec {X : Type} (n : Nat) (k0 : Z0→Int→Z2→Int→Z4→Int→Option X) (kr : Int→Z0→Int→Z2→Int→Z4→Int→Option X) : Nat→Z2→Int→Int→Z0→Int→Z2→Int→Z4→Int→Option X
 | 0 => fun _ _ _ _ _ _ _ _ _ => none
 | m + 1 => fun v0 v7 v8 ab0 ab1 ab2 ab3 ab4 ab5 => F.zn.L2_slices_IndexFunc_api_Dec_api_Dec.step n (F.zn.L2_slices_IndexFunc_api_Dec_api_Dec n k0 kr m) k0 kr v0 v7 v8 ab0 ab1 ab2 ab3 ab4 ab5
noncomputable def F.zn (n : Nat) (a0 : Z7) : Option (Bool):=
 (F.zaz n (a0.2.2.1.length : Int) (1 : Int) (64 : Int)).bind fun y1 =>
  bif y1 then
   F.zn.L2_slices_IndexFunc_api_Dec_api_Dec n
    (fun g0 g1 g2 g3 g4 g5 =>
     some (true))
    (fun e4 g0 g1 g2 g3 g4 g5 =>
     some (!(decide (e4 ≥ (0 : Int))))) n a0.2.2.1 (a0.2.2.1.length : Int) (0 : Int) a0.1 a0.2.1 a0.2.2.1 a0.2.2.2.1 a0.2.2.2.2.1 a0.2.2.2.2.2.1
  else
   some (false)
noncomputable def F.za3 (n : Nat) (a0 : Z7) : Option (Bool):=
 (F.zaz n a0.2.2.2.1 (1 : Int) (1000000 : Int)).bind fun y1 =>
  bif y1 then
   bif !(a0.2.1 == (2 : Int)) then
    some (true)
   else
    some (a0.2.2.2.1 == (1000000 : Int))
  else
   some (false)
noncomputable def F.zb1 (n : Nat) (a0 : Z18) : Option (Int):=
 (F.zbf n (2 : Int) a0.1 (1 : Int) (64 : Int)).bind fun y1 =>
  bif !((y1.1 == (0 : Int)) && (y1.2.1 == (0 : Int))) then
   some ((19 : Int))
  else
   (F.zbf n (3 : Int) a0.2.1 (0 : Int) (100 : Int)).bind fun y2 =>
    bif !((y2.1 == (0 : Int)) && (y2.2.1 == (0 : Int))) then
     some ((19 : Int))
    else
     some ((0 : Int))
noncomputable def F.zbb (n : Nat) (a0 : Z18) : Option (Bool):=
 (F.zb1 n (a0.1,a0.2.1,())).bind fun y1 =>
  some (!(y1 == (0 : Int)))
noncomputable def F.zr.L2_slices_IndexFunc_api_Tag_api_Tag.step {X : Type} (n : Nat) (rec : Z4→Int→Int→Z0→Int→Z2→Int→Z4→Int→Option X) (k0 : Z0→Int→Z2→Int→Z4→Int→Option X) (kr : Int→Z0→Int→Z2→Int→Z4→Int→Option X) (v0 : Z4) (v7 : Int) (v8 : Int) (ab0 : Z0) (ab1 : Int) (ab2 : Z2) (ab3 : Int) (ab4 : Z4) (ab5 : Int) : Option X:=
 bif decide (v8 < v7) then
  (idx v0 v8).bind fun x1 =>
   (F.zbb n (x1.1,x1.2,())).bind fun y2 =>
    bif y2 then
     kr v8 ab0 ab1 ab2 ab3 ab4 ab5
    else
     rec v0 v7 (IntKind.wrap .i64 (v8 + (1 : Int))) ab0 ab1 ab2 ab3 ab4 ab5
 else
  k0 ab0 ab1 ab2 ab3 ab4 ab5
noncomputable def F.zr.L2_slices_IndexFunc_api_Tag_api_Tag {X : Type} (n : Nat) (k0 : Z0→Int→Z2→Int→Z4→Int→Option X) (kr : Int→Z0→Int→Z2→Int→Z4→Int→Option X) : Nat→Z4→Int→Int→Z0→Int→Z2→Int→Z4→Int→Option X
 | 0 => fun _ _ _ _ _ _ _ _ _ => none
 | m + 1 => fun v0 v7 v8 ab0 ab1 ab2 ab3 ab4 ab5 => F.zr.L2_slices_IndexFunc_api_Tag_api_Tag.step n (F.zr.L2_slices_IndexFunc_api_Tag_api_Tag n k0 kr m) k0 kr v0 v7 v8 ab0 ab1 ab2 ab3 ab4 ab5
noncomputable def F.zr (n : Nat) (a0 : Z7) : Option (Bool):=
 bif decide ((a0.2.2.2.2.1.length : Int) ≤ (32 : Int)) then
  F.zr.L2_slices_IndexFunc_api_Tag_api_Tag n
   (fun g0 g1 g2 g3 g4 g5 =>
    some (true))
   (fun e4 g0 g1 g2 g3 g4 g5 =>
    some (!(decide (e4 ≥ (0 : Int))))) n a0.2.2.2.2.1 (a0.2.2.2.2.1.length : Int) (0 : Int) a0.1 a0.2.1 a0.2.2.1 a0.2.2.2.1 a0.2.2.2.2.1 a0.2.2.2.2.2.1
 else
  some (false)
noncomputable def F.za4 (n : Nat) (a0 : Z7) : Option (Bool):=
 (F.zaz n a0.2.2.2.2.2.1 (0 : Int) (1099511627776 : Int)).bind fun y1 =>
  some (y1)
noncomputable def F.zo.L3.step {X : Type} (n : Nat) (rec : Z15→Int→Z0→Int→Z2→Int→Z4→Int→Z0→Int→Z2→Int→Z4→Int→Option X) (k0 : Z0→Int→Z2→Int→Z4→Int→Z0→Int→Z2→Int→Z4→Int→Option X) (kr : Int→Z0→Int→Z2→Int→Z4→Int→Z0→Int→Z2→Int→Z4→Int→Option X) (v26 : Z15) (v27 : Int) (ab0 : Z0) (ab1 : Int) (ab2 : Z2) (ab3 : Int) (ab4 : Z4) (ab5 : Int) (bb0 : Z0) (bb1 : Int) (bb2 : Z2) (bb3 : Int) (bb4 : Z4) (bb5 : Int) : Option X:=
 bif decide (v27 < (6 : Int)) then
  bif v27 == (0 : Int) then
   (F.za1 n (v26.1.1.1.1,v26.1.1.1.2.1,v26.1.1.1.2.2.1,v26.1.1.1.2.2.2.1,v26.1.1.1.2.2.2.2.1,v26.1.1.1.2.2.2.2.2.1,())).bind fun y1 =>
    bif !y1 then
     kr v26.2.1 ab0 ab1 ab2 ab3 ab4 ab5 bb0 bb1 bb2 bb3 bb4 bb5
    else
     rec ((((v26.1.1.1.1,v26.1.1.1.2.1,v26.1.1.1.2.2.1,v26.1.1.1.2.2.2.1,v26.1.1.1.2.2.2.2.1,v26.1.1.1.2.2.2.2.2.1,()),()),(())),v26.2.1,(((v26.2.2.1.1.1.1,v26.2.2.1.1.1.2.1,v26.2.2.1.1.1.2.2.1,v26.2.2.1.1.1.2.2.2.1,v26.2.2.1.1.1.2.2.2.2.1,v26.2.2.1.1.1.2.2.2.2.2.1,()),()),(())),v26.2.2.2.1,(((v26.2.2.2.2.1.1.1.1,v26.2.2.2.2.1.1.1.2.1,v26.2.2.2.2.1.1.1.2.2.1,v26.2.2.2.2.1.1.1.2.2.2.1,v26.2.2.2.2.1.1.1.2.2.2.2.1,v26.2.2.2.2.1.1.1.2.2.2.2.2.1,()),()),(())),v26.2.2.2.2.2.1,(((v26.2.2.2.2.2.2.1.1.1.1,v26.2.2.2.2.2.2.1.1.1.2.1,v26.2.2.2.2.2.2.1.1.1.2.2.1,v26.2.2.2.2.2.2.1.1.1.2.2.2.1,v26.2.2.2.2.2.2.1.1.1.2.2.2.2.1,v26.2.2.2.2.2.2.1.1.1.2.2.2.2.2.1,()),()),(())),v26.2.2.2.2.2.2.2.1,(((v26.2.2.2.2.2.2.2.2.1.1.1.1,v26.2.2.2.2.2.2.2.2.1.1.1.2.1,v26.2.2.2.2.2.2.2.2.1.1.1.2.2.1,v26.2.2.2.2.2.2.2.2.1.1.1.2.2.2.1,v26.2.2.2.2.2.2.2.2.1.1.1.2.2.2.2.1,v26.2.2.2.2.2.2.2.2.1.1.1.2.2.2.2.2.1,()),()),(())),v26.2.2.2.2.2.2.2.2.2.1,(((v26.2.2.2.2.2.2.2.2.2.2.1.1.1.1,v26.2.2.2.2.2.2.2.2.2.2.1.1.1.2.1,v26.2.2.2.2.2.2.2.2.2.2.1.1.1.2.2.1,v26.2.2.2.2.2.2.2.2.2.2.1.1.1.2.2.2.1,v26.2.2.2.2.2.2.2.2.2.2.1.1.1.2.2.2.2.1,v26.2.2.2.2.2.2.2.2.2.2.1.1.1.2.2.2.2.2.1,()),()),(())),v26.2.2.2.2.2.2.2.2.2.2.2.1,()) (IntKind.wrap .i64 (v27 + (1 : Int))) ab0 ab1 ab2 ab3 ab4 ab5 bb0 bb1 bb2 bb3 bb4 bb5
  else
  bif v27 == (1 : Int) then
   (F.za2 n (v26.2.2.1.1.1.1,v26.2.2.1.1.1.2.1,v26.2.2.1.1.1.2.2.1,v26.2.2.1.1.1.2.2.2.1,v26.2.2.1.1.1.2.2.2.2.1,v26.2.2.1.1.1.2.2.2.2.2.1,())).bind fun y2 =>
    bif !y2 then
     kr v26.2.2.2.1 ab0 ab1 ab2 ab3 ab4 ab5 bb0 bb1 bb2 bb3 bb4 bb5
    else
     rec ((((v26.1.1.1.1,v26.1.1.1.2.1,v26.1.1.1.2.2.1,v26.1.1.1.2.2.2.1,v26.1.1.1.2.2.2.2.1,v26.1.1.1.2.2.2.2.2.1,()),()),(())),v26.2.1,(((v26.2.2.1.1.1.1,v26.2.2.1.1.1.2.1,v26.2.2.1.1.1.2.2.1,v26.2.2.1.1.1.2.2.2.1,v26.2.2.1.1.1.2.2.2.2.1,v26.2.2.1.1.1.2.2.2.2.2.1,()),()),(())),v26.2.2.2.1,(((v26.2.2.2.2.1.1.1.1,v26.2.2.2.2.1.1.1.2.1,v26.2.2.2.2.1.1.1.2.2.1,v26.2.2.2.2.1.1.1.2.2.2.1,v26.2.2.2.2.1.1.1.2.2.2.2.1,v26.2.2.2.2.1.1.1.2.2.2.2.2.1,()),()),(())),v26.2.2.2.2.2.1,(((v26.2.2.2.2.2.2.1.1.1.1,v26.2.2.2.2.2.2.1.1.1.2.1,v26.2.2.2.2.2.2.1.1.1.2.2.1,v26.2.2.2.2.2.2.1.1.1.2.2.2.1,v26.2.2.2.2.2.2.1.1.1.2.2.2.2.1,v26.2.2.2.2.2.2.1.1.1.2.2.2.2.2.1,()),()),(())),v26.2.2.2.2.2.2.2.1,(((v26.2.2.2.2.2.2.2.2.1.1.1.1,v26.2.2.2.2.2.2.2.2.1.1.1.2.1,v26.2.2.2.2.2.2.2.2.1.1.1.2.2.1,v26.2.2.2.2.2.2.2.2.1.1.1.2.2.2.1,v26.2.2.2.2.2.2.2.2.1.1.1.2.2.2.2.1,v26.2.2.2.2.2.2.2.2.1.1.1.2.2.2.2.2.1,()),()),(())),v26.2.2.2.2.2.2.2.2.2.1,(((v26.2.2.2.2.2.2.2.2.2.2.1.1.1.1,v26.2.2.2.2.2.2.2.2.2.2.1.1.1.2.1,v26.2.2.2.2.2.2.2.2.2.2.1.1.1.2.2.1,v26.2.2.2.2.2.2.2.2.2.2.1.1.1.2.2.2.1,v26.2.2.2.2.2.2.2.2.2.2.1.1.1.2.2.2.2.1,v26.2.2.2.2.2.2.2.2.2.2.1.1.1.2.2.2.2.2.1,()),()),(())),v26.2.2.2.2.2.2.2.2.2.2.2.1,()) (IntKind.wrap .i64 (v27 + (1 : Int))) ab0 ab1 ab2 ab3 ab4 ab5 bb0 bb1 bb2 bb3 bb4 bb5
  else
  bif v27 == (2 : Int) then
   (F.zn n (v26.2.2.2.2.1.1.1.1,v26.2.2.2.2.1.1.1.2.1,v26.2.2.2.2.1.1.1.2.2.1,v26.2.2.2.2.1.1.1.2.2.2.1,v26.2.2.2.2.1.1.1.2.2.2.2.1,v26.2.2.2.2.1.1.1.2.2.2.2.2.1,())).bind fun y3 =>
    bif !y3 then
     kr v26.2.2.2.2.2.1 ab0 ab1 ab2 ab3 ab4 ab5 bb0 bb1 bb2 bb3 bb4 bb5
    else
     rec ((((v26.1.1.1.1,v26.1.1.1.2.1,v26.1.1.1.2.2.1,v26.1.1.1.2.2.2.1,v26.1.1.1.2.2.2.2.1,v26.1.1.1.2.2.2.2.2.1,()),()),(())),v26.2.1,(((v26.2.2.1.1.1.1,v26.2.2.1.1.1.2.1,v26.2.2.1.1.1.2.2.1,v26.2.2.1.1.1.2.2.2.1,v26.2.2.1.1.1.2.2.2.2.1,v26.2.2.1.1.1.2.2.2.2.2.1,()),()),(())),v26.2.2.2.1,(((v26.2.2.2.2.1.1.1.1,v26.2.2.2.2.1.1.1.2.1,v26.2.2.2.2.1.1.1.2.2.1,v26.2.2.2.2.1.1.1.2.2.2.1,v26.2.2.2.2.1.1.1.2.2.2.2.1,v26.2.2.2.2.1.1.1.2.2.2.2.2.1,()),()),(())),v26.2.2.2.2.2.1,(((v26.2.2.2.2.2.2.1.1.1.1,v26.2.2.2.2.2.2.1.1.1.2.1,v26.2.2.2.2.2.2.1.1.1.2.2.1,v26.2.2.2.2.2.2.1.1.1.2.2.2.1,v26.2.2.2.2.2.2.1.1.1.2.2.2.2.1,v26.2.2.2.2.2.2.1.1.1.2.2.2.2.2.1,()),()),(())),v26.2.2.2.2.2.2.2.1,(((v26.2.2.2.2.2.2.2.2.1.1.1.1,v26.2.2.2.2.2.2.2.2.1.1.1.2.1,v26.2.2.2.2.2.2.2.2.1.1.1.2.2.1,v26.2.2.2.2.2.2.2.2.1.1.1.2.2.2.1,v26.2.2.2.2.2.2.2.2.1.1.1.2.2.2.2.1,v26.2.2.2.2.2.2.2.2.1.1.1.2.2.2.2.2.1,()),()),(())),v26.2.2.2.2.2.2.2.2.2.1,(((v26.2.2.2.2.2.2.2.2.2.2.1.1.1.1,v26.2.2.2.2.2.2.2.2.2.2.1.1.1.2.1,v26.2.2.2.2.2.2.2.2.2.2.1.1.1.2.2.1,v26.2.2.2.2.2.2.2.2.2.2.1.1.1.2.2.2.1,v26.2.2.2.2.2.2.2.2.2.2.1.1.1.2.2.2.2.1,v26.2.2.2.2.2.2.2.2.2.2.1.1.1.2.2.2.2.2.1,()),()),(())),v26.2.2.2.2.2.2.2.2.2.2.2.1,()) (IntKind.wrap .i64 (v27 + (1 : Int))) ab0 ab1 ab2 ab3 ab4 ab5 bb0 bb1 bb2 bb3 bb4 bb5
  else
  bif v27 == (3 : Int) then
   (F.za3 n (v26.2.2.2.2.2.2.1.1.1.1,v26.2.2.2.2.2.2.1.1.1.2.1,v26.2.2.2.2.2.2.1.1.1.2.2.1,v26.2.2.2.2.2.2.1.1.1.2.2.2.1,v26.2.2.2.2.2.2.1.1.1.2.2.2.2.1,v26.2.2.2.2.2.2.1.1.1.2.2.2.2.2.1,())).bind fun y4 =>
    bif !y4 then
     kr v26.2.2.2.2.2.2.2.1 ab0 ab1 ab2 ab3 ab4 ab5 bb0 bb1 bb2 bb3 bb4 bb5
    else
     rec ((((v26.1.1.1.1,v26.1.1.1.2.1,v26.1.1.1.2.2.1,v26.1.1.1.2.2.2.1,v26.1.1.1.2.2.2.2.1,v26.1.1.1.2.2.2.2.2.1,()),()),(())),v26.2.1,(((v26.2.2.1.1.1.1,v26.2.2.1.1.1.2.1,v26.2.2.1.1.1.2.2.1,v26.2.2.1.1.1.2.2.2.1,v26.2.2.1.1.1.2.2.2.2.1,v26.2.2.1.1.1.2.2.2.2.2.1,()),()),(())),v26.2.2.2.1,(((v26.2.2.2.2.1.1.1.1,v26.2.2.2.2.1.1.1.2.1,v26.2.2.2.2.1.1.1.2.2.1,v26.2.2.2.2.1.1.1.2.2.2.1,v26.2.2.2.2.1.1.1.2.2.2.2.1,v26.2.2.2.2.1.1.1.2.2.2.2.2.1,()),()),(())),v26.2.2.2.2.2.1,(((v26.2.2.2.2.2.2.1.1.1.1,v26.2.2.2.2.2.2.1.1.1.2.1,v26.2.2.2.2.2.2.1.1.1.2.2.1,v26.2.2.2.2.2.2.1.1.1.2.2.2.1,v26.2.2.2.2.2.2.1.1.1.2.2.2.2.1,v26.2.2.2.2.2.2.1.1.1.2.2.2.2.2.1,()),()),(())),v26.2.2.2.2.2.2.2.1,(((v26.2.2.2.2.2.2.2.2.1.1.1.1,v26.2.2.2.2.2.2.2.2.1.1.1.2.1,v26.2.2.2.2.2.2.2.2.1.1.1.2.2.1,v26.2.2.2.2.2.2.2.2.1.1.1.2.2.2.1,v26.2.2.2.2.2.2.2.2.1.1.1.2.2.2.2.1,v26.2.2.2.2.2.2.2.2.1.1.1.2.2.2.2.2.1,()),()),(())),v26.2.2.2.2.2.2.2.2.2.1,(((v26.2.2.2.2.2.2.2.2.2.2.1.1.1.1,v26.2.2.2.2.2.2.2.2.2.2.1.1.1.2.1,v26.2.2.2.2.2.2.2.2.2.2.1.1.1.2.2.1,v26.2.2.2.2.2.2.2.2.2.2.1.1.1.2.2.2.1,v26.2.2.2.2.2.2.2.2.2.2.1.1.1.2.2.2.2.1,v26.2.2.2.2.2.2.2.2.2.2.1.1.1.2.2.2.2.2.1,()),()),(())),v26.2.2.2.2.2.2.2.2.2.2.2.1,()) (IntKind.wrap .i64 (v27 + (1 : Int))) ab0 ab1 ab2 ab3 ab4 ab5 bb0 bb1 bb2 bb3 bb4 bb5
  else
  bif v27 == (4 : Int) then
   (F.zr n (v26.2.2.2.2.2.2.2.2.1.1.1.1,v26.2.2.2.2.2.2.2.2.1.1.1.2.1,v26.2.2.2.2.2.2.2.2.1.1.1.2.2.1,v26.2.2.2.2.2.2.2.2.1.1.1.2.2.2.1,v26.2.2.2.2.2.2.2.2.1.1.1.2.2.2.2.1,v26.2.2.2.2.2.2.2.2.1.1.1.2.2.2.2.2.1,())).bind fun y5 =>
    bif !y5 then
     kr v26.2.2.2.2.2.2.2.2.2.1 ab0 ab1 ab2 ab3 ab4 ab5 bb0 bb1 bb2 bb3 bb4 bb5
    else
     rec ((((v26.1.1.1.1,v26.1.1.1.2.1,v26.1.1.1.2.2.1,v26.1.1.1.2.2.2.1,v26.1.1.1.2.2.2.2.1,v26.1.1.1.2.2.2.2.2.1,()),()),(())),v26.2.1,(((v26.2.2.1.1.1.1,v26.2.2.1.1.1.2.1,v26.2.2.1.1.1.2.2.1,v26.2.2.1.1.1.2.2.2.1,v26.2.2.1.1.1.2.2.2.2.1,v26.2.2.1.1.1.2.2.2.2.2.1,()),()),(())),v26.2.2.2.1,(((v26.2.2.2.2.1.1.1.1,v26.2.2.2.2.1.1.1.2.1,v26.2.2.2.2.1.1.1.2.2.1,v26.2.2.2.2.1.1.1.2.2.2.1,v26.2.2.2.2.1.1.1.2.2.2.2.1,v26.2.2.2.2.1.1.1.2.2.2.2.2.1,()),()),(())),v26.2.2.2.2.2.1,(((v26.2.2.2.2.2.2.1.1.1.1,v26.2.2.2.2.2.2.1.1.1.2.1,v26.2.2.2.2.2.2.1.1.1.2.2.1,v26.2.2.2.2.2.2.1.1.1.2.2.2.1,v26.2.2.2.2.2.2.1.1.1.2.2.2.2.1,v26.2.2.2.2.2.2.1.1.1.2.2.2.2.2.1,()),()),(())),v26.2.2.2.2.2.2.2.1,(((v26.2.2.2.2.2.2.2.2.1.1.1.1,v26.2.2.2.2.2.2.2.2.1.1.1.2.1,v26.2.2.2.2.2.2.2.2.1.1.1.2.2.1,v26.2.2.2.2.2.2.2.2.1.1.1.2.2.2.1,v26.2.2.2.2.2.2.2.2.1.1.1.2.2.2.2.1,v26.2.2.2.2.2.2.2.2.1.1.1.2.2.2.2.2.1,()),()),(())),v26.2.2.2.2.2.2.2.2.2.1,(((v26.2.2.2.2.2.2.2.2.2.2.1.1.1.1,v26.2.2.2.2.2.2.2.2.2.2.1.1.1.2.1,v26.2.2.2.2.2.2.2.2.2.2.1.1.1.2.2.1,v26.2.2.2.2.2.2.2.2.2.2.1.1.1.2.2.2.1,v26.2.2.2.2.2.2.2.2.2.2.1.1.1.2.2.2.2.1,v26.2.2.2.2.2.2.2.2.2.2.1.1.1.2.2.2.2.2.1,()),()),(())),v26.2.2.2.2.2.2.2.2.2.2.2.1,()) (IntKind.wrap .i64 (v27 + (1 : Int))) ab0 ab1 ab2 ab3 ab4 ab5 bb0 bb1 bb2 bb3 bb4 bb5
  else
  bif v27 == (5 : Int) then
   (F.za4 n (v26.2.2.2.2.2.2.2.2.2.2.1.1.1.1,v26.2.2.2.2.2.2.2.2.2.2.1.1.1.2.1,v26.2.2.2.2.2.2.2.2.2.2.1.1.1.2.2.1,v26.2.2.2.2.2.2.2.2.2.2.1.1.1.2.2.2.1,v26.2.2.2.2.2.2.2.2.2.2.1.1.1.2.2.2.2.1,v26.2.2.2.2.2.2.2.2.2.2.1.1.1.2.2.2.2.2.1,())).bind fun y6 =>
    bif !y6 then
     kr v26.2.2.2.2.2.2.2.2.2.2.2.1 ab0 ab1 ab2 ab3 ab4 ab5 bb0 bb1 bb2 bb3 bb4 bb5
    else
     rec ((((v26.1.1.1.1,v26.1.1.1.2.1,v26.1.1.1.2.2.1,v26.1.1.1.2.2.2.1,v26.1.1.1.2.2.2.2.1,v26.1.1.1.2.2.2.2.2.1,()),()),(())),v26.2.1,(((v26.2.2.1.1.1.1,v26.2.2.1.1.1.2.1,v26.2.2.1.1.1.2.2.1,v26.2.2.1.1.1.2.2.2.1,v26.2.2.1.1.1.2.2.2.2.1,v26.2.2.1.1.1.2.2.2.2.2.1,()),()),(())),v26.2.2.2.1,(((v26.2.2.2.2.1.1.1.1,v26.2.2.2.2.1.1.1.2.1,v26.2.2.2.2.1.1.1.2.2.1,v26.2.2.2.2.1.1.1.2.2.2.1,v26.2.2.2.2.1.1.1.2.2.2.2.1,v26.2.2.2.2.1.1.1.2.2.2.2.2.1,()),()),(())),v26.2.2.2.2.2.1,(((v26.2.2.2.2.2.2.1.1.1.1,v26.2.2.2.2.2.2.1.1.1.2.1,v26.2.2.2.2.2.2.1.1.1.2.2.1,v26.2.2.2.2.2.2.1.1.1.2.2.2.1,v26.2.2.2.2.2.2.1.1.1.2.2.2.2.1,v26.2.2.2.2.2.2.1.1.1.2.2.2.2.2.1,()),()),(())),v26.2.2.2.2.2.2.2.1,(((v26.2.2.2.2.2.2.2.2.1.1.1.1,v26.2.2.2.2.2.2.2.2.1.1.1.2.1,v26.2.2.2.2.2.2.2.2.1.1.1.2.2.1,v26.2.2.2.2.2.2.2.2.1.1.1.2.2.2.1,v26.2.2.2.2.2.2.2.2.1.1.1.2.2.2.2.1,v26.2.2.2.2.2.2.2.2.1.1.1.2.2.2.2.2.1,()),()),(())),v26.2.2.2.2.2.2.2.2.2.1,(((v26.2.2.2.2.2.2.2.2.2.2.1.1.1.1,v26.2.2.2.2.2.2.2.2.2.2.1.1.1.2.1,v26.2.2.2.2.2.2.2.2.2.2.1.1.1.2.2.1,v26.2.2.2.2.2.2.2.2.2.2.1.1.1.2.2.2.1,v26.2.2.2.2.2.2.2.2.2.2.1.1.1.2.2.2.2.1,v26.2.2.2.2.2.2.2.2.2.2.1.1.1.2.2.2.2.2.1,()),()),(())),v26.2.2.2.2.2.2.2.2.2.2.2.1,()) (IntKind.wrap .i64 (v27 + (1 : Int))) ab0 ab1 ab2 ab3 ab4 ab5 bb0 bb1 bb2 bb3 bb4 bb5
  else
   none
 else
  k0 ab0 ab1 ab2 ab3 ab4 ab5 bb0 bb1 bb2 bb3 bb4 bb5
noncomputable def F.zo.L3 {X : Type} (n : Nat) (k0 : Z0→Int→Z2→Int→Z4→Int→Z0→Int→Z2→Int→Z4→Int→Option X) (kr : Int→Z0→Int→Z2→Int→Z4→Int→Z0→Int→Z2→Int→Z4→Int→Option X) : Nat→Z15→Int→Z0→Int→Z2→Int→Z4→Int→Z0→Int→Z2→Int→Z4→Int→Option X
 | 0 => fun _ _ _ _ _ _ _ _ _ _ _ _ _ _ => none
 | m + 1 => fun v26 v27 ab0 ab1 ab2 ab3 ab4 ab5 bb0 bb1 bb2 bb3 bb4 bb5 => F.zo.L3.step n (F.zo.L3 n k0 kr m) k0 kr v26 v27 ab0 ab1 ab2 ab3 ab4 ab5 bb0 bb1 bb2 bb3 bb4 bb5
noncomputable def F.zo (n : Nat) (a0 : Z7) : Option (Int):=
 F.zo.L3 n
  (fun g0 g1 g2 g3 g4 g5 h0 h1 h2 h3 h4 h5 =>
   some ((0 : Int)))
  (fun e2 g0 g1 g2 g3 g4 g5 h0 h1 h2 h3 h4 h5 =>
   some (e2)) n ((((a0.1,a0.2.1,a0.2.2.1,a0.2.2.2.1,a0.2.2.2.2.1,a0.2.2.2.2.2.1,()),()),(())),(15 : Int),(((a0.1,a0.2.1,a0.2.2.1,a0.2.2.2.1,a0.2.2.2.2.1,a0.2.2.2.2.2.1,()),()),(())),(16 : Int),(((a0.1,a0.2.1,a0.2.2.1,a0.2.2.2.1,a0.2.2.2.2.1,a0.2.2.2.2.2.1,()),()),(())),(17 : Int),(((a0.1,a0.2.1,a0.2.2.1,a0.2.2.2.1,a0.2.2.2.2.1,a0.2.2.2.2.2.1,()),()),(())),(18 : Int),(((a0.1,a0.2.1,a0.2.2.1,a0.2.2.2.1,a0.2.2.2.2.1,a0.2.2.2.2.2.1,()),()),(())),(19 : Int),(((a0.1,a0.2.1,a0.2.2.1,a0.2.2.2.1,a0.2.2.2.2.1,a0.2.2.2.2.2.1,()),()),(())),(20 : Int),()) (0 : Int) a0.1 a0.2.1 a0.2.2.1 a0.2.2.2.1 a0.2.2.2.2.1 a0.2.2.2.2.2.1 a0.1 a0.2.1 a0.2.2.1 a0.2.2.2.1 a0.2.2.2.2.1 a0.2.2.2.2.2.1
noncomputable def F.zt (n : Nat) (a0 : Z4) : Option (Z4):=
 bif (a0.length : Int) == (a0.length : Int) then
  (sub a0 (0 : Int) (a0.length : Int)).bind fun x1 =>
   some (x1)
 else
  none
noncomputable def F.zu.L5.step {X : Type} (n : Nat) (rec : Z12→Int→Z12→Int→Int→Z19→Z19→Z19→Option X) (k0 : Z12→Int→Z19→Z19→Z19→Option X) (v3 : Z12) (v4 : Int) (v11 : Z12) (v12 : Int) (v13 : Int) (ab0 : Z19) (bb0 : Z19) (cb0 : Z19) : Option X:=
 bif decide (v13 < v12) then
  bif decide (0 ≤ v13) && decide (v13 < ((v11.2 : Nat) : Int)) then
   bif Nat.beq v11.1 cb0.1 then
    (idx cb0.2 v13).bind fun x1 =>
     bif v13 == (0 : Int) then
      bif decide (0 ≤ v4) && decide (v4 < ((v3.2 : Nat) : Int)) then
       bif Nat.beq v3.1 cb0.1 then
        (idx cb0.2 v4).bind fun x2 =>
         rec (v3.1,v3.2) (IntKind.wrap .i64 (v4 + (1 : Int))) (v11.1,v11.2) v12 (IntKind.wrap .i64 (v13 + (1 : Int))) (ab0.1,ab0.2) (bb0.1,bb0.2) (v3.1,upd cb0.2 (Int.toNat v4) (x1.1,x1.2))
       else
        none
      else
       none
     else
     bif decide (0 ≤ (IntKind.wrap .i64 (v4 - (1 : Int)))) && decide ((IntKind.wrap .i64 (v4 - (1 : Int))) < ((v3.2 : Nat) : Int)) then
      bif Nat.beq v3.1 cb0.1 then
       (idx cb0.2 (IntKind.wrap .i64 (v4 - (1 : Int)))).bind fun x3 =>
        bif !((x1.1 == x3.1) && (x1.2 == x3.2)) then
         bif decide (0 ≤ v4) && decide (v4 < ((v3.2 : Nat) : Int)) then
          bif Nat.beq v3.1 cb0.1 then
           (idx cb0.2 v4).bind fun x4 =>
            rec (v3.1,v3.2) (IntKind.wrap .i64 (v4 + (1 : Int))) (v11.1,v11.2) v12 (IntKind.wrap .i64 (v13 + (1 : Int))) (ab0.1,ab0.2) (bb0.1,bb0.2) (v3.1,upd cb0.2 (Int.toNat v4) (x1.1,x1.2))
          else
           none
         else
          none
        else
         rec (v3.1,v3.2) v4 (v11.1,v11.2) v12 (IntKind.wrap .i64 (v13 + (1 : Int))) (ab0.1,ab0.2) (bb0.1,bb0.2) (cb0.1,cb0.2)
      else
       none
     else
      none
   else
    none
  else
   none
 else
  k0 (v3.1,v3.2) v4 (ab0.1,ab0.2) (bb0.1,bb0.2) (cb0.1,cb0.2)
noncomputable def F.zu.L5 {X : Type} (n : Nat) (k0 : Z12→Int→Z19→Z19→Z19→Option X) : Nat→Z12→Int→Z12→Int→Int→Z19→Z19→Z19→Option X
 | 0 => fun _ _ _ _ _ _ _ _ => none
 | m + 1 => fun v3 v4 v11 v12 v13 ab0 bb0 cb0 => F.zu.L5.step n (F.zu.L5 n k0 m) k0 v3 v4 v11 v12 v13 ab0 bb0 cb0
noncomputable def F.zu (n : Nat) (a0 : Z4) : Option (Z4):=
 bif List.isEmpty a0 then
  both
   (
    bif Nat.beq (sortTags []).length 0 && Nat.blt 0 strMax then
     F.zu.L5 n
      (fun e3 e4 g0 h0 i0 =>
       bif Nat.beq e3.1 i0.1 then
        (sub i0.2 (0 : Int) e4).bind fun x6 =>
         (F.zt n x6).bind fun y7 =>
          some (y7)
       else
        none) n (1,0) (0 : Int) (1,0) (0 : Int) (0 : Int) (1,[]) (1,[]) (1,sortTags [])
    else
     none)
   (
    bif decide ((0 + a0.length) * 32 ≤ 2 ^ 46) && decide (0 < 32 ∧ 32 ≤ 2 ^ 20) then
     bif Nat.beq (sortTags ([] ++ a0)).length (([] ++ a0).length) && Nat.blt (([] ++ a0).length) strMax then
      F.zu.L5 n
       (fun e3 e4 g0 h0 i0 =>
        bif Nat.beq e3.1 i0.1 then
         (sub i0.2 (0 : Int) e4).bind fun x9 =>
          (F.zt n x9).bind fun y10 =>
           some (y10)
        else
         none) n (2,([] ++ a0).length) (0 : Int) (2,([] ++ a0).length) ((([] ++ a0).length : Nat) : Int) (0 : Int) (1,[]) (1,[]) (2,sortTags ([] ++ a0))
     else
      none
    else
     none)
 else
 bif decide ((0 + a0.length) * 32 ≤ 2 ^ 46) && decide (0 < 32 ∧ 32 ≤ 2 ^ 20) then
  bif Nat.beq (sortTags ([] ++ a0)).length (([] ++ a0).length) && Nat.blt (([] ++ a0).length) strMax then
   F.zu.L5 n
    (fun e3 e4 g0 h0 i0 =>
     bif Nat.beq e3.1 i0.1 then
      (sub i0.2 (0 : Int) e4).bind fun x12 =>
       (F.zt n x12).bind fun y13 =>
        some (y13)
     else
      none) n (2,([] ++ a0).length) (0 : Int) (2,([] ++ a0).length) ((([] ++ a0).length : Nat) : Int) (0 : Int) (1,[]) (1,[]) (2,sortTags ([] ++ a0))
  else
   none
 else
  none
noncomputable def F.zl.L3.step {X : Type} (n : Nat) (rec : Z12→Z12→Int→Int→Z0→Int→Z2→Int→Z4→Int→Z0→Int→Z2→Int→Z4→Int→Z13→Z13→Nat→Nat→Option X) (k0 : Z12→Z0→Int→Z2→Int→Z4→Int→Z0→Int→Z2→Int→Z4→Int→Z13→Z13→Nat→Nat→Option X) (v4 : Z12) (v13 : Z12) (v14 : Int) (v15 : Int) (ab0 : Z0) (ab1 : Int) (ab2 : Z2) (ab3 : Int) (ab4 : Z4) (ab5 : Int) (bb0 : Z0) (bb1 : Int) (bb2 : Z2) (bb3 : Int) (bb4 : Z4) (bb5 : Int) (cb0 : Z13) (db0 : Z13) (vk0 : Nat) (vk1 : Nat) : Option X:=
 bif decide (v15 < v14) then
  bif decide (0 ≤ v15) && decide (v15 < ((v13.2 : Nat) : Int)) then
   bif Nat.beq v13.1 db0.1 then
    (idx db0.2 v15).bind fun x1 =>
     (F.zg n (x1.1,x1.2.1,x1.2.2,())).bind fun y2 =>
      bif y2.2.1 == (0 : Int) then
       bif decide (0 ≤ v15) && decide (v15 < ((v4.2 : Nat) : Int)) then
        bif Nat.beq v4.1 db0.1 then
         (idx db0.2 v15).bind fun x3 =>
          rec (v4.1,v4.2) (v13.1,v13.2) v14 (IntKind.wrap .i64 (v15 + (1 : Int))) ab0 ab1 ab2 ab3 ab4 ab5 bb0 bb1 bb2 bb3 bb4 bb5 (cb0.1,cb0.2) (v4.1,upd db0.2 (Int.toNat v15) (y2.1.1,y2.1.2.1,y2.1.2.2.1)) vk0 vk1
        else
         none
       else
        none
      else
       rec (v4.1,v4.2) (v13.1,v13.2) v14 (IntKind.wrap .i64 (v15 + (1 : Int))) ab0 ab1 ab2 ab3 ab4 ab5 bb0 bb1 bb2 bb3 bb4 bb5 (cb0.1,cb0.2) (db0.1,db0.2) vk0 vk1
   else
    none
  else
   none
 else
  k0 (v4.1,v4.2) ab0 ab1 ab2 ab3 ab4 ab5 bb0 bb1 bb2 bb3 bb4 bb5 (cb0.1,cb0.2) (db0.1,db0.2) vk0 vk1
noncomputable def F.zl.L3 {X : Type} (n : Nat) (k0 : Z12→Z0→Int→Z2→Int→Z4→Int→Z0→Int→Z2→Int→Z4→Int→Z13→Z13→Nat→Nat→Option X) : Nat→Z12→Z12→Int→Int→Z0→Int→Z2→Int→Z4→Int→Z0→Int→Z2→Int→Z4→Int→Z13→Z13→Nat→Nat→Option X
 | 0 => fun _ _ _ _ _ _ _ _ _ _ _ _ _ _ _ _ _ _ _ _ => none
 | m + 1 => fun v4 v13 v14 v15 ab0 ab1 ab2 ab3 ab4 ab5 bb0 bb1 bb2 bb3 bb4 bb5 cb0 db0 vk0 vk1 => F.zl.L3.step n (F.zl.L3 n k0 m) k0 v4 v13 v14 v15 ab0 ab1 ab2 ab3 ab4 ab5 bb0 bb1 bb2 bb3 bb4 bb5 cb0 db0 vk0 vk1
noncomputable def F.zl (n : Nat) (a0 : Z7) : Option ((Z7) × (Int) × Unit):=
 bif List.isEmpty a0.2.2.1 then
  both
   (
    F.zl.L3 n
     (fun e4 g0 g1 g2 g3 g4 g5 h0 h1 h2 h3 h4 h5 i0 j0 ek0 ek1 =>
      bif Nat.beq e4.1 j0.1 then
       (F.zo n (g0,g1,j0.2,g3,g4,g5,())).bind fun y5 =>
        bif !(y5 == (0 : Int)) then
         some ((([],(0 : Int),[],(0 : Int),[],(0 : Int),()),y5,()))
        else
         (F.zu n g4).bind fun y6 =>
          some (((g0,g1,j0.2,g3,y6,g5,()),(0 : Int),()))
      else
       none) n (1,0) (1,0) (0 : Int) (0 : Int) a0.1 a0.2.1 a0.2.2.1 a0.2.2.2.1 a0.2.2.2.2.1 a0.2.2.2.2.2.1 [] (0 : Int) [] (0 : Int) [] (0 : Int) (1,[]) (1,[]) 0 0)
   (
    bif decide ((0 + a0.2.2.1.length) * 24 ≤ 2 ^ 46) && decide (0 < 24 ∧ 24 ≤ 2 ^ 20) then
     F.zl.L3 n
      (fun e4 g0 g1 g2 g3 g4 g5 h0 h1 h2 h3 h4 h5 i0 j0 ek0 ek1 =>
       bif Nat.beq e4.1 j0.1 then
        (F.zo n (g0,g1,j0.2,g3,g4,g5,())).bind fun y8 =>
         bif !(y8 == (0 : Int)) then
          some ((([],(0 : Int),[],(0 : Int),[],(0 : Int),()),y8,()))
         else
          (F.zu n g4).bind fun y9 =>
           some (((g0,g1,j0.2,g3,y9,g5,()),(0 : Int),()))
       else
        none) n (2,([] ++ a0.2.2.1).length) (2,([] ++ a0.2.2.1).length) ((([] ++ a0.2.2.1).length : Nat) : Int) (0 : Int) a0.1 a0.2.1 a0.2.2.1 a0.2.2.2.1 a0.2.2.2.2.1 a0.2.2.2.2.2.1 [] (0 : Int) [] (0 : Int) [] (0 : Int) (1,[]) (2,[] ++ a0.2.2.1) 0 0
    else
     none)
 else
 bif decide ((0 + a0.2.2.1.length) * 24 ≤ 2 ^ 46) && decide (0 < 24 ∧ 24 ≤ 2 ^ 20) then
  F.zl.L3 n
   (fun e4 g0 g1 g2 g3 g4 g5 h0 h1 h2 h3 h4 h5 i0 j0 ek0 ek1 =>
    bif Nat.beq e4.1 j0.1 then
     (F.zo n (g0,g1,j0.2,g3,g4,g5,())).bind fun y11 =>
      bif !(y11 == (0 : Int)) then
       some ((([],(0 : Int),[],(0 : Int),[],(0 : Int),()),y11,()))
      else
       (F.zu n g4).bind fun y12 =>
        some (((g0,g1,j0.2,g3,y12,g5,()),(0 : Int),()))
    else
     none) n (2,([] ++ a0.2.2.1).length) (2,([] ++ a0.2.2.1).length) ((([] ++ a0.2.2.1).length : Nat) : Int) (0 : Int) a0.1 a0.2.1 a0.2.2.1 a0.2.2.2.1 a0.2.2.2.2.1 a0.2.2.2.2.2.1 [] (0 : Int) [] (0 : Int) [] (0 : Int) (1,[]) (2,[] ++ a0.2.2.1) 0 0
 else
  none
noncomputable def F.zv.L1_batch_all_api_Metric_1.step {X : Type} (n : Nat) (rec : Z6→Int→Int→Z6→Int→Int→Z6→Z6→Nat→Nat→Option X) (k0 : Z6→Int→Int→Z6→Z6→Nat→Nat→Option X) (kr : Z6→Int→Int→Z6→Z6→Nat→Nat→Option X) (krx1 : Z6→Int→Int→Z6→Z6→Nat→Nat→Option X) (v8 : Z6) (v9 : Int) (v10 : Int) (ab0 : Z6) (bb0 : Int) (cb0 : Int) (db0 : Z6) (hb0 : Z6) (vk0 : Nat) (vk1 : Nat) : Option X:=
 bif decide (v10 < v9) then
  (idx v8 v10).bind fun x1 =>
   (F.zl n (x1.1,x1.2.1,x1.2.2.1,x1.2.2.2.1,x1.2.2.2.2.1,x1.2.2.2.2.2,())).bind fun y2 =>
    bif !(y2.2.1 == (0 : Int)) then
     kr [] (db0.length : Int) y2.2.1 db0 hb0 0 vk1
    else
    bif decide ((db0.length + 1) * 88 ≤ 2 ^ 46) && decide (0 < 88 ∧ 88 ≤ 2 ^ 20) then
     bif Nat.beq vk1 db0.length then
      bif !(y2.2.1 == (0 : Int)) then
       krx1 ab0 bb0 cb0 (db0 ++ ([(y2.1.1,y2.1.2.1,y2.1.2.2.1,y2.1.2.2.2.1,y2.1.2.2.2.2.1,y2.1.2.2.2.2.2.1)])) hb0 vk0 ((db0 ++ ([(y2.1.1,y2.1.2.1,y2.1.2.2.1,y2.1.2.2.2.1,y2.1.2.2.2.2.1,y2.1.2.2.2.2.2.1)])).length)
      else
       rec v8 v9 (IntKind.wrap .i64 (v10 + (1 : Int))) ab0 bb0 cb0 (db0 ++ ([(y2.1.1,y2.1.2.1,y2.1.2.2.1,y2.1.2.2.2.1,y2.1.2.2.2.2.1,y2.1.2.2.2.2.2.1)])) hb0 vk0 ((db0 ++ ([(y2.1.1,y2.1.2.1,y2.1.2.2.1,y2.1.2.2.2.1,y2.1.2.2.2.2.1,y2.1.2.2.2.2.2.1)])).length)
     else
      none
    else
     none
 else
  k0 ab0 bb0 cb0 db0 hb0 vk0 vk1
noncomputable def F.zv.L1_batch_all_api_Metric_1 {X : Type} (n : Nat) (k0 : Z6→Int→Int→Z6→Z6→Nat→Nat→Option X) (kr : Z6→Int→Int→Z6→Z6→Nat→Nat→Option X) (krx1 : Z6→Int→Int→Z6→Z6→Nat→Nat→Option X) : Nat→Z6→Int→Int→Z6→Int→Int→Z6→Z6→Nat→Nat→Option X
 | 0 => fun _ _ _ _ _ _ _ _ _ _ => none
 | m + 1 => fun v8 v9 v10 ab0 bb0 cb0 db0 hb0 vk0 vk1 => F.zv.L1_batch_all_api_Metric_1.step n (F.zv.L1_batch_all_api_Metric_1 n k0 kr krx1 m) k0 kr krx1 v8 v9 v10 ab0 bb0 cb0 db0 hb0 vk0 vk1
noncomputable def F.zv (n : Nat) (a0 : Z6) : Option ((Z6) × (Int) × (Int) × Unit):=
 bif decide ((a0.length : Int) > (1000 : Int)) then
  some (([],(1000 : Int),(12 : Int),()))
 else
  F.zv.L1_batch_all_api_Metric_1 n
   (fun g0 h0 i0 j0 l0 ek0 ek1 =>
    some ((j0,(0 : Int),(0 : Int),())))
   (fun g0 h0 i0 j0 l0 ek0 ek1 =>
    some ((g0,h0,i0,())))
   (fun g0 h0 i0 j0 l0 ek0 ek1 =>
    some ((j0,(0 : Int),(0 : Int),()))) n a0 (a0.length : Int) (0 : Int) [] (0 : Int) (0 : Int) [] a0 0 0
noncomputable def F.zh.L2.step {X : Type} (n : Nat) (rec : Int→Z8→Nat→Option X) (k0 : Int→Z8→Nat→Option X) (v0 : Int) (v3 : Z8) (vk0 : Nat) : Option X:=
 bif decide (v0 ≥ (128 : Int)) then
  bif decide ((v3.length + 1) * 1 ≤ 2 ^ 46) && decide (0 < 1 ∧ 1 ≤ 2 ^ 20) then
   bif Nat.beq vk0 v3.length then
    rec (shrA .u64 v0 (7 : Int)) (v3 ++ ([UInt8.ofNat ((bitsA .or .u8 (IntKind.wrap .u8 (v0)) (128 : Int))).toNat])) ((v3 ++ ([UInt8.ofNat ((bitsA .or .u8 (IntKind.wrap .u8 (v0)) (128 : Int))).toNat])).length)
   else
    none
  else
   none
 else
  k0 v0 v3 vk0
noncomputable def F.zh.L2 {X : Type} (n : Nat) (k0 : Int→Z8→Nat→Option X) : Nat→Int→Z8→Nat→Option X
 | 0 => fun _ _ _ => none
 | m + 1 => fun v0 v3 vk0 => F.zh.L2.step n (F.zh.L2 n k0 m) k0 v0 v3 vk0
noncomputable def F.zh (n : Nat) (a0 : Int) : Option (Z8):=
 bif decide ((0 : Int) = 0) && (decide ((0 : Int) ≤ (10 : Int)) && decide ((1 : Int) * (10 : Int) ≤ 281474976710656) && decide ((10 : Int) ≤ 281474976710656)) && true then
  F.zh.L2 n
   (fun e0 e3 ek0 =>
    bif decide ((e3.length + 1) * 1 ≤ 2 ^ 46) && decide (0 < 1 ∧ 1 ≤ 2 ^ 20) then
     bif Nat.beq ek0 e3.length then
      ((bif Nat.beq ((e3 ++ ([UInt8.ofNat ((IntKind.wrap .u8 (e0))).toNat])).length) ((e3 ++ ([UInt8.ofNat ((IntKind.wrap .u8 (e0))).toNat])).length) then some (e3 ++ ([UInt8.ofNat ((IntKind.wrap .u8 (e0))).toNat]),([none] : List (Option Nat))) else none).bind fun x => some x.1)
     else
      none
    else
     none) n a0 [] 0
 else
  none
noncomputable def F.zcm (n : Nat) (a0 : Int) : Option (Z8):=
 some ([UInt8.ofNat ((IntKind.wrap .u8 (shrA .u32 a0 (24 : Int)))).toNat,UInt8.ofNat ((IntKind.wrap .u8 (shrA .u32 a0 (16 : Int)))).toNat,UInt8.ofNat ((IntKind.wrap .u8 (shrA .u32 a0 (8 : Int)))).toNat,UInt8.ofNat ((IntKind.wrap .u8 (a0))).toNat])
noncomputable def F.zax.L2.step {X : Type} (n : Nat) (rec : Int→Int→Option X) (k0 : Int→Option X) (v0 : Int) (v3 : Int) : Option X:=
 bif decide (v3 < (8 : Int)) then
  rec (bitsA .xor .u32 (shrA .u32 v0 (1 : Int)) (IntKind.wrap .u32 ((bitsA .and .u32 v0 (1 : Int)) * (3988292384 : Int)))) (IntKind.wrap .i64 (v3 + (1 : Int)))
 else
  k0 v0
noncomputable def F.zax.L2 {X : Type} (n : Nat) (k0 : Int→Option X) : Nat→Int→Int→Option X
 | 0 => fun _ _ => none
 | m + 1 => fun v0 v3 => F.zax.L2.step n (F.zax.L2 n k0 m) k0 v0 v3
noncomputable def F.zax (n : Nat) (a0 : Int) : Option (Int):=
 F.zax.L2 n
  (fun e0 =>
   some (e0)) n a0 (0 : Int)
noncomputable def F.zaq.L3.step {X : Type} (n : Nat) (rec : Int→Z8→Int→Int→Option X) (k0 : Int→Option X) (v5 : Int) (v11 : Z8) (v12 : Int) (v13 : Int) : Option X:=
 bif decide (v13 < v12) then
  (idx v11 v13).bind fun x1 =>
   (F.zax n (bitsA .xor .u32 v5 (IntKind.wrap .u32 ((x1).toNat)))).bind fun y2 =>
    rec y2 v11 v12 (IntKind.wrap .i64 (v13 + (1 : Int)))
 else
  k0 v5
noncomputable def F.zaq.L3 {X : Type} (n : Nat) (k0 : Int→Option X) : Nat→Int→Z8→Int→Int→Option X
 | 0 => fun _ _ _ _ => none
 | m + 1 => fun v5 v11 v12 v13 => F.zaq.L3.step n (F.zaq.L3 n k0 m) k0 v5 v11 v12 v13
noncomputable def F.zaq (n : Nat) (a0 : Int) (a1 : Z8) : Option (Int):=
 F.zaq.L3 n
  (fun e5 =>
   some ((bitsA .xor .u32 e5 (4294967295 : Int)))) n (bitsA .xor .u32 a0 (4294967295 : Int)) a1 (a1.length : Int) (0 : Int)
noncomputable def F.zcn (n : Nat) (a0 : Z8) : Option (Int):=
 (F.zaq n (0 : Int) a0).bind fun y1 =>
  some (y1)
noncomputable def F.zck (n : Nat) (a0 : Z18) (a1 : Z18) : Option (Bool):=
 bif !(a0.1 == a1.1) then
  some (Op.bytesLess a0.1 a1.1)
 else
  some (Op.bytesLess a0.2.1 a1.2.1)
noncomputable def F.za7.L2.step {X : Type} (n : Nat) (rec : Z4→Int→Option X) (k0 : Unit→Option X) (kr : Bool→Option X) (v0 : Z4) (v3 : Int) : Option X:=
 bif decide (v3 < (v0.length : Int)) then
  (idx v0 (IntKind.wrap .i64 (v3 - (1 : Int)))).bind fun x1 =>
   (idx v0 v3).bind fun x2 =>
    (F.zck n (x1.1,x1.2,()) (x2.1,x2.2,())).bind fun y3 =>
     bif !y3 then
      kr false
     else
      rec v0 (IntKind.wrap .i64 (v3 + (1 : Int)))
 else
  k0 ()
noncomputable def F.za7.L2 {X : Type} (n : Nat) (k0 : Unit→Option X) (kr : Bool→Option X) : Nat→Z4→Int→Option X
 | 0 => fun _ _ => none
 | m + 1 => fun v0 v3 => F.za7.L2.step n (F.za7.L2 n k0 kr m) k0 kr v0 v3
noncomputable def F.za7 (n : Nat) (a0 : Z4) : Option (Bool):=
 F.za7.L2 n
  (fun (_ : Unit) =>
   some (true))
  (fun e2 =>
   some (e2)) n a0 (1 : Int)
noncomputable def F.zb2 (n : Nat) (a0 : Z7) : Option (Bool):=
 (F.zo n (a0.1,a0.2.1,a0.2.2.1,a0.2.2.2.1,a0.2.2.2.2.1,a0.2.2.2.2.2.1,())).bind fun y1 =>
  bif y1 == (0 : Int) then
   (F.za7 n a0.2.2.2.2.1).bind fun y2 =>
    some (y2)
  else
   some (false)
noncomputable def F.zb7 (n : Nat) (a0 : Int) : Option (Int):=
 bif decide (a0 < (0 : Int)) then
  some ((bitsA .or .u64 (shlA .u64 (bitsA .xor .u64 (IntKind.max .u64) (IntKind.wrap .u64 (a0))) (1 : Int)) (1 : Int)))
 else
  some ((shlA .u64 (IntKind.wrap .u64 (a0)) (1 : Int)))
noncomputable def F.zb8 (n : Nat) (a0 : Z17) : Option ((Z8) × (Int) × Unit):=
 (F.zbe n (a0.1,a0.2.1,a0.2.2.1,())).bind fun y1 =>
  bif !(y1 == (0 : Int)) then
   some (([],y1,()))
  else
   (F.zb7 n a0.2.2.1).bind fun y2 =>
    bif a0.1 then
     (F.zh n (bitsA .or .u64 (shlA .u64 y2 (1 : Int)) (1 : Int))).bind fun y3 =>
      (F.zh n a0.2.1).bind fun y4 =>
       bif decide ((y3.length + y4.length) * 1 ≤ 2 ^ 46) && decide (0 < 1 ∧ 1 ≤ 2 ^ 20) then
        bif Nat.beq y3.length y3.length then
         (((bif Nat.beq ((y3 ++ y4).length) ((y3 ++ y4).length) then some (y3 ++ y4,([none,some y4.length] : List (Option Nat))) else none).bind fun x => some ((x.1,(0 : Int),()),x.2)).bind fun z => some z.1)
        else
         none
       else
        none
    else
     (F.zh n (shlA .u64 y2 (1 : Int))).bind fun y5 =>
      (F.zh n a0.2.1).bind fun y6 =>
       bif decide ((y5.length + y6.length) * 1 ≤ 2 ^ 46) && decide (0 < 1 ∧ 1 ≤ 2 ^ 20) then
        bif Nat.beq y5.length y5.length then
         (((bif Nat.beq ((y5 ++ y6).length) ((y5 ++ y6).length) then some (y5 ++ y6,([none,some y6.length] : List (Option Nat))) else none).bind fun x => some ((x.1,(0 : Int),()),x.2)).bind fun z => some z.1)
        else
         none
       else
        none
noncomputable def F.zb.C10 {X : Type} (n : Nat) (kr : Z8→Int→Int→Z11→Z10→Nat→Nat→Option X) (kn : Z6→Z8→Z6→Int→Int→Z11→Z10→Nat→Nat→Option X) (c0 : Z6) (c9 : Z8) (c10 : Int) (c12 : Z8) (c13 : Int) (c30 : Z6) (c31 : Int) (c32 : Int) (ab0 : Z11) (bb0 : Z10) (ck0 : Nat) (ck1 : Nat) (ck2 : Nat) : Option X:=
 bif !(c13 == (0 : Int)) then
  kr [] c10 c13 ab0 bb0 0 ck2
 else
 bif decide ((c9.length + c12.length) * 1 ≤ 2 ^ 46) && decide (0 < 1 ∧ 1 ≤ 2 ^ 20) then
  bif Nat.beq ck0 c9.length then
   kn c0 (c9 ++ c12) c30 c31 c32 ab0 bb0 ((c9 ++ c12).length) ck2
  else
   none
 else
  none
noncomputable def F.zb.L18_rec_Put.step {X : Type} (n : Nat) (rec : Z2→Int→Int→Z11→Z10→Z0→Int→Z2→Int→Z4→Int→Z0→Int→Z2→Int→Z4→Int→Z8→Int→Nat→Nat→Nat→Option X) (k1 : Z11→Z10→Z0→Int→Z2→Int→Z4→Int→Z0→Int→Z2→Int→Z4→Int→Z8→Int→Nat→Nat→Nat→Option X) (v53 : Z2) (v54 : Int) (v55 : Int) (ab0 : Z11) (bb0 : Z10) (cb0 : Z0) (cb1 : Int) (cb2 : Z2) (cb3 : Int) (cb4 : Z4) (cb5 : Int) (db0 : Z0) (db1 : Int) (db2 : Z2) (db3 : Int) (db4 : Z4) (db5 : Int) (hb0 : Z8) (ib0 : Int) (vk0 : Nat) (vk1 : Nat) (vk2 : Nat) : Option X:=
 bif decide (v55 < v54) then
  (idx v53 v55).bind fun x15 =>
   (F.zb8 n (x15.1,x15.2.1,x15.2.2,())).bind fun y16 =>
    bif ib0 == (0 : Int) then
     bif decide ((hb0.length + y16.1.length) * 1 ≤ 2 ^ 46) && decide (0 < 1 ∧ 1 ≤ 2 ^ 20) then
      bif Nat.beq vk2 hb0.length then
       rec v53 v54 (IntKind.wrap .i64 (v55 + (1 : Int))) ab0 bb0 cb0 cb1 cb2 cb3 cb4 cb5 db0 db1 db2 db3 db4 db5 (hb0 ++ y16.1) y16.2.1 vk0 vk1 ((hb0 ++ y16.1).length)
      else
       none
     else
      none
    else
    bif decide ((hb0.length + y16.1.length) * 1 ≤ 2 ^ 46) && decide (0 < 1 ∧ 1 ≤ 2 ^ 20) then
     bif Nat.beq vk2 hb0.length then
      rec v53 v54 (IntKind.wrap .i64 (v55 + (1 : Int))) ab0 bb0 cb0 cb1 cb2 cb3 cb4 cb5 db0 db1 db2 db3 db4 db5 (hb0 ++ y16.1) ib0 vk0 vk1 ((hb0 ++ y16.1).length)
     else
      none
    else
     none
 else
  k1 ab0 bb0 cb0 cb1 cb2 cb3 cb4 cb5 db0 db1 db2 db3 db4 db5 hb0 ib0 vk0 vk1 vk2
noncomputable def F.zb.L18_rec_Put {X : Type} (n : Nat) (k1 : Z11→Z10→Z0→Int→Z2→Int→Z4→Int→Z0→Int→Z2→Int→Z4→Int→Z8→Int→Nat→Nat→Nat→Option X) : Nat→Z2→Int→Int→Z11→Z10→Z0→Int→Z2→Int→Z4→Int→Z0→Int→Z2→Int→Z4→Int→Z8→Int→Nat→Nat→Nat→Option X
 | 0 => fun _ _ _ _ _ _ _ _ _ _ _ _ _ _ _ _ _ _ _ _ _ _ => none
 | m + 1 => fun v53 v54 v55 ab0 bb0 cb0 cb1 cb2 cb3 cb4 cb5 db0 db1 db2 db3 db4 db5 hb0 ib0 vk0 vk1 vk2 => F.zb.L18_rec_Put.step n (F.zb.L18_rec_Put n k1 m) k1 v53 v54 v55 ab0 bb0 cb0 cb1 cb2 cb3 cb4 cb5 db0 db1 db2 db3 db4 db5 hb0 ib0 vk0 vk1 vk2
noncomputable def F.zb.C28_rec_Put {X : Type} (n : Nat) (kn : Z4→Int→Int→Z11→Z10→Z0→Int→Z2→Int→Z4→Int→Z0→Int→Z2→Int→Z4→Int→Z8→Int→Nat→Nat→Nat→Option X) (c76 : Z4) (c77 : Int) (c78 : Int) (ab0 : Z11) (bb0 : Z10) (cb0 : Z0) (cb1 : Int) (cb2 : Z2) (cb3 : Int) (cb4 : Z4) (cb5 : Int) (db0 : Z0) (db1 : Int) (db2 : Z2) (db3 : Int) (db4 : Z4) (db5 : Int) (hb0 : Z8) (ib0 : Int) (lb0 : Z0) (lb1 : Z0) (ck0 : Nat) (ck1 : Nat) (ck2 : Nat) : Option X:=
 mpLook ab0 lb1 (fun x27 =>
   (F.zh n (IntKind.wrap .u64 (x27))).bind fun y28 =>
    eqK (some [(.fn 51 [] [(.ref 5 0),(.ref 4 0)])]) (some [(.fn 51 [] [(.ref 5 0),(.ref 4 0)])]) (
     bif ib0 == (0 : Int) then
      bif decide ((hb0.length + y28.length) * 1 ≤ 2 ^ 46) && decide (0 < 1 ∧ 1 ≤ 2 ^ 20) then
       bif Nat.beq ck2 hb0.length then
        kn c76 c77 c78 ab0 bb0 cb0 cb1 cb2 cb3 cb4 cb5 db0 db1 db2 db3 db4 db5 (hb0 ++ y28) (0 : Int) ck0 ck1 ((hb0 ++ y28).length)
       else
        none
      else
       none
     else
     bif decide ((hb0.length + y28.length) * 1 ≤ 2 ^ 46) && decide (0 < 1 ∧ 1 ≤ 2 ^ 20) then
      bif Nat.beq ck2 hb0.length then
       kn c76 c77 c78 ab0 bb0 cb0 cb1 cb2 cb3 cb4 cb5 db0 db1 db2 db3 db4 db5 (hb0 ++ y28) ib0 ck0 ck1 ((hb0 ++ y28).length)
      else
       none
     else
      none))
  (
   bif decide ((lb1.length : Int) > (200 : Int)) then
    eqK (some [(.fn 51 [] [(.ref 5 0),(.ref 4 0)])]) (some [(.fn 51 [] [(.ref 5 0),(.ref 4 0)])]) (
     bif ib0 == (0 : Int) then
      bif decide ((hb0.length + 0) * 1 ≤ 2 ^ 46) && decide (0 < 1 ∧ 1 ≤ 2 ^ 20) then
       bif Nat.beq ck2 hb0.length then
        kn c76 c77 c78 ab0 bb0 cb0 cb1 cb2 cb3 cb4 cb5 db0 db1 db2 db3 db4 db5 (hb0 ++ []) (12 : Int) ck0 ck1 ((hb0 ++ []).length)
       else
        none
      else
       none
     else
     bif decide ((hb0.length + 0) * 1 ≤ 2 ^ 46) && decide (0 < 1 ∧ 1 ≤ 2 ^ 20) then
      bif Nat.beq ck2 hb0.length then
       kn c76 c77 c78 ab0 bb0 cb0 cb1 cb2 cb3 cb4 cb5 db0 db1 db2 db3 db4 db5 (hb0 ++ []) ib0 ck0 ck1 ((hb0 ++ []).length)
      else
       none
     else
      none)
   else
   bif decide ((bb0.length : Int) ≥ (65536 : Int)) then
    eqK (some [(.fn 51 [] [(.ref 5 0),(.ref 4 0)])]) (some [(.fn 51 [] [(.ref 5 0),(.ref 4 0)])]) (
     bif ib0 == (0 : Int) then
      bif decide ((hb0.length + 0) * 1 ≤ 2 ^ 46) && decide (0 < 1 ∧ 1 ≤ 2 ^ 20) then
       bif Nat.beq ck2 hb0.length then
        kn c76 c77 c78 ab0 bb0 cb0 cb1 cb2 cb3 cb4 cb5 db0 db1 db2 db3 db4 db5 (hb0 ++ []) (12 : Int) ck0 ck1 ((hb0 ++ []).length)
       else
        none
      else
       none
     else
     bif decide ((hb0.length + 0) * 1 ≤ 2 ^ 46) && decide (0 < 1 ∧ 1 ≤ 2 ^ 20) then
      bif Nat.beq ck2 hb0.length then
       kn c76 c77 c78 ab0 bb0 cb0 cb1 cb2 cb3 cb4 cb5 db0 db1 db2 db3 db4 db5 (hb0 ++ []) ib0 ck0 ck1 ((hb0 ++ []).length)
      else
       none
     else
      none)
   else
   bif decide ((bb0.length + 1) * 16 ≤ 2 ^ 46) && decide (0 < 16 ∧ 16 ≤ 2 ^ 20) then
    bif Nat.beq ck1 bb0.length then
     (F.zh n (0 : Int)).bind fun y29 =>
      (F.zh n (IntKind.wrap .u64 ((lb1.length : Int)))).bind fun y30 =>
       bif decide ((y29.length + y30.length) * 1 ≤ 2 ^ 46) && decide (0 < 1 ∧ 1 ≤ 2 ^ 20) then
        bif Nat.beq y29.length y29.length then
         bif decide ((((y29 ++ y30).length) + lb1.length) * 1 ≤ 2 ^ 46) && decide (0 < 1 ∧ 1 ≤ 2 ^ 20) then
          bif Nat.beq ((y29 ++ y30).length) ((y29 ++ y30).length) then
           eqK (some [(.fn 51 [] [(.ref 5 0),(.ref 4 0)])]) (some [(.fn 51 [] [(.ref 5 0),(.ref 4 0)])]) (
            bif ib0 == (0 : Int) then
             bif decide ((hb0.length + (((y29 ++ y30) ++ lb1).length)) * 1 ≤ 2 ^ 46) && decide (0 < 1 ∧ 1 ≤ 2 ^ 20) then
              bif Nat.beq ck2 hb0.length then
               kn c76 c77 c78 (mpSet ab0 lb1 ((bb0 ++ ([lb1])).length : Int)) (bb0 ++ ([lb1])) cb0 cb1 cb2 cb3 cb4 cb5 db0 db1 db2 db3 db4 db5 (hb0 ++ ((y29 ++ y30) ++ lb1)) (0 : Int) ck0 ((bb0 ++ ([lb1])).length) ((hb0 ++ ((y29 ++ y30) ++ lb1)).length)
              else
               none
             else
              none
            else
            bif decide ((hb0.length + (((y29 ++ y30) ++ lb1).length)) * 1 ≤ 2 ^ 46) && decide (0 < 1 ∧ 1 ≤ 2 ^ 20) then
             bif Nat.beq ck2 hb0.length then
              kn c76 c77 c78 (mpSet ab0 lb1 ((bb0 ++ ([lb1])).length : Int)) (bb0 ++ ([lb1])) cb0 cb1 cb2 cb3 cb4 cb5 db0 db1 db2 db3 db4 db5 (hb0 ++ ((y29 ++ y30) ++ lb1)) ib0 ck0 ((bb0 ++ ([lb1])).length) ((hb0 ++ ((y29 ++ y30) ++ lb1)).length)
             else
              none
            else
             none)
          else
           none
         else
          none
        else
         none
       else
        none
    else
     none
   else
    none)
noncomputable def F.zb.L25_rec_Put.step {X : Type} (n : Nat) (rec : Z4→Int→Int→Z11→Z10→Z0→Int→Z2→Int→Z4→Int→Z0→Int→Z2→Int→Z4→Int→Z8→Int→Nat→Nat→Nat→Option X) (k3 : Z11→Z10→Z0→Int→Z2→Int→Z4→Int→Z0→Int→Z2→Int→Z4→Int→Z8→Int→Nat→Nat→Nat→Option X) (v76 : Z4) (v77 : Int) (v78 : Int) (ab0 : Z11) (bb0 : Z10) (cb0 : Z0) (cb1 : Int) (cb2 : Z2) (cb3 : Int) (cb4 : Z4) (cb5 : Int) (db0 : Z0) (db1 : Int) (db2 : Z2) (db3 : Int) (db4 : Z4) (db5 : Int) (hb0 : Z8) (ib0 : Int) (vk0 : Nat) (vk1 : Nat) (vk2 : Nat) : Option X:=
 bif decide (v78 < v77) then
  (idx v76 v78).bind fun x20 =>
   mpLook ab0 x20.1 (fun x21 =>
     (F.zh n (IntKind.wrap .u64 (x21))).bind fun y22 =>
      eqK (some [(.fn 51 [] [(.ref 5 0),(.ref 4 0)])]) (some [(.fn 51 [] [(.ref 5 0),(.ref 4 0)])]) (
       bif ib0 == (0 : Int) then
        bif decide ((hb0.length + y22.length) * 1 ≤ 2 ^ 46) && decide (0 < 1 ∧ 1 ≤ 2 ^ 20) then
         bif Nat.beq vk2 hb0.length then
          F.zb.C28_rec_Put n
           (fun e76 e77 e78 g0 h0 i0 i1 i2 i3 i4 i5 j0 j1 j2 j3 j4 j5 l0 o0 ek0 ek1 ek2 =>
            rec e76 e77 (IntKind.wrap .i64 (e78 + (1 : Int))) g0 h0 i0 i1 i2 i3 i4 i5 j0 j1 j2 j3 j4 j5 l0 o0 ek0 ek1 ek2) v76 v77 v78 ab0 bb0 cb0 cb1 cb2 cb3 cb4 cb5 db0 db1 db2 db3 db4 db5 (hb0 ++ y22) (0 : Int) x20.1 x20.2 vk0 vk1 ((hb0 ++ y22).length)
         else
          none
        else
         none
       else
       bif decide ((hb0.length + y22.length) * 1 ≤ 2 ^ 46) && decide (0 < 1 ∧ 1 ≤ 2 ^ 20) then
        bif Nat.beq vk2 hb0.length then
         F.zb.C28_rec_Put n
          (fun e76 e77 e78 g0 h0 i0 i1 i2 i3 i4 i5 j0 j1 j2 j3 j4 j5 l0 o0 ek0 ek1 ek2 =>
           rec e76 e77 (IntKind.wrap .i64 (e78 + (1 : Int))) g0 h0 i0 i1 i2 i3 i4 i5 j0 j1 j2 j3 j4 j5 l0 o0 ek0 ek1 ek2) v76 v77 v78 ab0 bb0 cb0 cb1 cb2 cb3 cb4 cb5 db0 db1 db2 db3 db4 db5 (hb0 ++ y22) ib0 x20.1 x20.2 vk0 vk1 ((hb0 ++ y22).length)
        else
         none
       else
        none))
    (
     bif decide ((x20.1.length : Int) > (200 : Int)) then
      eqK (some [(.fn 51 [] [(.ref 5 0),(.ref 4 0)])]) (some [(.fn 51 [] [(.ref 5 0),(.ref 4 0)])]) (
       bif ib0 == (0 : Int) then
        bif decide ((hb0.length + 0) * 1 ≤ 2 ^ 46) && decide (0 < 1 ∧ 1 ≤ 2 ^ 20) then
         bif Nat.beq vk2 hb0.length then
          F.zb.C28_rec_Put n
           (fun e76 e77 e78 g0 h0 i0 i1 i2 i3 i4 i5 j0 j1 j2 j3 j4 j5 l0 o0 ek0 ek1 ek2 =>
            rec e76 e77 (IntKind.wrap .i64 (e78 + (1 : Int))) g0 h0 i0 i1 i2 i3 i4 i5 j0 j1 j2 j3 j4 j5 l0 o0 ek0 ek1 ek2) v76 v77 v78 ab0 bb0 cb0 cb1 cb2 cb3 cb4 cb5 db0 db1 db2 db3 db4 db5 (hb0 ++ []) (12 : Int) x20.1 x20.2 vk0 vk1 ((hb0 ++ []).length)
         else
          none
        else
         none
       else
       bif decide ((hb0.length + 0) * 1 ≤ 2 ^ 46) && decide (0 < 1 ∧ 1 ≤ 2 ^ 20) then
        bif Nat.beq vk2 hb0.length then
         F.zb.C28_rec_Put n
          (fun e76 e77 e78 g0 h0 i0 i1 i2 i3 i4 i5 j0 j1 j2 j3 j4 j5 l0 o0 ek0 ek1 ek2 =>
           rec e76 e77 (IntKind.wrap .i64 (e78 + (1 : Int))) g0 h0 i0 i1 i2 i3 i4 i5 j0 j1 j2 j3 j4 j5 l0 o0 ek0 ek1 ek2) v76 v77 v78 ab0 bb0 cb0 cb1 cb2 cb3 cb4 cb5 db0 db1 db2 db3 db4 db5 (hb0 ++ []) ib0 x20.1 x20.2 vk0 vk1 ((hb0 ++ []).length)
        else
         none
       else
        none)
     else
     bif decide ((bb0.length : Int) ≥ (65536 : Int)) then
      eqK (some [(.fn 51 [] [(.ref 5 0),(.ref 4 0)])]) (some [(.fn 51 [] [(.ref 5 0),(.ref 4 0)])]) (
       bif ib0 == (0 : Int) then
        bif decide ((hb0.length + 0) * 1 ≤ 2 ^ 46) && decide (0 < 1 ∧ 1 ≤ 2 ^ 20) then
         bif Nat.beq vk2 hb0.length then
          F.zb.C28_rec_Put n
           (fun e76 e77 e78 g0 h0 i0 i1 i2 i3 i4 i5 j0 j1 j2 j3 j4 j5 l0 o0 ek0 ek1 ek2 =>
            rec e76 e77 (IntKind.wrap .i64 (e78 + (1 : Int))) g0 h0 i0 i1 i2 i3 i4 i5 j0 j1 j2 j3 j4 j5 l0 o0 ek0 ek1 ek2) v76 v77 v78 ab0 bb0 cb0 cb1 cb2 cb3 cb4 cb5 db0 db1 db2 db3 db4 db5 (hb0 ++ []) (12 : Int) x20.1 x20.2 vk0 vk1 ((hb0 ++ []).length)
         else
          none
        else
         none
       else
       bif decide ((hb0.length + 0) * 1 ≤ 2 ^ 46) && decide (0 < 1 ∧ 1 ≤ 2 ^ 20) then
        bif Nat.beq vk2 hb0.length then
         F.zb.C28_rec_Put n
          (fun e76 e77 e78 g0 h0 i0 i1 i2 i3 i4 i5 j0 j1 j2 j3 j4 j5 l0 o0 ek0 ek1 ek2 =>
           rec e76 e77 (IntKind.wrap .i64 (e78 + (1 : Int))) g0 h0 i0 i1 i2 i3 i4 i5 j0 j1 j2 j3 j4 j5 l0 o0 ek0 ek1 ek2) v76 v77 v78 ab0 bb0 cb0 cb1 cb2 cb3 cb4 cb5 db0 db1 db2 db3 db4 db5 (hb0 ++ []) ib0 x20.1 x20.2 vk0 vk1 ((hb0 ++ []).length)
        else
         none
       else
        none)
     else
     bif decide ((bb0.length + 1) * 16 ≤ 2 ^ 46) && decide (0 < 16 ∧ 16 ≤ 2 ^ 20) then
      bif Nat.beq vk1 bb0.length then
       (F.zh n (0 : Int)).bind fun y37 =>
        (F.zh n (IntKind.wrap .u64 ((x20.1.length : Int)))).bind fun y38 =>
         bif decide ((y37.length + y38.length) * 1 ≤ 2 ^ 46) && decide (0 < 1 ∧ 1 ≤ 2 ^ 20) then
          bif Nat.beq y37.length y37.length then
           bif decide ((((y37 ++ y38).length) + x20.1.length) * 1 ≤ 2 ^ 46) && decide (0 < 1 ∧ 1 ≤ 2 ^ 20) then
            bif Nat.beq ((y37 ++ y38).length) ((y37 ++ y38).length) then
             eqK (some [(.fn 51 [] [(.ref 5 0),(.ref 4 0)])]) (some [(.fn 51 [] [(.ref 5 0),(.ref 4 0)])]) (
              bif ib0 == (0 : Int) then
               bif decide ((hb0.length + (((y37 ++ y38) ++ x20.1).length)) * 1 ≤ 2 ^ 46) && decide (0 < 1 ∧ 1 ≤ 2 ^ 20) then
                bif Nat.beq vk2 hb0.length then
                 F.zb.C28_rec_Put n
                  (fun e76 e77 e78 g0 h0 i0 i1 i2 i3 i4 i5 j0 j1 j2 j3 j4 j5 l0 o0 ek0 ek1 ek2 =>
                   rec e76 e77 (IntKind.wrap .i64 (e78 + (1 : Int))) g0 h0 i0 i1 i2 i3 i4 i5 j0 j1 j2 j3 j4 j5 l0 o0 ek0 ek1 ek2) v76 v77 v78 (mpSet ab0 x20.1 ((bb0 ++ ([x20.1])).length : Int)) (bb0 ++ ([x20.1])) cb0 cb1 cb2 cb3 cb4 cb5 db0 db1 db2 db3 db4 db5 (hb0 ++ ((y37 ++ y38) ++ x20.1)) (0 : Int) x20.1 x20.2 vk0 ((bb0 ++ ([x20.1])).length) ((hb0 ++ ((y37 ++ y38) ++ x20.1)).length)
                else
                 none
               else
                none
              else
              bif decide ((hb0.length + (((y37 ++ y38) ++ x20.1).length)) * 1 ≤ 2 ^ 46) && decide (0 < 1 ∧ 1 ≤ 2 ^ 20) then
               bif Nat.beq vk2 hb0.length then
                F.zb.C28_rec_Put n
                 (fun e76 e77 e78 g0 h0 i0 i1 i2 i3 i4 i5 j0 j1 j2 j3 j4 j5 l0 o0 ek0 ek1 ek2 =>
                  rec e76 e77 (IntKind.wrap .i64 (e78 + (1 : Int))) g0 h0 i0 i1 i2 i3 i4 i5 j0 j1 j2 j3 j4 j5 l0 o0 ek0 ek1 ek2) v76 v77 v78 (mpSet ab0 x20.1 ((bb0 ++ ([x20.1])).length : Int)) (bb0 ++ ([x20.1])) cb0 cb1 cb2 cb3 cb4 cb5 db0 db1 db2 db3 db4 db5 (hb0 ++ ((y37 ++ y38) ++ x20.1)) ib0 x20.1 x20.2 vk0 ((bb0 ++ ([x20.1])).length) ((hb0 ++ ((y37 ++ y38) ++ x20.1)).length)
               else
                none
              else
               none)
            else
             none
           else
            none
          else
           none
         else
          none
      else
       none
     else
      none)
 else
  k3 ab0 bb0 cb0 cb1 cb2 cb3 cb4 cb5 db0 db1 db2 db3 db4 db5 hb0 ib0 vk0 vk1 vk2
noncomputable def F.zb.L25_rec_Put {X : Type} (n : Nat) (k3 : Z11→Z10→Z0→Int→Z2→Int→Z4→Int→Z0→Int→Z2→Int→Z4→Int→Z8→Int→Nat→Nat→Nat→Option X) : Nat→Z4→Int→Int→Z11→Z10→Z0→Int→Z2→Int→Z4→Int→Z0→Int→Z2→Int→Z4→Int→Z8→Int→Nat→Nat→Nat→Option X
 | 0 => fun _ _ _ _ _ _ _ _ _ _ _ _ _ _ _ _ _ _ _ _ _ _ => none
 | m + 1 => fun v76 v77 v78 ab0 bb0 cb0 cb1 cb2 cb3 cb4 cb5 db0 db1 db2 db3 db4 db5 hb0 ib0 vk0 vk1 vk2 => F.zb.L25_rec_Put.step n (F.zb.L25_rec_Put n k3 m) k3 v76 v77 v78 ab0 bb0 cb0 cb1 cb2 cb3 cb4 cb5 db0 db1 db2 db3 db4 db5 hb0 ib0 vk0 vk1 vk2
noncomputable def F.zb.C24_rec_Put {X : Type} (n : Nat) (kr : Z8→Int→Z11→Z10→Z0→Int→Z2→Int→Z4→Int→Nat→Nat→Nat→Option X) (ab0 : Z11) (bb0 : Z10) (cb0 : Z0) (cb1 : Int) (cb2 : Z2) (cb3 : Int) (cb4 : Z4) (cb5 : Int) (db0 : Z0) (db1 : Int) (db2 : Z2) (db3 : Int) (db4 : Z4) (db5 : Int) (hb0 : Z8) (ib0 : Int) (ck0 : Nat) (ck1 : Nat) (ck2 : Nat) : Option X:=
 F.zb.L25_rec_Put n
  (fun g0 h0 i0 i1 i2 i3 i4 i5 j0 j1 j2 j3 j4 j5 l0 o0 ek0 ek1 ek2 =>
   (F.zh n (IntKind.wrap .u64 (j5))).bind fun y44 =>
    bif o0 == (0 : Int) then
     bif decide ((l0.length + y44.length) * 1 ≤ 2 ^ 46) && decide (0 < 1 ∧ 1 ≤ 2 ^ 20) then
      bif Nat.beq ek2 l0.length then
       kr (l0 ++ y44) (0 : Int) g0 h0 i0 i1 i2 i3 i4 i5 ek0 ek1 ((l0 ++ y44).length)
      else
       none
     else
      none
    else
    bif decide ((l0.length + y44.length) * 1 ≤ 2 ^ 46) && decide (0 < 1 ∧ 1 ≤ 2 ^ 20) then
     bif Nat.beq ek2 l0.length then
      bif !(o0 == (0 : Int)) then
       kr [] o0 g0 h0 i0 i1 i2 i3 i4 i5 ek0 ek1 0
      else
       kr (l0 ++ y44) (0 : Int) g0 h0 i0 i1 i2 i3 i4 i5 ek0 ek1 ((l0 ++ y44).length)
     else
      none
    else
     none) n db4 (db4.length : Int) (0 : Int) ab0 bb0 cb0 cb1 cb2 cb3 cb4 cb5 db0 db1 db2 db3 db4 db5 hb0 ib0 ck0 ck1 ck2
noncomputable def F.zb.C23_rec_Put {X : Type} (n : Nat) (kr : Z8→Int→Z11→Z10→Z0→Int→Z2→Int→Z4→Int→Nat→Nat→Nat→Option X) (ab0 : Z11) (bb0 : Z10) (cb0 : Z0) (cb1 : Int) (cb2 : Z2) (cb3 : Int) (cb4 : Z4) (cb5 : Int) (db0 : Z0) (db1 : Int) (db2 : Z2) (db3 : Int) (db4 : Z4) (db5 : Int) (hb0 : Z8) (ib0 : Int) (ck0 : Nat) (ck1 : Nat) (ck2 : Nat) : Option X:=
 (F.zh n (IntKind.wrap .u64 ((db4.length : Int)))).bind fun y47 =>
  bif ib0 == (0 : Int) then
   bif decide ((hb0.length + y47.length) * 1 ≤ 2 ^ 46) && decide (0 < 1 ∧ 1 ≤ 2 ^ 20) then
    bif Nat.beq ck2 hb0.length then
     F.zb.C24_rec_Put n
      (fun e4 e5 g0 h0 i0 i1 i2 i3 i4 i5 ek0 ek1 ek2 =>
       kr e4 e5 g0 h0 i0 i1 i2 i3 i4 i5 ek0 ek1 ek2) ab0 bb0 cb0 cb1 cb2 cb3 cb4 cb5 db0 db1 db2 db3 db4 db5 (hb0 ++ y47) (0 : Int) ck0 ck1 ((hb0 ++ y47).length)
    else
     none
   else
    none
  else
  bif decide ((hb0.length + y47.length) * 1 ≤ 2 ^ 46) && decide (0 < 1 ∧ 1 ≤ 2 ^ 20) then
   bif Nat.beq ck2 hb0.length then
    F.zb.C24_rec_Put n
     (fun e4 e5 g0 h0 i0 i1 i2 i3 i4 i5 ek0 ek1 ek2 =>
      kr e4 e5 g0 h0 i0 i1 i2 i3 i4 i5 ek0 ek1 ek2) ab0 bb0 cb0 cb1 cb2 cb3 cb4 cb5 db0 db1 db2 db3 db4 db5 (hb0 ++ y47) ib0 ck0 ck1 ((hb0 ++ y47).length)
   else
    none
  else
   none
noncomputable def F.zb.C17_rec_Put {X : Type} (n : Nat) (kr : Z8→Int→Z11→Z10→Z0→Int→Z2→Int→Z4→Int→Nat→Nat→Nat→Option X) (ab0 : Z11) (bb0 : Z10) (cb0 : Z0) (cb1 : Int) (cb2 : Z2) (cb3 : Int) (cb4 : Z4) (cb5 : Int) (db0 : Z0) (db1 : Int) (db2 : Z2) (db3 : Int) (db4 : Z4) (db5 : Int) (hb0 : Z8) (ib0 : Int) (ck0 : Nat) (ck1 : Nat) (ck2 : Nat) : Option X:=
 F.zb.L18_rec_Put n
  (fun g0 h0 i0 i1 i2 i3 i4 i5 j0 j1 j2 j3 j4 j5 l0 o0 ek0 ek1 ek2 =>
   (F.zh n (IntKind.wrap .u64 (j3))).bind fun y53 =>
    bif o0 == (0 : Int) then
     bif decide ((l0.length + y53.length) * 1 ≤ 2 ^ 46) && decide (0 < 1 ∧ 1 ≤ 2 ^ 20) then
      bif Nat.beq ek2 l0.length then
       F.zb.C23_rec_Put n
        (fun e4 e5 g0 h0 i0 i1 i2 i3 i4 i5 ek0 ek1 ek2 =>
         kr e4 e5 g0 h0 i0 i1 i2 i3 i4 i5 ek0 ek1 ek2) g0 h0 i0 i1 i2 i3 i4 i5 j0 j1 j2 j3 j4 j5 (l0 ++ y53) (0 : Int) ek0 ek1 ((l0 ++ y53).length)
      else
       none
     else
      none
    else
    bif decide ((l0.length + y53.length) * 1 ≤ 2 ^ 46) && decide (0 < 1 ∧ 1 ≤ 2 ^ 20) then
     bif Nat.beq ek2 l0.length then
      F.zb.C23_rec_Put n
       (fun e4 e5 g0 h0 i0 i1 i2 i3 i4 i5 ek0 ek1 ek2 =>
        kr e4 e5 g0 h0 i0 i1 i2 i3 i4 i5 ek0 ek1 ek2) g0 h0 i0 i1 i2 i3 i4 i5 j0 j1 j2 j3 j4 j5 (l0 ++ y53) o0 ek0 ek1 ((l0 ++ y53).length)
     else
      none
    else
     none) n db2 (db2.length : Int) (0 : Int) ab0 bb0 cb0 cb1 cb2 cb3 cb4 cb5 db0 db1 db2 db3 db4 db5 hb0 ib0 ck0 ck1 ck2
noncomputable def F.zb.C16_rec_Put {X : Type} (n : Nat) (kr : Z8→Int→Z11→Z10→Z0→Int→Z2→Int→Z4→Int→Nat→Nat→Nat→Option X) (ab0 : Z11) (bb0 : Z10) (cb0 : Z0) (cb1 : Int) (cb2 : Z2) (cb3 : Int) (cb4 : Z4) (cb5 : Int) (db0 : Z0) (db1 : Int) (db2 : Z2) (db3 : Int) (db4 : Z4) (db5 : Int) (hb0 : Z8) (ib0 : Int) (ck0 : Nat) (ck1 : Nat) (ck2 : Nat) : Option X:=
 (F.zh n (IntKind.wrap .u64 ((db2.length : Int)))).bind fun y58 =>
  bif ib0 == (0 : Int) then
   bif decide ((hb0.length + y58.length) * 1 ≤ 2 ^ 46) && decide (0 < 1 ∧ 1 ≤ 2 ^ 20) then
    bif Nat.beq ck2 hb0.length then
     F.zb.C17_rec_Put n
      (fun e4 e5 g0 h0 i0 i1 i2 i3 i4 i5 ek0 ek1 ek2 =>
       kr e4 e5 g0 h0 i0 i1 i2 i3 i4 i5 ek0 ek1 ek2) ab0 bb0 cb0 cb1 cb2 cb3 cb4 cb5 db0 db1 db2 db3 db4 db5 (hb0 ++ y58) (0 : Int) ck0 ck1 ((hb0 ++ y58).length)
    else
     none
   else
    none
  else
  bif decide ((hb0.length + y58.length) * 1 ≤ 2 ^ 46) && decide (0 < 1 ∧ 1 ≤ 2 ^ 20) then
   bif Nat.beq ck2 hb0.length then
    F.zb.C17_rec_Put n
     (fun e4 e5 g0 h0 i0 i1 i2 i3 i4 i5 ek0 ek1 ek2 =>
      kr e4 e5 g0 h0 i0 i1 i2 i3 i4 i5 ek0 ek1 ek2) ab0 bb0 cb0 cb1 cb2 cb3 cb4 cb5 db0 db1 db2 db3 db4 db5 (hb0 ++ y58) ib0 ck0 ck1 ((hb0 ++ y58).length)
   else
    none
  else
   none
noncomputable def F.zb.C15_rec_Put {X : Type} (n : Nat) (kr : Z8→Int→Z11→Z10→Z0→Int→Z2→Int→Z4→Int→Nat→Nat→Nat→Option X) (ab0 : Z11) (bb0 : Z10) (cb0 : Z0) (cb1 : Int) (cb2 : Z2) (cb3 : Int) (cb4 : Z4) (cb5 : Int) (db0 : Z0) (db1 : Int) (db2 : Z2) (db3 : Int) (db4 : Z4) (db5 : Int) (hb0 : Z8) (ib0 : Int) (ck0 : Nat) (ck1 : Nat) (ck2 : Nat) : Option X:=
 bif ib0 == (0 : Int) then
  bif decide ((hb0.length + 1) * 1 ≤ 2 ^ 46) && decide (0 < 1 ∧ 1 ≤ 2 ^ 20) then
   bif Nat.beq ck2 hb0.length then
    F.zb.C16_rec_Put n
     (fun e4 e5 g0 h0 i0 i1 i2 i3 i4 i5 ek0 ek1 ek2 =>
      kr e4 e5 g0 h0 i0 i1 i2 i3 i4 i5 ek0 ek1 ek2) ab0 bb0 cb0 cb1 cb2 cb3 cb4 cb5 db0 db1 db2 db3 db4 db5 (hb0 ++ ([UInt8.ofNat ((IntKind.wrap .u8 (db1))).toNat])) (0 : Int) ck0 ck1 ((hb0 ++ ([UInt8.ofNat ((IntKind.wrap .u8 (db1))).toNat])).length)
   else
    none
  else
   none
 else
 bif decide ((hb0.length + 1) * 1 ≤ 2 ^ 46) && decide (0 < 1 ∧ 1 ≤ 2 ^ 20) then
  bif Nat.beq ck2 hb0.length then
   F.zb.C16_rec_Put n
    (fun e4 e5 g0 h0 i0 i1 i2 i3 i4 i5 ek0 ek1 ek2 =>
     kr e4 e5 g0 h0 i0 i1 i2 i3 i4 i5 ek0 ek1 ek2) ab0 bb0 cb0 cb1 cb2 cb3 cb4 cb5 db0 db1 db2 db3 db4 db5 (hb0 ++ ([UInt8.ofNat ((IntKind.wrap .u8 (db1))).toNat])) ib0 ck0 ck1 ((hb0 ++ ([UInt8.ofNat ((IntKind.wrap .u8 (db1))).toNat])).length)
  else
   none
 else
  none
noncomputable def F.zb.L7.step {X : Type} (n : Nat) (rec : Z6→Z8→Z6→Int→Int→Z11→Z10→Nat→Nat→Option X) (k0 : Z6→Z8→Z11→Z10→Nat→Nat→Option X) (kr : Z8→Int→Int→Z11→Z10→Nat→Nat→Option X) (v0 : Z6) (v9 : Z8) (v30 : Z6) (v31 : Int) (v32 : Int) (ab0 : Z11) (bb0 : Z10) (vk0 : Nat) (vk1 : Nat) : Option X:=
 bif decide (v32 < v31) then
  (idx v30 v32).bind fun x3 =>
   (F.zo n (x3.1, x3.2.1,x3.2.2.1,x3.2.2.2.1,x3.2.2.2.2.1,x3.2.2.2.2.2,())).bind fun y4 =>
    bif !(y4 == (0 : Int)) then
     F.zb.C10 n
      (fun e2 e3 e4 g0 h0 ek0 ek1 =>
       kr e2 e3 e4 g0 h0 ek0 ek1)
      (fun e0 e9 e30 e31 e32 g0 h0 ek0 ek1 =>
       rec e0 e9 e30 e31 (IntKind.wrap .i64 (e32 + (1 : Int))) g0 h0 ek0 ek1) v0 v9 v32 [] y4 v30 v31 v32 ab0 bb0 vk0 0 vk1
    else
     (F.zb2 n (x3.1, x3.2.1,x3.2.2.1,x3.2.2.2.1,x3.2.2.2.2.1,x3.2.2.2.2.2,())).bind fun y7 =>
      bif !y7 then
       F.zb.C10 n
        (fun e2 e3 e4 g0 h0 ek0 ek1 =>
         kr e2 e3 e4 g0 h0 ek0 ek1)
        (fun e0 e9 e30 e31 e32 g0 h0 ek0 ek1 =>
         rec e0 e9 e30 e31 (IntKind.wrap .i64 (e32 + (1 : Int))) g0 h0 ek0 ek1) v0 v9 v32 [] (21 : Int) v30 v31 v32 ab0 bb0 vk0 0 vk1
      else
      bif decide ((bb0.length : Int) > (65471 : Int)) then
       F.zb.C10 n
        (fun e2 e3 e4 g0 h0 ek0 ek1 =>
         kr e2 e3 e4 g0 h0 ek0 ek1)
        (fun e0 e9 e30 e31 e32 g0 h0 ek0 ek1 =>
         rec e0 e9 e30 e31 (IntKind.wrap .i64 (e32 + (1 : Int))) g0 h0 ek0 ek1) v0 v9 v32 [] (12 : Int) v30 v31 v32 ab0 bb0 vk0 0 vk1
      else
       mpLook ab0 x3.1 (fun x12 =>
         (F.zh n (IntKind.wrap .u64 (x12))).bind fun y13 =>
          eqK (some [(.fn 51 [] [(.ref 5 0),(.ref 4 0)])]) (some [(.fn 51 [] [(.ref 5 0),(.ref 4 0)])]) (
           bif decide ((0 + y13.length) * 1 ≤ 2 ^ 46) && decide (0 < 1 ∧ 1 ≤ 2 ^ 20) then
            F.zb.C15_rec_Put n
             (fun e4 e5 g0 h0 i0 i1 i2 i3 i4 i5 ek0 ek1 ek2 =>
              F.zb.C10 n
               (fun e2 e3 e4 g0 h0 ek0 ek1 =>
                kr e2 e3 e4 g0 h0 ek0 ek1)
               (fun e0 e9 e30 e31 e32 g0 h0 ek0 ek1 =>
                rec e0 e9 e30 e31 (IntKind.wrap .i64 (e32 + (1 : Int))) g0 h0 ek0 ek1) v0 v9 v32 e4 e5 v30 v31 v32 g0 h0 ek0 ek2 ek1) ab0 bb0 x3.1 x3.2.1 x3.2.2.1 x3.2.2.2.1 x3.2.2.2.2.1 x3.2.2.2.2.2 x3.1 x3.2.1 x3.2.2.1 x3.2.2.2.1 x3.2.2.2.2.1 x3.2.2.2.2.2 ([] ++ y13) (0 : Int) vk0 vk1 (([] ++ y13).length)
           else
            none))
        (
         bif decide ((x3.1.length : Int) > (200 : Int)) then
          eqK (some [(.fn 51 [] [(.ref 5 0),(.ref 4 0)])]) (some [(.fn 51 [] [(.ref 5 0),(.ref 4 0)])]) (
           bif decide ((0 + 0) * 1 ≤ 2 ^ 46) && decide (0 < 1 ∧ 1 ≤ 2 ^ 20) then
            F.zb.C15_rec_Put n
             (fun e4 e5 g0 h0 i0 i1 i2 i3 i4 i5 ek0 ek1 ek2 =>
              F.zb.C10 n
               (fun e2 e3 e4 g0 h0 ek0 ek1 =>
                kr e2 e3 e4 g0 h0 ek0 ek1)
               (fun e0 e9 e30 e31 e32 g0 h0 ek0 ek1 =>
                rec e0 e9 e30 e31 (IntKind.wrap .i64 (e32 + (1 : Int))) g0 h0 ek0 ek1) v0 v9 v32 e4 e5 v30 v31 v32 g0 h0 ek0 ek2 ek1) ab0 bb0 x3.1 x3.2.1 x3.2.2.1 x3.2.2.2.1 x3.2.2.2.2.1 x3.2.2.2.2.2 x3.1 x3.2.1 x3.2.2.1 x3.2.2.2.1 x3.2.2.2.2.1 x3.2.2.2.2.2 [] (12 : Int) vk0 vk1 0
           else
            none)
         else
         bif decide ((bb0.length : Int) ≥ (65536 : Int)) then
          eqK (some [(.fn 51 [] [(.ref 5 0),(.ref 4 0)])]) (some [(.fn 51 [] [(.ref 5 0),(.ref 4 0)])]) (
           bif decide ((0 + 0) * 1 ≤ 2 ^ 46) && decide (0 < 1 ∧ 1 ≤ 2 ^ 20) then
            F.zb.C15_rec_Put n
             (fun e4 e5 g0 h0 i0 i1 i2 i3 i4 i5 ek0 ek1 ek2 =>
              F.zb.C10 n
               (fun e2 e3 e4 g0 h0 ek0 ek1 =>
                kr e2 e3 e4 g0 h0 ek0 ek1)
               (fun e0 e9 e30 e31 e32 g0 h0 ek0 ek1 =>
                rec e0 e9 e30 e31 (IntKind.wrap .i64 (e32 + (1 : Int))) g0 h0 ek0 ek1) v0 v9 v32 e4 e5 v30 v31 v32 g0 h0 ek0 ek2 ek1) ab0 bb0 x3.1 x3.2.1 x3.2.2.1 x3.2.2.2.1 x3.2.2.2.2.1 x3.2.2.2.2.2 x3.1 x3.2.1 x3.2.2.1 x3.2.2.2.1 x3.2.2.2.2.1 x3.2.2.2.2.2 [] (12 : Int) vk0 vk1 0
           else
            none)
         else
         bif decide ((bb0.length + 1) * 16 ≤ 2 ^ 46) && decide (0 < 16 ∧ 16 ≤ 2 ^ 20) then
          bif Nat.beq vk1 bb0.length then
           (F.zh n (0 : Int)).bind fun y74 =>
            (F.zh n (IntKind.wrap .u64 ((x3.1.length : Int)))).bind fun y75 =>
             bif decide ((y74.length + y75.length) * 1 ≤ 2 ^ 46) && decide (0 < 1 ∧ 1 ≤ 2 ^ 20) then
              bif Nat.beq y74.length y74.length then
               bif decide ((((y74 ++ y75).length) + x3.1.length) * 1 ≤ 2 ^ 46) && decide (0 < 1 ∧ 1 ≤ 2 ^ 20) then
                bif Nat.beq ((y74 ++ y75).length) ((y74 ++ y75).length) then
                 eqK (some [(.fn 51 [] [(.ref 5 0),(.ref 4 0)])]) (some [(.fn 51 [] [(.ref 5 0),(.ref 4 0)])]) (
                  bif decide ((0 + (((y74 ++ y75) ++ x3.1).length)) * 1 ≤ 2 ^ 46) && decide (0 < 1 ∧ 1 ≤ 2 ^ 20) then
                   F.zb.C15_rec_Put n
                    (fun e4 e5 g0 h0 i0 i1 i2 i3 i4 i5 ek0 ek1 ek2 =>
                     F.zb.C10 n
                      (fun e2 e3 e4 g0 h0 ek0 ek1 =>
                       kr e2 e3 e4 g0 h0 ek0 ek1)
                      (fun e0 e9 e30 e31 e32 g0 h0 ek0 ek1 =>
                       rec e0 e9 e30 e31 (IntKind.wrap .i64 (e32 + (1 : Int))) g0 h0 ek0 ek1) v0 v9 v32 e4 e5 v30 v31 v32 g0 h0 ek0 ek2 ek1) (mpSet ab0 x3.1 ((bb0 ++ ([x3.1])).length : Int)) (bb0 ++ ([x3.1])) x3.1 x3.2.1 x3.2.2.1 x3.2.2.2.1 x3.2.2.2.2.1 x3.2.2.2.2.2 x3.1 x3.2.1 x3.2.2.1 x3.2.2.2.1 x3.2.2.2.2.1 x3.2.2.2.2.2 ([] ++ ((y74 ++ y75) ++ x3.1)) (0 : Int) vk0 ((bb0 ++ ([x3.1])).length) (([] ++ ((y74 ++ y75) ++ x3.1)).length)
                  else
                   none)
                else
                 none
               else
                none
              else
               none
             else
              none
          else
           none
         else
          none)
 else
  k0 v0 v9 ab0 bb0 vk0 vk1
noncomputable def F.zb.L7 {X : Type} (n : Nat) (k0 : Z6→Z8→Z11→Z10→Nat→Nat→Option X) (kr : Z8→Int→Int→Z11→Z10→Nat→Nat→Option X) : Nat→Z6→Z8→Z6→Int→Int→Z11→Z10→Nat→Nat→Option X
 | 0 => fun _ _ _ _ _ _ _ _ _ => none
 | m + 1 => fun v0 v9 v30 v31 v32 ab0 bb0 vk0 vk1 => F.zb.L7.step n (F.zb.L7 n k0 kr m) k0 kr v0 v9 v30 v31 v32 ab0 bb0 vk0 vk1
noncomputable def F.zb (n : Nat) (a0 : Z6) : Option ((Z8) × (Int) × (Int) × Unit):=
 (F.zv n a0).bind fun y1 =>
  bif !(y1.2.2.1 == (0 : Int)) then
   some (([],y1.2.1,y1.2.2.1,()))
  else
   (F.zh n (IntKind.wrap .u64 ((y1.1.length : Int)))).bind fun y2 =>
    F.zb.L7 n
     (fun e0 e9 g0 h0 ek0 ek1 =>
      bif decide ((e9.length : Int) > (1048576 : Int)) then
       some (([],(e0.length : Int),(12 : Int),()))
      else
       (F.zh n (IntKind.wrap .u64 ((e9.length : Int)))).bind fun y80 =>
        bif decide ((3 + y80.length) * 1 ≤ 2 ^ 46) && decide (0 < 1 ∧ 1 ≤ 2 ^ 20) then
         bif decide ((((([UInt8.ofNat ((77 : Int)).toNat,UInt8.ofNat ((71 : Int)).toNat,UInt8.ofNat ((1 : Int)).toNat]) ++ y80).length) + e9.length) * 1 ≤ 2 ^ 46) && decide (0 < 1 ∧ 1 ≤ 2 ^ 20) then
          bif Nat.beq ((([UInt8.ofNat ((77 : Int)).toNat,UInt8.ofNat ((71 : Int)).toNat,UInt8.ofNat ((1 : Int)).toNat]) ++ y80).length) ((([UInt8.ofNat ((77 : Int)).toNat,UInt8.ofNat ((71 : Int)).toNat,UInt8.ofNat ((1 : Int)).toNat]) ++ y80).length) then
           (F.zcn n ((([UInt8.ofNat ((77 : Int)).toNat,UInt8.ofNat ((71 : Int)).toNat,UInt8.ofNat ((1 : Int)).toNat]) ++ y80) ++ e9)).bind fun y81 =>
            (F.zcm n y81).bind fun y82 =>
             bif decide (((((([UInt8.ofNat ((77 : Int)).toNat,UInt8.ofNat ((71 : Int)).toNat,UInt8.ofNat ((1 : Int)).toNat]) ++ y80) ++ e9).length) + y82.length) * 1 ≤ 2 ^ 46) && decide (0 < 1 ∧ 1 ≤ 2 ^ 20) then
              bif Nat.beq (((([UInt8.ofNat ((77 : Int)).toNat,UInt8.ofNat ((71 : Int)).toNat,UInt8.ofNat ((1 : Int)).toNat]) ++ y80) ++ e9).length) (((([UInt8.ofNat ((77 : Int)).toNat,UInt8.ofNat ((71 : Int)).toNat,UInt8.ofNat ((1 : Int)).toNat]) ++ y80) ++ e9).length) then
               some ((((([UInt8.ofNat ((77 : Int)).toNat,UInt8.ofNat ((71 : Int)).toNat,UInt8.ofNat ((1 : Int)).toNat]) ++ y80) ++ e9) ++ y82,(0 : Int),(0 : Int),()))
              else
               none
             else
              none
          else
           none
         else
          none
        else
         none)
     (fun e2 e3 e4 g0 h0 ek0 ek1 =>
      some ((e2,e3,e4,()))) n a0 y2 y1.1 (y1.1.length : Int) (0 : Int) [] [] y2.length 0
noncomputable def F.zbi (n : Nat) (a0 : Z7) : Option ((Bool) × (Int) × Unit):=
 (F.zo n (a0.1,a0.2.1,a0.2.2.1,a0.2.2.2.1,a0.2.2.2.2.1,a0.2.2.2.2.2.1,())).bind fun y1 =>
  some ((true,y1,()))
noncomputable def F.zx.L1_batch_all_bool_1.step {X : Type} (n : Nat) (rec : Z6→Int→Int→Z20→Int→Int→Z20→Z6→Nat→Nat→Option X) (k0 : Z20→Int→Int→Z20→Z6→Nat→Nat→Option X) (kr : Z20→Int→Int→Z20→Z6→Nat→Nat→Option X) (krx1 : Z20→Int→Int→Z20→Z6→Nat→Nat→Option X) (v8 : Z6) (v9 : Int) (v10 : Int) (ab0 : Z20) (bb0 : Int) (cb0 : Int) (db0 : Z20) (hb0 : Z6) (vk0 : Nat) (vk1 : Nat) : Option X:=
 bif decide (v10 < v9) then
  (idx v8 v10).bind fun x1 =>
   (F.zbi n (x1.1,x1.2.1,x1.2.2.1,x1.2.2.2.1,x1.2.2.2.2.1,x1.2.2.2.2.2,())).bind fun y2 =>
    bif !(y2.2.1 == (0 : Int)) then
     kr [] (db0.length : Int) y2.2.1 db0 hb0 0 vk1
    else
    bif decide ((db0.length + 1) * 1 ≤ 2 ^ 46) && decide (0 < 1 ∧ 1 ≤ 2 ^ 20) then
     bif Nat.beq vk1 db0.length then
      bif !(y2.2.1 == (0 : Int)) then
       krx1 ab0 bb0 cb0 (db0 ++ ([y2.1])) hb0 vk0 ((db0 ++ ([y2.1])).length)
      else
       rec v8 v9 (IntKind.wrap .i64 (v10 + (1 : Int))) ab0 bb0 cb0 (db0 ++ ([y2.1])) hb0 vk0 ((db0 ++ ([y2.1])).length)
     else
      none
    else
     none
 else
  k0 ab0 bb0 cb0 db0 hb0 vk0 vk1
noncomputable def F.zx.L1_batch_all_bool_1 {X : Type} (n : Nat) (k0 : Z20→Int→Int→Z20→Z6→Nat→Nat→Option X) (kr : Z20→Int→Int→Z20→Z6→Nat→Nat→Option X) (krx1 : Z20→Int→Int→Z20→Z6→Nat→Nat→Option X) : Nat→Z6→Int→Int→Z20→Int→Int→Z20→Z6→Nat→Nat→Option X
 | 0 => fun _ _ _ _ _ _ _ _ _ _ => none
 | m + 1 => fun v8 v9 v10 ab0 bb0 cb0 db0 hb0 vk0 vk1 => F.zx.L1_batch_all_bool_1.step n (F.zx.L1_batch_all_bool_1 n k0 kr krx1 m) k0 kr krx1 v8 v9 v10 ab0 bb0 cb0 db0 hb0 vk0 vk1
noncomputable def F.zx (n : Nat) (a0 : Z6) : Option ((Int) × (Int) × Unit):=
 bif decide ((a0.length : Int) > (1000 : Int)) then
  some (((1000 : Int),(12 : Int),()))
 else
  F.zx.L1_batch_all_bool_1 n
   (fun g0 h0 i0 j0 l0 ek0 ek1 =>
    some (((0 : Int),(0 : Int),())))
   (fun g0 h0 i0 j0 l0 ek0 ek1 =>
    some ((h0,i0,())))
   (fun g0 h0 i0 j0 l0 ek0 ek1 =>
    some (((0 : Int),(0 : Int),()))) n a0 (a0.length : Int) (0 : Int) [] (0 : Int) (0 : Int) [] a0 0 0
noncomputable def F.za0 (n : Nat) (a0 : Z7) : Option (Bool):=
 bif (a0.2.2.1.length : Int) == (1 : Int) then
  some ((a0.2.2.2.2.1.length : Int) == (0 : Int))
 else
  some (false)
noncomputable def F.zas (n : Nat) (a0 : Z7) : Option (Bool):=
 (F.za0 n (a0.1,a0.2.1,a0.2.2.1,a0.2.2.2.1,a0.2.2.2.2.1,a0.2.2.2.2.2.1,())).bind fun y1 =>
  bif !y1 then
   some (false)
  else
  bif !(a0.2.2.2.2.2.1 == (0 : Int)) then
   some (false)
  else
  bif a0.2.1 == (5 : Int) then
   some (false)
  else
  bif !(a0.2.1 == (2 : Int)) then
   some (true)
  else
   (idx a0.2.2.1 (0 : Int)).bind fun x2 =>
    some (!x2.1)
noncomputable def F.za6 (n : Nat) (a0 : Z7) : Option (Bool):=
 some (true)
noncomputable def F.zao (n : Nat) (a0 : Z7) : Option (Bool):=
 (F.za0 n (a0.1,a0.2.1,a0.2.2.1,a0.2.2.2.1,a0.2.2.2.2.1,a0.2.2.2.2.2.1,())).bind fun y1 =>
  bif y1 then
   bif !(a0.2.2.2.2.2.1 == (0 : Int)) then
    some (a0.2.1 == (2 : Int))
   else
    some (false)
  else
   some (false)
noncomputable def F.zq.L8.step {X : Type} (n : Nat) (rec : Z6→Int→Int→Option X) (k0 : Unit→Option X) (kr : Int→Int→Option X) (v29 : Z6) (v30 : Int) (v31 : Int) : Option X:=
 bif decide (v31 < v30) then
  (idx v29 v31).bind fun x2 =>
   (F.zas n (x2.1,x2.2.1,x2.2.2.1,x2.2.2.2.1,x2.2.2.2.2.1,x2.2.2.2.2.2,())).bind fun y3 =>
    bif !y3 then
     kr v31 (26 : Int)
    else
     rec v29 v30 (IntKind.wrap .i64 (v31 + (1 : Int)))
 else
  k0 ()
noncomputable def F.zq.L8 {X : Type} (n : Nat) (k0 : Unit→Option X) (kr : Int→Int→Option X) : Nat→Z6→Int→Int→Option X
 | 0 => fun _ _ _ => none
 | m + 1 => fun v29 v30 v31 => F.zq.L8.step n (F.zq.L8 n k0 kr m) k0 kr v29 v30 v31
noncomputable def F.zq.L8_1.step {X : Type} (n : Nat) (rec : Z6→Int→Int→Option X) (k0 : Unit→Option X) (kr : Int→Int→Option X) (v29 : Z6) (v30 : Int) (v31 : Int) : Option X:=
 bif decide (v31 < v30) then
  (idx v29 v31).bind fun x7 =>
   (F.za6 n (x7.1,x7.2.1,x7.2.2.1,x7.2.2.2.1,x7.2.2.2.2.1,x7.2.2.2.2.2,())).bind fun y8 =>
    bif !y8 then
     kr v31 (26 : Int)
    else
     rec v29 v30 (IntKind.wrap .i64 (v31 + (1 : Int)))
 else
  k0 ()
noncomputable def F.zq.L8_1 {X : Type} (n : Nat) (k0 : Unit→Option X) (kr : Int→Int→Option X) : Nat→Z6→Int→Int→Option X
 | 0 => fun _ _ _ => none
 | m + 1 => fun v29 v30 v31 => F.zq.L8_1.step n (F.zq.L8_1 n k0 kr m) k0 kr v29 v30 v31
noncomputable def F.zq.L8_2.step {X : Type} (n : Nat) (rec : Z6→Int→Int→Option X) (k0 : Unit→Option X) (kr : Int→Int→Option X) (v29 : Z6) (v30 : Int) (v31 : Int) : Option X:=
 bif decide (v31 < v30) then
  (idx v29 v31).bind fun x12 =>
   (F.zao n (x12.1,x12.2.1,x12.2.2.1,x12.2.2.2.1,x12.2.2.2.2.1,x12.2.2.2.2.2,())).bind fun y13 =>
    bif !y13 then
     kr v31 (26 : Int)
    else
     rec v29 v30 (IntKind.wrap .i64 (v31 + (1 : Int)))
 else
  k0 ()
noncomputable def F.zq.L8_2 {X : Type} (n : Nat) (k0 : Unit→Option X) (kr : Int→Int→Option X) : Nat→Z6→Int→Int→Option X
 | 0 => fun _ _ _ => none
 | m + 1 => fun v29 v30 v31 => F.zq.L8_2.step n (F.zq.L8_2 n k0 kr m) k0 kr v29 v30 v31
noncomputable def F.zq (n : Nat) (a0 : Z6) (a1 : Int) : Option ((Int) × (Int) × Unit):=
 bif a1 == (1 : Int) then
  (F.zx n a0).bind fun y1 =>
   bif !(y1.2.1 == (0 : Int)) then
    some ((y1.1,y1.2.1,()))
   else
    F.zq.L8 n
     (fun (_ : Unit) =>
      some (((0 : Int),(0 : Int),())))
     (fun e4 e5 =>
      some ((e4,e5,()))) n a0 (a0.length : Int) (0 : Int)
 else
 bif a1 == (2 : Int) then
  (F.zx n a0).bind fun y6 =>
   bif !(y6.2.1 == (0 : Int)) then
    some ((y6.1,y6.2.1,()))
   else
    F.zq.L8_1 n
     (fun (_ : Unit) =>
      some (((0 : Int),(0 : Int),())))
     (fun e4 e5 =>
      some ((e4,e5,()))) n a0 (a0.length : Int) (0 : Int)
 else
 bif a1 == (3 : Int) then
  (F.zx n a0).bind fun y11 =>
   bif !(y11.2.1 == (0 : Int)) then
    some ((y11.1,y11.2.1,()))
   else
    F.zq.L8_2 n
     (fun (_ : Unit) =>
      some (((0 : Int),(0 : Int),())))
     (fun e4 e5 =>
      some ((e4,e5,()))) n a0 (a0.length : Int) (0 : Int)
 else
 bif a1 == (4 : Int) then
  (F.zx n a0).bind fun y16 =>
   bif !(y16.2.1 == (0 : Int)) then
    some ((y16.1,y16.2.1,()))
   else
    F.zq.L8_1 n
     (fun (_ : Unit) =>
      some (((0 : Int),(0 : Int),())))
     (fun e4 e5 =>
      some ((e4,e5,()))) n a0 (a0.length : Int) (0 : Int)
 else
  some (((0 : Int),(29 : Int),()))
noncomputable def F.zav (n : Nat) (a0 : Z7) (a1 : Int) : Option (Int):=
 bif a1 == (1 : Int) then
  (F.zo n (a0.1,a0.2.1,a0.2.2.1,a0.2.2.2.1,a0.2.2.2.2.1,a0.2.2.2.2.2.1,())).bind fun y1 =>
   bif !(y1 == (0 : Int)) then
    some (y1)
   else
    (F.zas n (a0.1,a0.2.1,a0.2.2.1,a0.2.2.2.1,a0.2.2.2.2.1,a0.2.2.2.2.2.1,())).bind fun y2 =>
     bif !y2 then
      some ((26 : Int))
     else
      some ((0 : Int))
 else
 bif a1 == (2 : Int) then
  (F.zo n (a0.1,a0.2.1,a0.2.2.1,a0.2.2.2.1,a0.2.2.2.2.1,a0.2.2.2.2.2.1,())).bind fun y3 =>
   bif !(y3 == (0 : Int)) then
    some (y3)
   else
    (F.za6 n (a0.1,a0.2.1,a0.2.2.1,a0.2.2.2.1,a0.2.2.2.2.1,a0.2.2.2.2.2.1,())).bind fun y4 =>
     bif !y4 then
      some ((26 : Int))
     else
      some ((0 : Int))
 else
 bif a1 == (3 : Int) then
  (F.zo n (a0.1,a0.2.1,a0.2.2.1,a0.2.2.2.1,a0.2.2.2.2.1,a0.2.2.2.2.2.1,())).bind fun y5 =>
   bif !(y5 == (0 : Int)) then
    some (y5)
   else
    (F.zao n (a0.1,a0.2.1,a0.2.2.1,a0.2.2.2.1,a0.2.2.2.2.1,a0.2.2.2.2.2.1,())).bind fun y6 =>
     bif !y6 then
      some ((26 : Int))
     else
      some ((0 : Int))
 else
 bif a1 == (4 : Int) then
  (F.zo n (a0.1,a0.2.1,a0.2.2.1,a0.2.2.2.1,a0.2.2.2.2.1,a0.2.2.2.2.2.1,())).bind fun y7 =>
   bif !(y7 == (0 : Int)) then
    some (y7)
   else
    (F.za6 n (a0.1,a0.2.1,a0.2.2.1,a0.2.2.2.1,a0.2.2.2.2.1,a0.2.2.2.2.2.1,())).bind fun y8 =>
     bif !y8 then
      some ((26 : Int))
     else
      some ((0 : Int))
 else
  some ((29 : Int))
noncomputable def F.zbg (n : Nat) (a0 : Z17) : Option ((Z0) × (Int) × Unit):=
 (F.zbe n (a0.1,a0.2.1,a0.2.2.1,())).bind fun y1 =>
  bif !(y1 == (0 : Int)) then
   some (([],y1,()))
  else
   (O.futoa n a0.2.1 (10 : Int)).bind fun y2 =>
    bif decide (a0.2.2.1 ≥ (0 : Int)) then
     (O.repeat' n ([48]) a0.2.2.1).bind fun y3 =>
      bif decide (y2.length + y3.length ≤ strMax) then
       bif a0.1 then
        bif decide (1 + ((y2 ++ y3).length) ≤ strMax) then
         some ((([45]) ++ (y2 ++ y3),(0 : Int),()))
        else
         none
       else
        some ((y2 ++ y3,(0 : Int),()))
      else
       none
    else
     (O.repeat' n ([48]) (if (IntKind.wrap .i64 ((IntKind.wrap .i64 ((1 : Int) - a0.2.2.1)) - (y2.length : Int))) > (0 : Int) then (IntKind.wrap .i64 ((IntKind.wrap .i64 ((1 : Int) - a0.2.2.1)) - (y2.length : Int))) else (0 : Int))).bind fun y4 =>
      bif decide (y4.length + y2.length ≤ strMax) then
       (sub (y4 ++ y2) (0 : Int) (IntKind.wrap .i64 (((y4 ++ y2).length : Int) + a0.2.2.1))).bind fun x5 =>
        bif decide (x5.length + 1 ≤ strMax) then
         (sub (y4 ++ y2) (IntKind.wrap .i64 (((y4 ++ y2).length : Int) + a0.2.2.1)) ((y4 ++ y2).length : Int)).bind fun x6 =>
          bif decide (((x5 ++ ([46])).length) + x6.length ≤ strMax) then
           bif a0.1 then
            bif decide (1 + (((x5 ++ ([46])) ++ x6).length) ≤ strMax) then
             some ((([45]) ++ ((x5 ++ ([46])) ++ x6),(0 : Int),()))
            else
             none
           else
            some (((x5 ++ ([46])) ++ x6,(0 : Int),()))
          else
           none
        else
         none
      else
       none
noncomputable def F.zbc (n : Nat) (a0 : Int) : Option ((Z0) × (Int) × Unit):=
 bif decide (a0 < (1 : Int)) then
  some (([],(10 : Int),()))
 else
 bif decide (a0 > (1000000 : Int)) then
  some (([],(10 : Int),()))
 else
 bif a0 == (1000000 : Int) then
  some (([49],(0 : Int),()))
 else
  (O.itoa n (IntKind.wrap .i64 ((1000000 : Int) + a0))).bind fun y1 =>
   (sub y1 (1 : Int) (y1.length : Int)).bind fun x2 =>
    (O.trimR n x2 ([48])).bind fun y3 =>
     bif decide (2 + y3.length ≤ strMax) then
      some ((([48,46]) ++ y3,(0 : Int),()))
     else
      none
noncomputable def F.zbk (n : Nat) (a0 : Z7) : Option ((Z0) × (Int) × Unit):=
 (F.zav n (a0.1,a0.2.1,a0.2.2.1,a0.2.2.2.1,a0.2.2.2.2.1,a0.2.2.2.2.2.1,()) (1 : Int)).bind fun y1 =>
  bif !(y1 == (0 : Int)) then
   some (([],y1,()))
  else
   (O.word n a0.2.1).bind fun y2 =>
    bif !(y2.2.1 == (0 : Int)) then
     some (([],y2.2.1,()))
    else
     (idx a0.2.2.1 (0 : Int)).bind fun x3 =>
      (F.zbg n (x3.1,x3.2.1,x3.2.2,())).bind fun y4 =>
       bif !(y4.2.1 == (0 : Int)) then
        some (([],y4.2.1,()))
       else
       bif decide (a0.1.length + 1 ≤ strMax) then
        bif decide (((a0.1 ++ ([58])).length) + y4.1.length ≤ strMax) then
         bif decide ((((a0.1 ++ ([58])) ++ y4.1).length) + 1 ≤ strMax) then
          bif decide (((((a0.1 ++ ([58])) ++ y4.1) ++ ([124])).length) + y2.1.length ≤ strMax) then
           bif a0.2.2.2.1 == (1000000 : Int) then
            some (((((a0.1 ++ ([58])) ++ y4.1) ++ ([124])) ++ y2.1,(0 : Int),()))
           else
            (F.zbc n a0.2.2.2.1).bind fun y5 =>
             bif !(y5.2.1 == (0 : Int)) then
              some (([],y5.2.1,()))
             else
             bif decide ((((((a0.1 ++ ([58])) ++ y4.1) ++ ([124])) ++ y2.1).length) + 1 ≤ strMax) then
              bif decide (((((((a0.1 ++ ([58])) ++ y4.1) ++ ([124])) ++ y2.1) ++ ([124])).length) + 1 ≤ strMax) then
               bif decide ((((((((a0.1 ++ ([58])) ++ y4.1) ++ ([124])) ++ y2.1) ++ ([124])) ++ ([64])).length) + y5.1.length ≤ strMax) then
                some ((((((((a0.1 ++ ([58])) ++ y4.1) ++ ([124])) ++ y2.1) ++ ([124])) ++ ([64])) ++ y5.1,(0 : Int),()))
               else
                none
              else
               none
             else
              none
          else
           none
         else
          none
        else
         none
       else
        none
noncomputable def F.zco (n : Nat) : Option (Z22):=
 some (([],[99],[103],[109,115],[104],[100],()))
noncomputable def F.zcc (n : Nat) (a0 : Int) : Option ((Z0) × (Int) × Unit):=
 bif decide (a0 < (1 : Int)) then
  some (([],(16 : Int),()))
 else
 bif decide (a0 > (5 : Int)) then
  some (([],(16 : Int),()))
 else
  (F.zco n ).bind fun y1 =>
   bif a0 == (0 : Int) then
    some ((y1.1,(0 : Int),()))
   else
   bif a0 == (1 : Int) then
    some ((y1.2.1,(0 : Int),()))
   else
   bif a0 == (2 : Int) then
    some ((y1.2.2.1,(0 : Int),()))
   else
   bif a0 == (3 : Int) then
    some ((y1.2.2.2.1,(0 : Int),()))
   else
   bif a0 == (4 : Int) then
    some ((y1.2.2.2.2.1,(0 : Int),()))
   else
   bif a0 == (5 : Int) then
    some ((y1.2.2.2.2.2.1,(0 : Int),()))
   else
    none
noncomputable def F.zay.L3.step {X : Type} (n : Nat) (rec : Z10→Z4→Int→Int→Nat→Option X) (k0 : Z10→Nat→Option X) (kr : Z0→Int→Int→Option X) (v5 : Z10) (v10 : Z4) (v11 : Int) (v12 : Int) (vk0 : Nat) : Option X:=
 bif decide (v12 < v11) then
  (idx v10 v12).bind fun x1 =>
   (F.zb1 n (x1.1,x1.2,())).bind fun y2 =>
    bif !(y2 == (0 : Int)) then
     kr [] v12 y2
    else
    bif !(x1.2 == []) then
     bif decide (1 + x1.2.length ≤ strMax) then
      bif decide (x1.1.length + ((([58]) ++ x1.2).length) ≤ strMax) then
       bif decide ((v5.length + 1) * 16 ≤ 2 ^ 46) && decide (0 < 16 ∧ 16 ≤ 2 ^ 20) then
        bif Nat.beq vk0 v5.length then
         rec (v5 ++ ([x1.1 ++ (([58]) ++ x1.2)])) v10 v11 (IntKind.wrap .i64 (v12 + (1 : Int))) ((v5 ++ ([x1.1 ++ (([58]) ++ x1.2)])).length)
        else
         none
       else
        none
      else
       none
     else
      none
    else
    bif decide ((v5.length + 1) * 16 ≤ 2 ^ 46) && decide (0 < 16 ∧ 16 ≤ 2 ^ 20) then
     bif Nat.beq vk0 v5.length then
      rec (v5 ++ ([x1.1])) v10 v11 (IntKind.wrap .i64 (v12 + (1 : Int))) ((v5 ++ ([x1.1])).length)
     else
      none
    else
     none
 else
  k0 v5 vk0
noncomputable def F.zay.L3 {X : Type} (n : Nat) (k0 : Z10→Nat→Option X) (kr : Z0→Int→Int→Option X) : Nat→Z10→Z4→Int→Int→Nat→Option X
 | 0 => fun _ _ _ _ _ => none
 | m + 1 => fun v5 v10 v11 v12 vk0 => F.zay.L3.step n (F.zay.L3 n k0 kr m) k0 kr v5 v10 v11 v12 vk0
noncomputable def F.zay (n : Nat) (a0 : Z4) : Option ((Z0) × (Int) × (Int) × Unit):=
 F.zay.L3 n
  (fun e5 ek0 =>
   (O.join n e5 ([44])).bind fun y4 =>
    some ((y4,(0 : Int),(0 : Int),())))
  (fun e2 e3 e4 =>
   some ((e2,e3,e4,()))) n [] a0 (a0.length : Int) (0 : Int) 0
noncomputable def F.zbz (n : Nat) (a0 : Int) : Option ((Z0) × (Int) × Unit):=
 bif decide (a0 < (0 : Int)) then
  some (([],(10 : Int),()))
 else
  (O.itoa n a0).bind fun y1 =>
   some ((y1,(0 : Int),()))
noncomputable def F.zk.L9.step {X : Type} (n : Nat) (rec : Z2→Int→Int→Z0→Int→Z2→Int→Z4→Int→Z21→Z12→Int→Option X) (k0 : Z0→Int→Z2→Int→Z4→Int→Z21→Z12→Int→Option X) (v34 : Z2) (v35 : Int) (v36 : Int) (ab0 : Z0) (ab1 : Int) (ab2 : Z2) (ab3 : Int) (ab4 : Z4) (ab5 : Int) (bb0 : Z21) (cb1 : Z12) (db0 : Int) : Option X:=
 bif decide (v36 < v35) then
  (idx v34 v36).bind fun x2 =>
   (F.zbg n (x2.1,x2.2.1,x2.2.2,())).bind fun y3 =>
    bif db0 == (0 : Int) then
     bif decide (1 + y3.1.length ≤ strMax) then
      bif Nat.beq cb1.1 bb0.1 then
       bif decide ((bb0.2.length + ((([58]) ++ y3.1).length)) * 1 ≤ 2 ^ 46) && decide (0 < 1 ∧ 1 ≤ 2 ^ 20) then
        rec v34 v35 (IntKind.wrap .i64 (v36 + (1 : Int))) ab0 ab1 ab2 ab3 ab4 ab5 (cb1.1 + 1,bb0.2 ++ (([58]) ++ y3.1)) (cb1.1 + 1,(bb0.2 ++ (([58]) ++ y3.1)).length) y3.2.1
       else
        none
      else
       none
     else
      none
    else
    bif decide (1 + y3.1.length ≤ strMax) then
     bif Nat.beq cb1.1 bb0.1 then
      bif decide ((bb0.2.length + ((([58]) ++ y3.1).length)) * 1 ≤ 2 ^ 46) && decide (0 < 1 ∧ 1 ≤ 2 ^ 20) then
       rec v34 v35 (IntKind.wrap .i64 (v36 + (1 : Int))) ab0 ab1 ab2 ab3 ab4 ab5 (cb1.1 + 1,bb0.2 ++ (([58]) ++ y3.1)) (cb1.1 + 1,(bb0.2 ++ (([58]) ++ y3.1)).length) db0
      else
       none
     else
      none
    else
     none
 else
  k0 ab0 ab1 ab2 ab3 ab4 ab5 (bb0.1,bb0.2) (cb1.1,cb1.2) db0
noncomputable def F.zk.L9 {X : Type} (n : Nat) (k0 : Z0→Int→Z2→Int→Z4→Int→Z21→Z12→Int→Option X) : Nat→Z2→Int→Int→Z0→Int→Z2→Int→Z4→Int→Z21→Z12→Int→Option X
 | 0 => fun _ _ _ _ _ _ _ _ _ _ _ _ => none
 | m + 1 => fun v34 v35 v36 ab0 ab1 ab2 ab3 ab4 ab5 bb0 cb1 db0 => F.zk.L9.step n (F.zk.L9 n k0 m) k0 v34 v35 v36 ab0 ab1 ab2 ab3 ab4 ab5 bb0 cb1 db0
noncomputable def F.zk.C25 {X : Type} (n : Nat) (kr : Z0→Int→Option X) (ab0 : Z0) (ab1 : Int) (ab2 : Z2) (ab3 : Int) (ab4 : Z4) (ab5 : Int) (bb0 : Z21) (cb1 : Z12) (db0 : Int) : Option X:=
 bif !(db0 == (0 : Int)) then
  kr [] db0
 else
 bif Nat.beq cb1.1 bb0.1 then
  bif List.isEmpty bb0.2 then
   none
  else
   kr bb0.2 (0 : Int)
 else
  none
noncomputable def F.zk.C22 {X : Type} (n : Nat) (kr : Z0→Int→Option X) (ab0 : Z0) (ab1 : Int) (ab2 : Z2) (ab3 : Int) (ab4 : Z4) (ab5 : Int) (bb0 : Z21) (cb1 : Z12) (db0 : Int) : Option X:=
 bif !(ab5 == (0 : Int)) then
  (F.zbz n ab5).bind fun y12 =>
   bif db0 == (0 : Int) then
    bif decide (2 + y12.1.length ≤ strMax) then
     bif Nat.beq cb1.1 bb0.1 then
      bif decide ((bb0.2.length + ((([124,84]) ++ y12.1).length)) * 1 ≤ 2 ^ 46) && decide (0 < 1 ∧ 1 ≤ 2 ^ 20) then
       F.zk.C25 n
        (fun e2 e3 =>
         kr e2 e3) ab0 ab1 ab2 ab3 ab4 ab5 (cb1.1 + 1,bb0.2 ++ (([124,84]) ++ y12.1)) (cb1.1 + 1,(bb0.2 ++ (([124,84]) ++ y12.1)).length) y12.2.1
      else
       none
     else
      none
    else
     none
   else
   bif decide (2 + y12.1.length ≤ strMax) then
    bif Nat.beq cb1.1 bb0.1 then
     bif decide ((bb0.2.length + ((([124,84]) ++ y12.1).length)) * 1 ≤ 2 ^ 46) && decide (0 < 1 ∧ 1 ≤ 2 ^ 20) then
      F.zk.C25 n
       (fun e2 e3 =>
        kr e2 e3) ab0 ab1 ab2 ab3 ab4 ab5 (cb1.1 + 1,bb0.2 ++ (([124,84]) ++ y12.1)) (cb1.1 + 1,(bb0.2 ++ (([124,84]) ++ y12.1)).length) db0
     else
      none
    else
     none
   else
    none
 else
  F.zk.C25 n
   (fun e2 e3 =>
    kr e2 e3) ab0 ab1 ab2 ab3 ab4 ab5 (bb0.1,bb0.2) (cb1.1,cb1.2) db0
noncomputable def F.zk.C19 {X : Type} (n : Nat) (kr : Z0→Int→Option X) (ab0 : Z0) (ab1 : Int) (ab2 : Z2) (ab3 : Int) (ab4 : Z4) (ab5 : Int) (bb0 : Z21) (cb1 : Z12) (db0 : Int) : Option X:=
 bif decide ((ab4.length : Int) > (0 : Int)) then
  (F.zay n ab4).bind fun y19 =>
   bif db0 == (0 : Int) then
    bif decide (2 + y19.1.length ≤ strMax) then
     bif Nat.beq cb1.1 bb0.1 then
      bif decide ((bb0.2.length + ((([124,35]) ++ y19.1).length)) * 1 ≤ 2 ^ 46) && decide (0 < 1 ∧ 1 ≤ 2 ^ 20) then
       F.zk.C22 n
        (fun e2 e3 =>
         kr e2 e3) ab0 ab1 ab2 ab3 ab4 ab5 (cb1.1 + 1,bb0.2 ++ (([124,35]) ++ y19.1)) (cb1.1 + 1,(bb0.2 ++ (([124,35]) ++ y19.1)).length) y19.2.2.1
      else
       none
     else
      none
    else
     none
   else
   bif decide (2 + y19.1.length ≤ strMax) then
    bif Nat.beq cb1.1 bb0.1 then
     bif decide ((bb0.2.length + ((([124,35]) ++ y19.1).length)) * 1 ≤ 2 ^ 46) && decide (0 < 1 ∧ 1 ≤ 2 ^ 20) then
      F.zk.C22 n
       (fun e2 e3 =>
        kr e2 e3) ab0 ab1 ab2 ab3 ab4 ab5 (cb1.1 + 1,bb0.2 ++ (([124,35]) ++ y19.1)) (cb1.1 + 1,(bb0.2 ++ (([124,35]) ++ y19.1)).length) db0
     else
      none
    else
     none
   else
    none
 else
  F.zk.C22 n
   (fun e2 e3 =>
    kr e2 e3) ab0 ab1 ab2 ab3 ab4 ab5 (bb0.1,bb0.2) (cb1.1,cb1.2) db0
noncomputable def F.zk.C16 {X : Type} (n : Nat) (kr : Z0→Int→Option X) (ab0 : Z0) (ab1 : Int) (ab2 : Z2) (ab3 : Int) (ab4 : Z4) (ab5 : Int) (bb0 : Z21) (cb1 : Z12) (db0 : Int) : Option X:=
 bif !(ab3 == (1000000 : Int)) then
  (F.zbc n ab3).bind fun y26 =>
   bif db0 == (0 : Int) then
    bif decide (2 + y26.1.length ≤ strMax) then
     bif Nat.beq cb1.1 bb0.1 then
      bif decide ((bb0.2.length + ((([124,64]) ++ y26.1).length)) * 1 ≤ 2 ^ 46) && decide (0 < 1 ∧ 1 ≤ 2 ^ 20) then
       F.zk.C19 n
        (fun e2 e3 =>
         kr e2 e3) ab0 ab1 ab2 ab3 ab4 ab5 (cb1.1 + 1,bb0.2 ++ (([124,64]) ++ y26.1)) (cb1.1 + 1,(bb0.2 ++ (([124,64]) ++ y26.1)).length) y26.2.1
      else
       none
     else
      none
    else
     none
   else
   bif decide (2 + y26.1.length ≤ strMax) then
    bif Nat.beq cb1.1 bb0.1 then
     bif decide ((bb0.2.length + ((([124,64]) ++ y26.1).length)) * 1 ≤ 2 ^ 46) && decide (0 < 1 ∧ 1 ≤ 2 ^ 20) then
      F.zk.C19 n
       (fun e2 e3 =>
        kr e2 e3) ab0 ab1 ab2 ab3 ab4 ab5 (cb1.1 + 1,bb0.2 ++ (([124,64]) ++ y26.1)) (cb1.1 + 1,(bb0.2 ++ (([124,64]) ++ y26.1)).length) db0
     else
      none
    else
     none
   else
    none
 else
  F.zk.C19 n
   (fun e2 e3 =>
    kr e2 e3) ab0 ab1 ab2 ab3 ab4 ab5 (bb0.1,bb0.2) (cb1.1,cb1.2) db0
noncomputable def F.zk (n : Nat) (a0 : Z7) : Option ((Z0) × (Int) × Unit):=
 (F.zl n (a0.1,a0.2.1,a0.2.2.1,a0.2.2.2.1,a0.2.2.2.2.1,a0.2.2.2.2.2.1,())).bind fun y1 =>
  bif !(y1.2.1 == (0 : Int)) then
   some (([],y1.2.1,()))
  else
  bif decide (0 + y1.1.1.length ≤ strMax) then
   bif decide ((0 + (([] ++ y1.1.1).length)) * 1 ≤ 2 ^ 46) && decide (0 < 1 ∧ 1 ≤ 2 ^ 20) then
    F.zk.L9 n
     (fun g0 g1 g2 g3 g4 g5 h0 i1 j0 =>
      (F.zcc n g1).bind fun y5 =>
       bif j0 == (0 : Int) then
        bif decide (1 + y5.1.length ≤ strMax) then
         bif Nat.beq i1.1 h0.1 then
          bif decide ((h0.2.length + ((([124]) ++ y5.1).length)) * 1 ≤ 2 ^ 46) && decide (0 < 1 ∧ 1 ≤ 2 ^ 20) then
           F.zk.C16 n
            (fun e2 e3 =>
             some ((e2,e3,()))) g0 g1 g2 g3 g4 g5 (i1.1 + 1,h0.2 ++ (([124]) ++ y5.1)) (i1.1 + 1,(h0.2 ++ (([124]) ++ y5.1)).length) y5.2.1
          else
           none
         else
          none
        else
         none
       else
       bif decide (1 + y5.1.length ≤ strMax) then
        bif Nat.beq i1.1 h0.1 then
         bif decide ((h0.2.length + ((([124]) ++ y5.1).length)) * 1 ≤ 2 ^ 46) && decide (0 < 1 ∧ 1 ≤ 2 ^ 20) then
          F.zk.C16 n
           (fun e2 e3 =>
            some ((e2,e3,()))) g0 g1 g2 g3 g4 g5 (i1.1 + 1,h0.2 ++ (([124]) ++ y5.1)) (i1.1 + 1,(h0.2 ++ (([124]) ++ y5.1)).length) j0
         else
          none
        else
         none
       else
        none) n y1.1.2.2.1 (y1.1.2.2.1.length : Int) (0 : Int) y1.1.1 y1.1.2.1 y1.1.2.2.1 y1.1.2.2.2.1 y1.1.2.2.2.2.1 y1.1.2.2.2.2.2.1 (2,[] ++ ([] ++ y1.1.1)) (2,([] ++ ([] ++ y1.1.1)).length) (0 : Int)
   else
    none
  else
   none
noncomputable def F.zba (n : Nat) (a0 : Z7) : Option ((Z0) × (Int) × Unit):=
 (F.zav n (a0.1,a0.2.1,a0.2.2.1,a0.2.2.2.1,a0.2.2.2.2.1,a0.2.2.2.2.2.1,()) (3 : Int)).bind fun y1 =>
  bif !(y1 == (0 : Int)) then
   some (([],y1,()))
  else
   (idx a0.2.2.1 (0 : Int)).bind fun x2 =>
    (F.zbg n (x2.1,x2.2.1,x2.2.2,())).bind fun y3 =>
     bif !(y3.2.1 == (0 : Int)) then
      some (([],y3.2.1,()))
     else
      (F.zbz n a0.2.2.2.2.2.1).bind fun y4 =>
       bif !(y4.2.1 == (0 : Int)) then
        some (([],y4.2.1,()))
       else
       bif decide (a0.1.length + 1 ≤ strMax) then
        bif decide (((a0.1 ++ ([32])).length) + y3.1.length ≤ strMax) then
         bif decide ((((a0.1 ++ ([32])) ++ y3.1).length) + 1 ≤ strMax) then
          bif decide (((((a0.1 ++ ([32])) ++ y3.1) ++ ([32])).length) + y4.1.length ≤ strMax) then
           some (((((a0.1 ++ ([32])) ++ y3.1) ++ ([32])) ++ y4.1,(0 : Int),()))
          else
           none
         else
          none
        else
         none
       else
        none
noncomputable def F.zb3 (n : Nat) (a0 : Z7) (a1 : Int) : Option ((Z0) × (Int) × Unit):=
 bif a1 == (1 : Int) then
  (F.zl n (a0.1,a0.2.1,a0.2.2.1,a0.2.2.2.1,a0.2.2.2.2.1,a0.2.2.2.2.2.1,())).bind fun y1 =>
   bif !(y1.2.1 == (0 : Int)) then
    some (([],y1.2.1,()))
   else
    (F.zav n (y1.1.1,y1.1.2.1,y1.1.2.2.1,y1.1.2.2.2.1,y1.1.2.2.2.2.1,y1.1.2.2.2.2.2.1,()) a1).bind fun y2 =>
     bif !(y2 == (0 : Int)) then
      some (([],y2,()))
     else
      (F.zbk n (y1.1.1,y1.1.2.1,y1.1.2.2.1,y1.1.2.2.2.1,y1.1.2.2.2.2.1,y1.1.2.2.2.2.2.1,())).bind fun y3 =>
       some ((y3.1,y3.2.1,()))
 else
 bif a1 == (2 : Int) then
  (F.zl n (a0.1,a0.2.1,a0.2.2.1,a0.2.2.2.1,a0.2.2.2.2.1,a0.2.2.2.2.2.1,())).bind fun y4 =>
   bif !(y4.2.1 == (0 : Int)) then
    some (([],y4.2.1,()))
   else
    (F.zav n (y4.1.1,y4.1.2.1,y4.1.2.2.1,y4.1.2.2.2.1,y4.1.2.2.2.2.1,y4.1.2.2.2.2.2.1,()) a1).bind fun y5 =>
     bif !(y5 == (0 : Int)) then
      some (([],y5,()))
     else
      (F.zk n (y4.1.1,y4.1.2.1,y4.1.2.2.1,y4.1.2.2.2.1,y4.1.2.2.2.2.1,y4.1.2.2.2.2.2.1,())).bind fun y6 =>
       some ((y6.1,y6.2.1,()))
 else
 bif a1 == (3 : Int) then
  (F.zl n (a0.1,a0.2.1,a0.2.2.1,a0.2.2.2.1,a0.2.2.2.2.1,a0.2.2.2.2.2.1,())).bind fun y7 =>
   bif !(y7.2.1 == (0 : Int)) then
    some (([],y7.2.1,()))
   else
    (F.zav n (y7.1.1,y7.1.2.1,y7.1.2.2.1,y7.1.2.2.2.1,y7.1.2.2.2.2.1,y7.1.2.2.2.2.2.1,()) a1).bind fun y8 =>
     bif !(y8 == (0 : Int)) then
      some (([],y8,()))
     else
      (F.zba n (y7.1.1,y7.1.2.1,y7.1.2.2.1,y7.1.2.2.2.1,y7.1.2.2.2.2.1,y7.1.2.2.2.2.2.1,())).bind fun y9 =>
       some ((y9.1,y9.2.1,()))
 else
  some (([],(29 : Int),()))
noncomputable def F.zy.L12.step {X : Type} (n : Nat) (rec : Int→Z10→Z6→Int→Int→Nat→Option X) (k0 : Z10→Nat→Option X) (kr : Z10→Int→Int→Nat→Option X) (v1 : Int) (v13 : Z10) (v48 : Z6) (v49 : Int) (v50 : Int) (vk0 : Nat) : Option X:=
 bif decide (v50 < v49) then
  (idx v48 v50).bind fun x3 =>
   (F.zb3 n (x3.1,x3.2.1,x3.2.2.1,x3.2.2.2.1,x3.2.2.2.2.1,x3.2.2.2.2.2,()) v1).bind fun y4 =>
    bif !(y4.2.1 == (0 : Int)) then
     kr [] v50 y4.2.1 0
    else
    bif decide ((v13.length + 1) * 16 ≤ 2 ^ 46) && decide (0 < 16 ∧ 16 ≤ 2 ^ 20) then
     bif Nat.beq vk0 v13.length then
      rec v1 (v13 ++ ([y4.1])) v48 v49 (IntKind.wrap .i64 (v50 + (1 : Int))) ((v13 ++ ([y4.1])).length)
     else
      none
    else
     none
 else
  k0 v13 vk0
noncomputable def F.zy.L12 {X : Type} (n : Nat) (k0 : Z10→Nat→Option X) (kr : Z10→Int→Int→Nat→Option X) : Nat→Int→Z10→Z6→Int→Int→Nat→Option X
 | 0 => fun _ _ _ _ _ _ => none
 | m + 1 => fun v1 v13 v48 v49 v50 vk0 => F.zy.L12.step n (F.zy.L12 n k0 kr m) k0 kr v1 v13 v48 v49 v50 vk0
noncomputable def F.zy (n : Nat) (a0 : Z6) (a1 : Int) : Option ((Z10) × (Int) × (Int) × Unit):=
 bif a1 == (1 : Int) then
  (F.zv n a0).bind fun y1 =>
   bif !(y1.2.2.1 == (0 : Int)) then
    some (([],y1.2.1,y1.2.2.1,()))
   else
    (F.zq n y1.1 a1).bind fun y2 =>
     bif !(y2.2.1 == (0 : Int)) then
      some (([],y2.1,y2.2.1,()))
     else
     bif decide ((0 : Int) = 0) && (decide ((0 : Int) ≤ (y1.1.length : Int)) && decide ((16 : Int) * (y1.1.length : Int) ≤ 281474976710656) && decide ((y1.1.length : Int) ≤ 281474976710656)) && true then
      F.zy.L12 n
       (fun e13 ek0 =>
        some ((e13,(0 : Int),(0 : Int),())))
       (fun e4 e5 e6 ek0 =>
        some ((e4,e5,e6,()))) n a1 [] y1.1 (y1.1.length : Int) (0 : Int) 0
     else
      none
 else
 bif a1 == (2 : Int) then
  (F.zv n a0).bind fun y7 =>
   bif !(y7.2.2.1 == (0 : Int)) then
    some (([],y7.2.1,y7.2.2.1,()))
   else
    (F.zq n y7.1 a1).bind fun y8 =>
     bif !(y8.2.1 == (0 : Int)) then
      some (([],y8.1,y8.2.1,()))
     else
     bif decide ((0 : Int) = 0) && (decide ((0 : Int) ≤ (y7.1.length : Int)) && decide ((16 : Int) * (y7.1.length : Int) ≤ 281474976710656) && decide ((y7.1.length : Int) ≤ 281474976710656)) && true then
      F.zy.L12 n
       (fun e13 ek0 =>
        some ((e13,(0 : Int),(0 : Int),())))
       (fun e4 e5 e6 ek0 =>
        some ((e4,e5,e6,()))) n a1 [] y7.1 (y7.1.length : Int) (0 : Int) 0
     else
      none
 else
 bif a1 == (3 : Int) then
  (F.zv n a0).bind fun y13 =>
   bif !(y13.2.2.1 == (0 : Int)) then
    some (([],y13.2.1,y13.2.2.1,()))
   else
    (F.zq n y13.1 a1).bind fun y14 =>
     bif !(y14.2.1 == (0 : Int)) then
      some (([],y14.1,y14.2.1,()))
     else
     bif decide ((0 : Int) = 0) && (decide ((0 : Int) ≤ (y13.1.length : Int)) && decide ((16 : Int) * (y13.1.length : Int) ≤ 281474976710656) && decide ((y13.1.length : Int) ≤ 281474976710656)) && true then
      F.zy.L12 n
       (fun e13 ek0 =>
        some ((e13,(0 : Int),(0 : Int),())))
       (fun e4 e5 e6 ek0 =>
        some ((e4,e5,e6,()))) n a1 [] y13.1 (y13.1.length : Int) (0 : Int) 0
     else
      none
 else
  some (([],(0 : Int),(29 : Int),()))
noncomputable def F.zbu (n : Nat) (a0 : Z6) (a1 : Int) (a2 : Int) : Option ((Z9) × (Int) × (Int) × Unit):=
 (F.zb0 n a2).bind fun y1 =>
  bif !y1 then
   some (([],(0 : Int),(10 : Int),()))
  else
  bif a1 == (4 : Int) then
   (F.zb n a0).bind fun y2 =>
    bif !(y2.2.2.1 == (0 : Int)) then
     some (([],y2.2.1,y2.2.2.1,()))
    else
    bif decide ((y2.1.length : Int) > a2) then
     some (([],(0 : Int),(27 : Int),()))
    else
     some (([y2.1],(0 : Int),(0 : Int),()))
  else
   (F.zy n a0 a1).bind fun y3 =>
    bif !(y3.2.2.1 == (0 : Int)) then
     some (([],y3.2.1,y3.2.2.1,()))
    else
     (F.zj n y3.1 a2).bind fun y4 =>
      some ((y4.1,y4.2.1,y4.2.2.1,()))
noncomputable def F.zb4 (n : Nat) (a0 : Int) : Option (Bool):=
 bif decide (a0 ≥ (1 : Int)) then
  some (decide (a0 ≤ (65536 : Int)))
 else
  some (false)
noncomputable def F.zbh (n : Nat) (a0 : Z0) : Option (Bool):=
 bif decide ((a0.length : Int) < (20 : Int)) then
  some (true)
 else
 bif (a0.length : Int) == (20 : Int) then
  some (Op.bytesLess a0 ([49,56,52,52,54,55,52,52,48,55,51,55,48,57,53,53,49,54,49,53]) || a0 == ([49,56,52,52,54,55,52,52,48,55,51,55,48,57,53,53,49,54,49,53]))
 else
  some (false)
noncomputable def F.zaa.L3.step {X : Type} (n : Nat) (rec : Z0→Int→Int→Option X) (k0 : Int→Option X) (v0 : Z0) (v3 : Int) (v4 : Int) : Option X:=
 bif decide (v4 < (v0.length : Int)) then
  (idx v0 v4).bind fun x1 =>
   rec v0 (IntKind.wrap .u64 ((IntKind.wrap .u64 ((10 : Int) * v3)) + (IntKind.wrap .u64 (IntKind.wrap .u8 (((x1).toNat) - (48 : Int)))))) (IntKind.wrap .i64 (v4 + (1 : Int)))
 else
  k0 v3
noncomputable def F.zaa.L3 {X : Type} (n : Nat) (k0 : Int→Option X) : Nat→Z0→Int→Int→Option X
 | 0 => fun _ _ _ => none
 | m + 1 => fun v0 v3 v4 => F.zaa.L3.step n (F.zaa.L3 n k0 m) k0 v0 v3 v4
noncomputable def F.zaa (n : Nat) (a0 : Z0) : Option (Int):=
 F.zaa.L3 n
  (fun e3 =>
   some (e3)) n a0 (0 : Int) (0 : Int)
noncomputable def F.ze.L1.step {X : Type} (n : Nat) (rec : Bool→Z0→Int→Bool→Int→Int→Option X) (k0 : Bool→Z0→Int→Bool→Int→Int→Option X) (v0 : Bool) (v1 : Z0) (v2 : Int) (ab0 : Bool) (ab1 : Int) (ab2 : Int) : Option X:=
 bif decide ((v1.length : Int) > (0 : Int)) then
  (idx v1 (0 : Int)).bind fun x1 =>
   bif ((x1).toNat) == (48 : Int) then
    (sub v1 (1 : Int) (v1.length : Int)).bind fun x2 =>
     rec v0 x2 v2 ab0 ab1 ab2
   else
    k0 v0 v1 v2 ab0 ab1 ab2
 else
  k0 v0 v1 v2 ab0 ab1 ab2
noncomputable def F.ze.L1 {X : Type} (n : Nat) (k0 : Bool→Z0→Int→Bool→Int→Int→Option X) : Nat→Bool→Z0→Int→Bool→Int→Int→Option X
 | 0 => fun _ _ _ _ _ _ => none
 | m + 1 => fun v0 v1 v2 ab0 ab1 ab2 => F.ze.L1.step n (F.ze.L1 n k0 m) k0 v0 v1 v2 ab0 ab1 ab2
noncomputable def F.ze.L7.step {X : Type} (n : Nat) (rec : Bool→Z0→Int→Bool→Int→Int→Option X) (k2 : Bool→Z0→Int→Bool→Int→Int→Option X) (v0 : Bool) (v1 : Z0) (v2 : Int) (ab0 : Bool) (ab1 : Int) (ab2 : Int) : Option X:=
 bif decide (v2 < (18 : Int)) then
  (idx v1 (IntKind.wrap .i64 ((v1.length : Int) - (1 : Int)))).bind fun x4 =>
   bif ((x4).toNat) == (48 : Int) then
    (sub v1 (0 : Int) (IntKind.wrap .i64 ((v1.length : Int) - (1 : Int)))).bind fun x5 =>
     rec v0 x5 (IntKind.wrap .i64 (v2 + (1 : Int))) ab0 ab1 ab2
   else
    k2 v0 v1 v2 ab0 ab1 ab2
 else
  k2 v0 v1 v2 ab0 ab1 ab2
noncomputable def F.ze.L7 {X : Type} (n : Nat) (k2 : Bool→Z0→Int→Bool→Int→Int→Option X) : Nat→Bool→Z0→Int→Bool→Int→Int→Option X
 | 0 => fun _ _ _ _ _ _ => none
 | m + 1 => fun v0 v1 v2 ab0 ab1 ab2 => F.ze.L7.step n (F.ze.L7 n k2 m) k2 v0 v1 v2 ab0 ab1 ab2
noncomputable def F.ze.L10.step {X : Type} (n : Nat) (rec : Bool→Z0→Int→Bool→Int→Int→Option X) (k4 : Bool→Z0→Int→Bool→Int→Int→Option X) (v0 : Bool) (v1 : Z0) (v2 : Int) (ab0 : Bool) (ab1 : Int) (ab2 : Int) : Option X:=
 bif decide (v2 > (18 : Int)) then
  bif decide (v1.length + 1 ≤ strMax) then
   rec v0 (v1 ++ ([48])) (IntKind.wrap .i64 (v2 - (1 : Int))) ab0 ab1 ab2
  else
   none
 else
  k4 v0 v1 v2 ab0 ab1 ab2
noncomputable def F.ze.L10 {X : Type} (n : Nat) (k4 : Bool→Z0→Int→Bool→Int→Int→Option X) : Nat→Bool→Z0→Int→Bool→Int→Int→Option X
 | 0 => fun _ _ _ _ _ _ => none
 | m + 1 => fun v0 v1 v2 ab0 ab1 ab2 => F.ze.L10.step n (F.ze.L10 n k4 m) k4 v0 v1 v2 ab0 ab1 ab2
noncomputable def F.ze (n : Nat) (a0 : Bool) (a1 : Z0) (a2 : Int) : Option ((Z17) × (Bool) × Unit):=
 F.ze.L1 n
  (fun e0 e1 e2 g0 g1 g2 =>
   bif e1 == [] then
    some (((false,(0 : Int),(0 : Int),()),true,()))
   else
   bif decide (e2 > (1000 : Int)) then
    some (((false,(0 : Int),(0 : Int),()),false,()))
   else
   bif decide (e2 < (-1000000 : Int)) then
    some (((false,(0 : Int),(0 : Int),()),false,()))
   else
    F.ze.L7 n
     (fun e0 e1 e2 g0 g1 g2 =>
      F.ze.L10 n
       (fun e0 e1 e2 g0 g1 g2 =>
        bif decide (e2 < (-18 : Int)) then
         some (((false,(0 : Int),(0 : Int),()),false,()))
        else
         (F.zbh n e1).bind fun y8 =>
          bif !y8 then
           some (((false,(0 : Int),(0 : Int),()),false,()))
          else
           (F.zaa n e1).bind fun y9 =>
            some (((e0,y9,e2,()),true,()))) n e0 e1 e2 g0 g1 g2) n e0 e1 e2 g0 g1 g2) n a0 a1 a2 false (0 : Int) (0 : Int)
noncomputable def F.zad.go (n : Nat) : Nat→(Int)→Option (Z0)
 | 0 => fun _ => none
 | m + 1 => fun a0 =>
  bif decide (a0 < (10 : Int)) then
   (sub ([48,49,50,51,52,53,54,55,56,57]) a0 (IntKind.wrap .u64 (a0 + (1 : Int)))).bind fun x1 =>
    some (x1)
  else
   (F.zad.go n m (IntKind.wrap .u64 (a0.tdiv (10 : Int)))).bind fun y2 =>
    (sub ([48,49,50,51,52,53,54,55,56,57]) (a0.tmod (10 : Int)) (IntKind.wrap .u64 ((a0.tmod (10 : Int)) + (1 : Int)))).bind fun x3 =>
     bif decide (y2.length + x3.length ≤ strMax) then
      some (y2 ++ x3)
     else
      none
noncomputable def F.zad (n : Nat) (a0 : Int) : Option (Z0):=F.zad.go n n a0
noncomputable def F.zbm (n : Nat) (a0 : Z17) : Option ((Z17) × (Int) × Unit):=
 (F.zad n a0.2.1).bind fun y1 =>
  (F.ze n a0.1 y1 a0.2.2.1).bind fun y2 =>
   bif !y2.2.1 then
    some (((false,(0 : Int),(0 : Int),()),(10 : Int),()))
   else
    some (((y2.1.1,y2.1.2.1,y2.1.2.2.1,()),(0 : Int),()))
noncomputable def F.zac.L2.step {X : Type} (n : Nat) (rec : Z0→Int→Option X) (k0 : Z0→Option X) (kr : Bool→Option X) (v0 : Z0) (v3 : Int) : Option X:=
 bif decide (v3 < (v0.length : Int)) then
  (idx v0 v3).bind fun x1 =>
   bif decide (((x1).toNat) ≥ (97 : Int)) then
    bif decide (((x1).toNat) ≤ (122 : Int)) then
     rec v0 (IntKind.wrap .i64 (v3 + (1 : Int)))
    else
    bif decide (((x1).toNat) ≥ (65 : Int)) then
     bif decide (((x1).toNat) ≤ (90 : Int)) then
      rec v0 (IntKind.wrap .i64 (v3 + (1 : Int)))
     else
     bif decide (((x1).toNat) ≥ (48 : Int)) then
      bif decide (((x1).toNat) ≤ (57 : Int)) then
       rec v0 (IntKind.wrap .i64 (v3 + (1 : Int)))
      else
      bif ((x1).toNat) == (95 : Int) then
       rec v0 (IntKind.wrap .i64 (v3 + (1 : Int)))
      else
      bif ((x1).toNat) == (46 : Int) then
       rec v0 (IntKind.wrap .i64 (v3 + (1 : Int)))
      else
      bif !(((x1).toNat) == (45 : Int)) then
       kr false
      else
       rec v0 (IntKind.wrap .i64 (v3 + (1 : Int)))
     else
     bif ((x1).toNat) == (95 : Int) then
      rec v0 (IntKind.wrap .i64 (v3 + (1 : Int)))
     else
     bif ((x1).toNat) == (46 : Int) then
      rec v0 (IntKind.wrap .i64 (v3 + (1 : Int)))
     else
     bif !(((x1).toNat) == (45 : Int)) then
      kr false
     else
      rec v0 (IntKind.wrap .i64 (v3 + (1 : Int)))
    else
    bif decide (((x1).toNat) ≥ (48 : Int)) then
     bif decide (((x1).toNat) ≤ (57 : Int)) then
      rec v0 (IntKind.wrap .i64 (v3 + (1 : Int)))
     else
     bif ((x1).toNat) == (95 : Int) then
      rec v0 (IntKind.wrap .i64 (v3 + (1 : Int)))
     else
     bif ((x1).toNat) == (46 : Int) then
      rec v0 (IntKind.wrap .i64 (v3 + (1 : Int)))
     else
     bif !(((x1).toNat) == (45 : Int)) then
      kr false
     else
      rec v0 (IntKind.wrap .i64 (v3 + (1 : Int)))
    else
    bif ((x1).toNat) == (95 : Int) then
     rec v0 (IntKind.wrap .i64 (v3 + (1 : Int)))
    else
    bif ((x1).toNat) == (46 : Int) then
     rec v0 (IntKind.wrap .i64 (v3 + (1 : Int)))
    else
    bif !(((x1).toNat) == (45 : Int)) then
     kr false
    else
     rec v0 (IntKind.wrap .i64 (v3 + (1 : Int)))
   else
   bif decide (((x1).toNat) ≥ (65 : Int)) then
    bif decide (((x1).toNat) ≤ (90 : Int)) then
     rec v0 (IntKind.wrap .i64 (v3 + (1 : Int)))
    else
    bif decide (((x1).toNat) ≥ (48 : Int)) then
     bif decide (((x1).toNat) ≤ (57 : Int)) then
      rec v0 (IntKind.wrap .i64 (v3 + (1 : Int)))
     else
     bif ((x1).toNat) == (95 : Int) then
      rec v0 (IntKind.wrap .i64 (v3 + (1 : Int)))
     else
     bif ((x1).toNat) == (46 : Int) then
      rec v0 (IntKind.wrap .i64 (v3 + (1 : Int)))
     else
     bif !(((x1).toNat) == (45 : Int)) then
      kr false
     else
      rec v0 (IntKind.wrap .i64 (v3 + (1 : Int)))
    else
    bif ((x1).toNat) == (95 : Int) then
     rec v0 (IntKind.wrap .i64 (v3 + (1 : Int)))
    else
    bif ((x1).toNat) == (46 : Int) then
     rec v0 (IntKind.wrap .i64 (v3 + (1 : Int)))
    else
    bif !(((x1).toNat) == (45 : Int)) then
     kr false
    else
     rec v0 (IntKind.wrap .i64 (v3 + (1 : Int)))
   else
   bif decide (((x1).toNat) ≥ (48 : Int)) then
    bif decide (((x1).toNat) ≤ (57 : Int)) then
     rec v0 (IntKind.wrap .i64 (v3 + (1 : Int)))
    else
    bif ((x1).toNat) == (95 : Int) then
     rec v0 (IntKind.wrap .i64 (v3 + (1 : Int)))
    else
    bif ((x1).toNat) == (46 : Int) then
     rec v0 (IntKind.wrap .i64 (v3 + (1 : Int)))
    else
    bif !(((x1).toNat) == (45 : Int)) then
     kr false
    else
     rec v0 (IntKind.wrap .i64 (v3 + (1 : Int)))
   else
   bif ((x1).toNat) == (95 : Int) then
    rec v0 (IntKind.wrap .i64 (v3 + (1 : Int)))
   else
   bif ((x1).toNat) == (46 : Int) then
    rec v0 (IntKind.wrap .i64 (v3 + (1 : Int)))
   else
   bif !(((x1).toNat) == (45 : Int)) then
    kr false
   else
    rec v0 (IntKind.wrap .i64 (v3 + (1 : Int)))
 else
  k0 v0
noncomputable def F.zac.L2 {X : Type} (n : Nat) (k0 : Z0→Option X) (kr : Bool→Option X) : Nat→Z0→Int→Option X
 | 0 => fun _ _ => none
 | m + 1 => fun v0 v3 => F.zac.L2.step n (F.zac.L2 n k0 kr m) k0 kr v0 v3
noncomputable def F.zac (n : Nat) (a0 : Z0) : Option (Bool):=
 F.zac.L2 n
  (fun e0 =>
   bif decide ((e0.length : Int) ≥ (1 : Int)) then
    some (decide ((e0.length : Int) ≤ (200 : Int)))
   else
    some (false))
  (fun e2 =>
   some (e2)) n a0 (0 : Int)
noncomputable def F.zbv (n : Nat) (a0 : Int) : Option (Z0):=
 bif decide (52 + 10 ≤ strMax) then
  bif decide (((([65,66,67,68,69,70,71,72,73,74,75,76,77,78,79,80,81,82,83,84,85,86,87,88,89,90,97,98,99,100,101,102,103,104,105,106,107,108,109,110,111,112,113,114,115,116,117,118,119,120,121,122]) ++ ([48,49,50,51,52,53,54,55,56,57])).length) + 3 ≤ strMax) then
   bif a0 == (1 : Int) then
    some ((([65,66,67,68,69,70,71,72,73,74,75,76,77,78,79,80,81,82,83,84,85,86,87,88,89,90,97,98,99,100,101,102,103,104,105,106,107,108,109,110,111,112,113,114,115,116,117,118,119,120,121,122]) ++ ([48,49,50,51,52,53,54,55,56,57])) ++ ([95,46,45]))
   else
   bif a0 == (2 : Int) then
    bif decide ((((([65,66,67,68,69,70,71,72,73,74,75,76,77,78,79,80,81,82,83,84,85,86,87,88,89,90,97,98,99,100,101,102,103,104,105,106,107,108,109,110,111,112,113,114,115,116,117,118,119,120,121,122]) ++ ([48,49,50,51,52,53,54,55,56,57])) ++ ([95,46,45])).length) + 1 ≤ strMax) then
     some (((([65,66,67,68,69,70,71,72,73,74,75,76,77,78,79,80,81,82,83,84,85,86,87,88,89,90,97,98,99,100,101,102,103,104,105,106,107,108,109,110,111,112,113,114,115,116,117,118,119,120,121,122]) ++ ([48,49,50,51,52,53,54,55,56,57])) ++ ([95,46,45])) ++ ([47]))
    else
     none
   else
   bif a0 == (3 : Int) then
    bif decide ((((([65,66,67,68,69,70,71,72,73,74,75,76,77,78,79,80,81,82,83,84,85,86,87,88,89,90,97,98,99,100,101,102,103,104,105,106,107,108,109,110,111,112,113,114,115,116,117,118,119,120,121,122]) ++ ([48,49,50,51,52,53,54,55,56,57])) ++ ([95,46,45])).length) + 27 ≤ strMax) then
     some (((([65,66,67,68,69,70,71,72,73,74,75,76,77,78,79,80,81,82,83,84,85,86,87,88,89,90,97,98,99,100,101,102,103,104,105,106,107,108,109,110,111,112,113,114,115,116,117,118,119,120,121,122]) ++ ([48,49,50,51,52,53,54,55,56,57])) ++ ([95,46,45])) ++ ([47,33,34,35,36,37,38,39,40,41,42,43,58,59,60,61,62,63,64,91,92,93,94,96,123,125,126]))
    else
     none
   else
   bif a0 == (4 : Int) then
    some ([48,49,50,51,52,53,54,55,56,57])
   else
    some ([])
  else
   none
 else
  none
noncomputable def F.zat.L3.step {X : Type} (n : Nat) (rec : Int→Z0→Int→Option X) (k0 : Unit→Option X) (kr : Bool→Option X) (v1 : Int) (v5 : Z0) (v6 : Int) : Option X:=
 bif decide (v6 < (v5.length : Int)) then
  (idx v5 v6).bind fun x2 =>
   bif ((x2).toNat) == v1 then
    kr true
   else
    rec v1 v5 (IntKind.wrap .i64 (v6 + (1 : Int)))
 else
  k0 ()
noncomputable def F.zat.L3 {X : Type} (n : Nat) (k0 : Unit→Option X) (kr : Bool→Option X) : Nat→Int→Z0→Int→Option X
 | 0 => fun _ _ _ => none
 | m + 1 => fun v1 v5 v6 => F.zat.L3.step n (F.zat.L3 n k0 kr m) k0 kr v1 v5 v6
noncomputable def F.zat (n : Nat) (a0 : Int) (a1 : Int) : Option (Bool):=
 (F.zbv n a0).bind fun y1 =>
  F.zat.L3 n
   (fun (_ : Unit) =>
    some (false))
   (fun e4 =>
    some (e4)) n a1 y1 (0 : Int)
noncomputable def F.zap.L2.step {X : Type} (n : Nat) (rec : Int→Z0→Int→Option X) (k0 : Unit→Option X) (kr : Int→Option X) (v0 : Int) (v1 : Z0) (v5 : Int) : Option X:=
 bif decide (v5 < (v1.length : Int)) then
  (idx v1 v5).bind fun x1 =>
   (F.zat n v0 ((x1).toNat)).bind fun y2 =>
    bif !y2 then
     kr v5
    else
     rec v0 v1 (IntKind.wrap .i64 (v5 + (1 : Int)))
 else
  k0 ()
noncomputable def F.zap.L2 {X : Type} (n : Nat) (k0 : Unit→Option X) (kr : Int→Option X) : Nat→Int→Z0→Int→Option X
 | 0 => fun _ _ _ => none
 | m + 1 => fun v0 v1 v5 => F.zap.L2.step n (F.zap.L2 n k0 kr m) k0 kr v0 v1 v5
noncomputable def F.zap (n : Nat) (a0 : Int) (a1 : Z0) : Option (Int):=
 F.zap.L2 n
  (fun (_ : Unit) =>
   some ((-1 : Int)))
  (fun e4 =>
   some (e4)) n a0 a1 (0 : Int)
noncomputable def F.zbp (n : Nat) (a0 : Int) (a1 : Z0) (a2 : Int) (a3 : Int) : Option (Z16):=
 bif decide ((a1.length : Int) < a2) then
  some (((13 : Int),(a1.length : Int),()))
 else
 bif decide ((a1.length : Int) > a3) then
  some (((12 : Int),a3,()))
 else
  (F.zap n a0 a1).bind fun y1 =>
   bif decide (y1 ≥ (0 : Int)) then
    some (((14 : Int),y1,()))
   else
    some (((0 : Int),(0 : Int),()))
noncomputable def F.zcd (n : Nat) (a0 : Z18) : Option (Bool):=
 (F.zbp n (2 : Int) a0.1 (1 : Int) (64 : Int)).bind fun y1 =>
  bif (y1.1 == (0 : Int)) && (y1.2.1 == (0 : Int)) then
   (F.zbp n (3 : Int) a0.2.1 (0 : Int) (100 : Int)).bind fun y2 =>
    some ((y2.1 == (0 : Int)) && (y2.2.1 == (0 : Int)))
  else
   some (false)
noncomputable def F.zbw (n : Nat) (a0 : Z18) : Option (Int):=
 (F.zcd n (a0.1,a0.2.1,())).bind fun y1 =>
  bif !y1 then
   some ((19 : Int))
  else
   some ((0 : Int))
noncomputable def F.zw.L12.step {X : Type} (n : Nat) (rec : Int→Z0→Int→Z2→Int→Z4→Int→Option X) (k0 : Z0→Int→Z2→Int→Z4→Int→Option X) (kr : Int→Z0→Int→Z2→Int→Z4→Int→Option X) (v5 : Int) (ab0 : Z0) (ab1 : Int) (ab2 : Z2) (ab3 : Int) (ab4 : Z4) (ab5 : Int) : Option X:=
 bif decide (v5 < (ab4.length : Int)) then
  (idx ab4 v5).bind fun x2 =>
   (F.zbw n (x2.1,x2.2,())).bind fun y3 =>
    bif !(y3 == (0 : Int)) then
     kr (19 : Int) ab0 ab1 ab2 ab3 ab4 ab5
    else
     rec (IntKind.wrap .i64 (v5 + (1 : Int))) ab0 ab1 ab2 ab3 ab4 ab5
 else
  k0 ab0 ab1 ab2 ab3 ab4 ab5
noncomputable def F.zw.L12 {X : Type} (n : Nat) (k0 : Z0→Int→Z2→Int→Z4→Int→Option X) (kr : Int→Z0→Int→Z2→Int→Z4→Int→Option X) : Nat→Int→Z0→Int→Z2→Int→Z4→Int→Option X
 | 0 => fun _ _ _ _ _ _ _ => none
 | m + 1 => fun v5 ab0 ab1 ab2 ab3 ab4 ab5 => F.zw.L12.step n (F.zw.L12 n k0 kr m) k0 kr v5 ab0 ab1 ab2 ab3 ab4 ab5
noncomputable def F.zw (n : Nat) (a0 : Z7) (a1 : Bool) : Option (Int):=
 (F.zac n a0.1).bind fun y1 =>
  bif !y1 then
   some ((15 : Int))
  else
  bif decide (a0.2.1 < (1 : Int)) then
   some ((16 : Int))
  else
  bif decide (a0.2.1 > (5 : Int)) then
   some ((16 : Int))
  else
  bif !a1 then
   some ((17 : Int))
  else
  bif decide ((a0.2.2.1.length : Int) < (1 : Int)) then
   some ((17 : Int))
  else
  bif decide ((a0.2.2.1.length : Int) > (64 : Int)) then
   some ((17 : Int))
  else
  bif decide (a0.2.2.2.1 < (1 : Int)) then
   some ((18 : Int))
  else
  bif decide (a0.2.2.2.1 > (1000000 : Int)) then
   some ((18 : Int))
  else
  bif a0.2.1 == (2 : Int) then
   bif !(a0.2.2.2.1 == (1000000 : Int)) then
    some ((18 : Int))
   else
   bif decide ((a0.2.2.2.2.1.length : Int) > (32 : Int)) then
    some ((19 : Int))
   else
    F.zw.L12 n
     (fun g0 g1 g2 g3 g4 g5 =>
      bif decide (g5 < (0 : Int)) then
       some ((20 : Int))
      else
      bif decide (g5 > (1099511627776 : Int)) then
       some ((20 : Int))
      else
       some ((0 : Int)))
     (fun e4 g0 g1 g2 g3 g4 g5 =>
      some (e4)) n (0 : Int) a0.1 a0.2.1 a0.2.2.1 a0.2.2.2.1 a0.2.2.2.2.1 a0.2.2.2.2.2.1
  else
  bif decide ((a0.2.2.2.2.1.length : Int) > (32 : Int)) then
   some ((19 : Int))
  else
   F.zw.L12 n
    (fun g0 g1 g2 g3 g4 g5 =>
     bif decide (g5 < (0 : Int)) then
      some ((20 : Int))
     else
     bif decide (g5 > (1099511627776 : Int)) then
      some ((20 : Int))
     else
      some ((0 : Int)))
    (fun e4 g0 g1 g2 g3 g4 g5 =>
     some (e4)) n (0 : Int) a0.1 a0.2.1 a0.2.2.1 a0.2.2.2.1 a0.2.2.2.2.1 a0.2.2.2.2.2.1
noncomputable def F.zz.L2.step {X : Type} (n : Nat) (rec : Z0→Z0→Int→Option X) (k0 : Z0→Z0→Option X) (kr : Bool→Option X) (v0 : Z0) (v1 : Z0) (v5 : Int) : Option X:=
 bif decide (v5 < (v0.length : Int)) then
  bif decide (v5 < (v1.length : Int)) then
   (idx v0 v5).bind fun x1 =>
    (idx v1 v5).bind fun x2 =>
     bif !(((x1).toNat : Int) == ((x2).toNat)) then
      (idx v0 v5).bind fun x3 =>
       (idx v1 v5).bind fun x4 =>
        kr (decide (((x3).toNat : Int) < ((x4).toNat)))
     else
      rec v0 v1 (IntKind.wrap .i64 (v5 + (1 : Int)))
  else
   k0 v0 v1
 else
  k0 v0 v1
noncomputable def F.zz.L2 {X : Type} (n : Nat) (k0 : Z0→Z0→Option X) (kr : Bool→Option X) : Nat→Z0→Z0→Int→Option X
 | 0 => fun _ _ _ => none
 | m + 1 => fun v0 v1 v5 => F.zz.L2.step n (F.zz.L2 n k0 kr m) k0 kr v0 v1 v5
noncomputable def F.zz (n : Nat) (a0 : Z0) (a1 : Z0) : Option (Bool):=
 F.zz.L2 n
  (fun e0 e1 =>
   some (decide ((e0.length : Int) < (e1.length : Int))))
  (fun e4 =>
   some (e4)) n a0 a1 (0 : Int)
noncomputable def F.zb9 (n : Nat) (a0 : Z18) (a1 : Z18) : Option (Bool):=
 (F.zz n a0.1 a1.1).bind fun y1 =>
  bif y1 then
   some (true)
  else
  bif a0.1 == a1.1 then
   (F.zz n a0.2.1 a1.2.1).bind fun y2 =>
    some (y2)
  else
   some (false)
noncomputable def F.zi.L8.step {X : Type} (n : Nat) (rec : Z4→Z4→Int→Z4→Bool→Int→Nat→Nat→Option X) (k2 : Z4→Int→Z4→Bool→Nat→Option X) (v0 : Z4) (v3 : Z4) (v4 : Int) (v5 : Z4) (v6 : Bool) (v7 : Int) (vk0 : Nat) (vk1 : Nat) : Option X:=
 bif decide (v7 < (v3.length : Int)) then
  bif !v6 then
   (idx v3 v7).bind fun x1 =>
    (idx v0 v4).bind fun x2 =>
     (F.zb9 n (x1.1,x1.2,()) (x2.1,x2.2,())).bind fun y3 =>
      bif !y3 then
       (idx v3 v7).bind fun x4 =>
        (idx v0 v4).bind fun x5 =>
         bif !((x4.1 == x5.1) && (x4.2 == x5.2)) then
          (idx v0 v4).bind fun x6 =>
           bif decide ((v5.length + 1) * 32 ≤ 2 ^ 46) && decide (0 < 32 ∧ 32 ≤ 2 ^ 20) then
            bif Nat.beq vk1 v5.length then
             (idx v3 v7).bind fun x7 =>
              bif decide ((((v5 ++ ([(x6.1,x6.2)])).length) + 1) * 32 ≤ 2 ^ 46) && decide (0 < 32 ∧ 32 ≤ 2 ^ 20) then
               bif Nat.beq ((v5 ++ ([(x6.1,x6.2)])).length) ((v5 ++ ([(x6.1,x6.2)])).length) then
                rec v0 v3 v4 ((v5 ++ ([(x6.1,x6.2)])) ++ ([(x7.1,x7.2)])) true (IntKind.wrap .i64 (v7 + (1 : Int))) vk0 (((v5 ++ ([(x6.1,x6.2)])) ++ ([(x7.1,x7.2)])).length)
               else
                none
              else
               none
            else
             none
           else
            none
         else
          (idx v3 v7).bind fun x8 =>
           bif decide ((v5.length + 1) * 32 ≤ 2 ^ 46) && decide (0 < 32 ∧ 32 ≤ 2 ^ 20) then
            bif Nat.beq vk1 v5.length then
             rec v0 v3 v4 (v5 ++ ([(x8.1,x8.2)])) true (IntKind.wrap .i64 (v7 + (1 : Int))) vk0 ((v5 ++ ([(x8.1,x8.2)])).length)
            else
             none
           else
            none
      else
       (idx v3 v7).bind fun x9 =>
        bif decide ((v5.length + 1) * 32 ≤ 2 ^ 46) && decide (0 < 32 ∧ 32 ≤ 2 ^ 20) then
         bif Nat.beq vk1 v5.length then
          rec v0 v3 v4 (v5 ++ ([(x9.1,x9.2)])) v6 (IntKind.wrap .i64 (v7 + (1 : Int))) vk0 ((v5 ++ ([(x9.1,x9.2)])).length)
         else
          none
        else
         none
  else
   (idx v3 v7).bind fun x10 =>
    bif decide ((v5.length + 1) * 32 ≤ 2 ^ 46) && decide (0 < 32 ∧ 32 ≤ 2 ^ 20) then
     bif Nat.beq vk1 v5.length then
      rec v0 v3 v4 (v5 ++ ([(x10.1,x10.2)])) v6 (IntKind.wrap .i64 (v7 + (1 : Int))) vk0 ((v5 ++ ([(x10.1,x10.2)])).length)
     else
      none
    else
     none
 else
  k2 v0 v4 v5 v6 vk1
noncomputable def F.zi.L8 {X : Type} (n : Nat) (k2 : Z4→Int→Z4→Bool→Nat→Option X) : Nat→Z4→Z4→Int→Z4→Bool→Int→Nat→Nat→Option X
 | 0 => fun _ _ _ _ _ _ _ _ => none
 | m + 1 => fun v0 v3 v4 v5 v6 v7 vk0 vk1 => F.zi.L8.step n (F.zi.L8 n k2 m) k2 v0 v3 v4 v5 v6 v7 vk0 vk1
noncomputable def F.zi.L3.step {X : Type} (n : Nat) (rec : Z4→Z4→Int→Nat→Option X) (k0 : Z4→Nat→Option X) (v0 : Z4) (v3 : Z4) (v4 : Int) (vk0 : Nat) : Option X:=
 bif decide (v4 < (v0.length : Int)) then
  F.zi.L8 n
   (fun e0 e4 e5 e6 ek0 =>
    bif !e6 then
     (idx e0 e4).bind fun x12 =>
      bif decide ((e5.length + 1) * 32 ≤ 2 ^ 46) && decide (0 < 32 ∧ 32 ≤ 2 ^ 20) then
       bif Nat.beq ek0 e5.length then
        rec e0 (e5 ++ ([(x12.1,x12.2)])) (IntKind.wrap .i64 (e4 + (1 : Int))) ((e5 ++ ([(x12.1,x12.2)])).length)
       else
        none
      else
       none
    else
     rec e0 e5 (IntKind.wrap .i64 (e4 + (1 : Int))) ek0) n v0 v3 v4 [] false (0 : Int) vk0 0
 else
  k0 v3 vk0
noncomputable def F.zi.L3 {X : Type} (n : Nat) (k0 : Z4→Nat→Option X) : Nat→Z4→Z4→Int→Nat→Option X
 | 0 => fun _ _ _ _ => none
 | m + 1 => fun v0 v3 v4 vk0 => F.zi.L3.step n (F.zi.L3 n k0 m) k0 v0 v3 v4 vk0
noncomputable def F.zi (n : Nat) (a0 : Z4) : Option (Z4):=
 F.zi.L3 n
  (fun e3 ek0 =>
   some (e3)) n a0 [] (0 : Int) 0
noncomputable def F.z7.L4.step {X : Type} (n : Nat) (rec : Bool→Z2→Int→Z0→Int→Z2→Int→Z4→Int→Z0→Int→Z2→Int→Z4→Int→Nat→Nat→Nat→Option X) (k0 : Bool→Z2→Z0→Int→Z2→Int→Z4→Int→Z0→Int→Z2→Int→Z4→Int→Nat→Nat→Nat→Option X) (v4 : Bool) (v5 : Z2) (v6 : Int) (ab0 : Z0) (ab1 : Int) (ab2 : Z2) (ab3 : Int) (ab4 : Z4) (ab5 : Int) (bb0 : Z0) (bb1 : Int) (bb2 : Z2) (bb3 : Int) (bb4 : Z4) (bb5 : Int) (vk0 : Nat) (vk1 : Nat) (vk2 : Nat) : Option X:=
 bif decide (v6 < (ab2.length : Int)) then
  (idx ab2 v6).bind fun x1 =>
   (F.zbm n (x1.1,x1.2.1,x1.2.2,())).bind fun y2 =>
    bif v4 then
     bif decide ((v5.length + 1) * 24 ≤ 2 ^ 46) && decide (0 < 24 ∧ 24 ≤ 2 ^ 20) then
      bif Nat.beq vk0 v5.length then
       rec (y2.2.1 == (0 : Int)) (v5 ++ ([(y2.1.1,y2.1.2.1,y2.1.2.2.1)])) (IntKind.wrap .i64 (v6 + (1 : Int))) ab0 ab1 ab2 ab3 ab4 ab5 bb0 bb1 bb2 bb3 bb4 bb5 ((v5 ++ ([(y2.1.1,y2.1.2.1,y2.1.2.2.1)])).length) vk1 vk2
      else
       none
     else
      none
    else
    bif decide ((v5.length + 1) * 24 ≤ 2 ^ 46) && decide (0 < 24 ∧ 24 ≤ 2 ^ 20) then
     bif Nat.beq vk0 v5.length then
      rec false (v5 ++ ([(y2.1.1,y2.1.2.1,y2.1.2.2.1)])) (IntKind.wrap .i64 (v6 + (1 : Int))) ab0 ab1 ab2 ab3 ab4 ab5 bb0 bb1 bb2 bb3 bb4 bb5 ((v5 ++ ([(y2.1.1,y2.1.2.1,y2.1.2.2.1)])).length) vk1 vk2
     else
      none
    else
     none
 else
  k0 v4 v5 ab0 ab1 ab2 ab3 ab4 ab5 bb0 bb1 bb2 bb3 bb4 bb5 vk0 vk1 vk2
noncomputable def F.z7.L4 {X : Type} (n : Nat) (k0 : Bool→Z2→Z0→Int→Z2→Int→Z4→Int→Z0→Int→Z2→Int→Z4→Int→Nat→Nat→Nat→Option X) : Nat→Bool→Z2→Int→Z0→Int→Z2→Int→Z4→Int→Z0→Int→Z2→Int→Z4→Int→Nat→Nat→Nat→Option X
 | 0 => fun _ _ _ _ _ _ _ _ _ _ _ _ _ _ _ _ _ _ => none
 | m + 1 => fun v4 v5 v6 ab0 ab1 ab2 ab3 ab4 ab5 bb0 bb1 bb2 bb3 bb4 bb5 vk0 vk1 vk2 => F.z7.L4.step n (F.z7.L4 n k0 m) k0 v4 v5 v6 ab0 ab1 ab2 ab3 ab4 ab5 bb0 bb1 bb2 bb3 bb4 bb5 vk0 vk1 vk2
noncomputable def F.z7 (n : Nat) (a0 : Z7) : Option ((Z7) × (Int) × Unit):=
 F.z7.L4 n
  (fun e4 e5 g0 g1 g2 g3 g4 g5 h0 h1 h2 h3 h4 h5 ek0 ek1 ek2 =>
   (F.zw n (g0,g1,g2,g3,g4,g5,()) e4).bind fun y4 =>
    bif !(y4 == (0 : Int)) then
     some ((([],(0 : Int),[],(0 : Int),[],(0 : Int),()),y4,()))
    else
     (F.zi n g4).bind fun y5 =>
      some (((g0,g1,e5,g3,y5,g5,()),(0 : Int),()))) n true [] (0 : Int) a0.1 a0.2.1 a0.2.2.1 a0.2.2.2.1 a0.2.2.2.2.1 a0.2.2.2.2.2.1 [] (0 : Int) [] (0 : Int) [] (0 : Int) 0 0 0
noncomputable def F.z8.L5.step {X : Type} (n : Nat) (rec : Z6→Z6→Int→Nat→Option X) (k0 : Z6→Nat→Option X) (kr : Z6→Int→Int→Nat→Option X) (v0 : Z6) (v5 : Z6) (v6 : Int) (vk0 : Nat) : Option X:=
 bif decide (v6 < (v0.length : Int)) then
  (idx v0 v6).bind fun x1 =>
   (F.z7 n (x1.1,x1.2.1,x1.2.2.1,x1.2.2.2.1,x1.2.2.2.2.1,x1.2.2.2.2.2,())).bind fun y2 =>
    bif !(y2.2.1 == (0 : Int)) then
     kr [] v6 y2.2.1 0
    else
    bif decide ((v5.length + 1) * 88 ≤ 2 ^ 46) && decide (0 < 88 ∧ 88 ≤ 2 ^ 20) then
     bif Nat.beq vk0 v5.length then
      rec v0 (v5 ++ ([(y2.1.1,y2.1.2.1,y2.1.2.2.1,y2.1.2.2.2.1,y2.1.2.2.2.2.1,y2.1.2.2.2.2.2.1)])) (IntKind.wrap .i64 (v6 + (1 : Int))) ((v5 ++ ([(y2.1.1,y2.1.2.1,y2.1.2.2.1,y2.1.2.2.2.1,y2.1.2.2.2.2.1,y2.1.2.2.2.2.2.1)])).length)
     else
      none
    else
     none
 else
  k0 v5 vk0
noncomputable def F.z8.L5 {X : Type} (n : Nat) (k0 : Z6→Nat→Option X) (kr : Z6→Int→Int→Nat→Option X) : Nat→Z6→Z6→Int→Nat→Option X
 | 0 => fun _ _ _ _ => none
 | m + 1 => fun v0 v5 v6 vk0 => F.z8.L5.step n (F.z8.L5 n k0 kr m) k0 kr v0 v5 v6 vk0
noncomputable def F.z8 (n : Nat) (a0 : Z6) : Option ((Z6) × (Int) × (Int) × Unit):=
 bif decide ((a0.length : Int) > (1000 : Int)) then
  some (([],(1000 : Int),(12 : Int),()))
 else
  F.z8.L5 n
   (fun e5 ek0 =>
    some ((e5,(0 : Int),(0 : Int),())))
   (fun e2 e3 e4 ek0 =>
    some ((e2,e3,e4,()))) n a0 [] (0 : Int) 0
noncomputable def F.zp.L2.step {X : Type} (n : Nat) (rec : Int→Z8→Nat→Option X) (k0 : Int→Z8→Nat→Option X) (v0 : Int) (v3 : Z8) (vk0 : Nat) : Option X:=
 bif decide (v0 > (127 : Int)) then
  bif decide ((v3.length + 1) * 1 ≤ 2 ^ 46) && decide (0 < 1 ∧ 1 ≤ 2 ^ 20) then
   bif Nat.beq vk0 v3.length then
    rec (IntKind.wrap .u64 (v0.tdiv (128 : Int))) (v3 ++ ([UInt8.ofNat ((IntKind.wrap .u8 (IntKind.wrap .u64 ((v0.tmod (128 : Int)) + (128 : Int))))).toNat])) ((v3 ++ ([UInt8.ofNat ((IntKind.wrap .u8 (IntKind.wrap .u64 ((v0.tmod (128 : Int)) + (128 : Int))))).toNat])).length)
   else
    none
  else
   none
 else
  k0 v0 v3 vk0
noncomputable def F.zp.L2 {X : Type} (n : Nat) (k0 : Int→Z8→Nat→Option X) : Nat→Int→Z8→Nat→Option X
 | 0 => fun _ _ _ => none
 | m + 1 => fun v0 v3 vk0 => F.zp.L2.step n (F.zp.L2 n k0 m) k0 v0 v3 vk0
noncomputable def F.zp (n : Nat) (a0 : Int) : Option (Z8):=
 F.zp.L2 n
  (fun e0 e3 ek0 =>
   bif decide ((e3.length + 1) * 1 ≤ 2 ^ 46) && decide (0 < 1 ∧ 1 ≤ 2 ^ 20) then
    bif Nat.beq ek0 e3.length then
     ((bif Nat.beq ((e3 ++ ([UInt8.ofNat ((IntKind.wrap .u8 (e0))).toNat])).length) ((e3 ++ ([UInt8.ofNat ((IntKind.wrap .u8 (e0))).toNat])).length) then some (e3 ++ ([UInt8.ofNat ((IntKind.wrap .u8 (e0))).toNat]),([none] : List (Option Nat))) else none).bind fun x => some x.1)
    else
     none
   else
    none) n a0 [] 0
noncomputable def F.zch (n : Nat) (a0 : Int) : Option (Int):=
 bif decide (a0 ≥ (0 : Int)) then
  some ((IntKind.wrap .u64 ((2 : Int) * (IntKind.wrap .u64 (a0)))))
 else
  some ((IntKind.wrap .u64 ((IntKind.wrap .u64 (0 - (IntKind.wrap .u64 ((2 : Int) * (IntKind.wrap .u64 (a0)))))) - (1 : Int))))
noncomputable def F.zbn (n : Nat) (a0 : Z17) : Option (Z8):=
 (F.zch n a0.2.2.1).bind fun y1 =>
  bif a0.1 then
   (F.zp n (IntKind.wrap .u64 ((IntKind.wrap .u64 ((2 : Int) * y1)) + (1 : Int)))).bind fun y2 =>
    (F.zp n a0.2.1).bind fun y3 =>
     bif decide ((y2.length + y3.length) * 1 ≤ 2 ^ 46) && decide (0 < 1 ∧ 1 ≤ 2 ^ 20) then
      bif Nat.beq y2.length y2.length then
       ((bif Nat.beq ((y2 ++ y3).length) ((y2 ++ y3).length) then some (y2 ++ y3,([none,some y3.length] : List (Option Nat))) else none).bind fun x => some x.1)
      else
       none
     else
      none
  else
   (F.zp n (IntKind.wrap .u64 ((2 : Int) * y1))).bind fun y4 =>
    (F.zp n a0.2.1).bind fun y5 =>
     bif decide ((y4.length + y5.length) * 1 ≤ 2 ^ 46) && decide (0 < 1 ∧ 1 ≤ 2 ^ 20) then
      bif Nat.beq y4.length y4.length then
       ((bif Nat.beq ((y4 ++ y5).length) ((y4 ++ y5).length) then some (y4 ++ y5,([none,some y5.length] : List (Option Nat))) else none).bind fun x => some x.1)
      else
       none
     else
      none
noncomputable def F.za.L2_ref15_Dict_Find.step {X : Type} (n : Nat) (rec : Z0→Int→Z10→Z0→Int→Z2→Int→Z4→Int→Nat→Nat→Option X) (k0 : Z10→Z0→Int→Z2→Int→Z4→Int→Nat→Nat→Option X) (kr : Int→Z10→Z0→Int→Z2→Int→Z4→Int→Nat→Nat→Option X) (v1 : Z0) (v5 : Int) (ab0 : Z10) (bb0 : Z0) (bb1 : Int) (bb2 : Z2) (bb3 : Int) (bb4 : Z4) (bb5 : Int) (vk0 : Nat) (vk1 : Nat) : Option X:=
 bif decide (v5 < (ab0.length : Int)) then
  (idx ab0 v5).bind fun x3 =>
   bif x3 == v1 then
    kr (IntKind.wrap .i64 (v5 + (1 : Int))) ab0 bb0 bb1 bb2 bb3 bb4 bb5 vk0 vk1
   else
    rec v1 (IntKind.wrap .i64 (v5 + (1 : Int))) ab0 bb0 bb1 bb2 bb3 bb4 bb5 vk0 vk1
 else
  k0 ab0 bb0 bb1 bb2 bb3 bb4 bb5 vk0 vk1
noncomputable def F.za.L2_ref15_Dict_Find {X : Type} (n : Nat) (k0 : Z10→Z0→Int→Z2→Int→Z4→Int→Nat→Nat→Option X) (kr : Int→Z10→Z0→Int→Z2→Int→Z4→Int→Nat→Nat→Option X) : Nat→Z0→Int→Z10→Z0→Int→Z2→Int→Z4→Int→Nat→Nat→Option X
 | 0 => fun _ _ _ _ _ _ _ _ _ _ _ => none
 | m + 1 => fun v1 v5 ab0 bb0 bb1 bb2 bb3 bb4 bb5 vk0 vk1 => F.za.L2_ref15_Dict_Find.step n (F.za.L2_ref15_Dict_Find n k0 kr m) k0 kr v1 v5 ab0 bb0 bb1 bb2 bb3 bb4 bb5 vk0 vk1
noncomputable def F.za.L5_ref16_Put.step {X : Type} (n : Nat) (rec : Z8→Int→Z10→Z0→Int→Z2→Int→Z4→Int→Nat→Nat→Nat→Option X) (k0 : Z8→Z10→Z0→Int→Z2→Int→Z4→Int→Nat→Nat→Nat→Option X) (v5 : Z8) (v7 : Int) (ab0 : Z10) (bb0 : Z0) (bb1 : Int) (bb2 : Z2) (bb3 : Int) (bb4 : Z4) (bb5 : Int) (vk0 : Nat) (vk1 : Nat) (vk2 : Nat) : Option X:=
 bif decide (v7 < (bb2.length : Int)) then
  (idx bb2 v7).bind fun x6 =>
   (F.zbn n (x6.1,x6.2.1,x6.2.2,())).bind fun y7 =>
    bif decide ((v5.length + y7.length) * 1 ≤ 2 ^ 46) && decide (0 < 1 ∧ 1 ≤ 2 ^ 20) then
     bif Nat.beq vk2 v5.length then
      rec (v5 ++ y7) (IntKind.wrap .i64 (v7 + (1 : Int))) ab0 bb0 bb1 bb2 bb3 bb4 bb5 vk0 vk1 ((v5 ++ y7).length)
     else
      none
    else
     none
 else
  k0 v5 ab0 bb0 bb1 bb2 bb3 bb4 bb5 vk0 vk1 vk2
noncomputable def F.za.L5_ref16_Put {X : Type} (n : Nat) (k0 : Z8→Z10→Z0→Int→Z2→Int→Z4→Int→Nat→Nat→Nat→Option X) : Nat→Z8→Int→Z10→Z0→Int→Z2→Int→Z4→Int→Nat→Nat→Nat→Option X
 | 0 => fun _ _ _ _ _ _ _ _ _ _ _ _ => none
 | m + 1 => fun v5 v7 ab0 bb0 bb1 bb2 bb3 bb4 bb5 vk0 vk1 vk2 => F.za.L5_ref16_Put.step n (F.za.L5_ref16_Put n k0 m) k0 v5 v7 ab0 bb0 bb1 bb2 bb3 bb4 bb5 vk0 vk1 vk2
noncomputable def F.za.L2_ref15_Dict_Find_1.step {X : Type} (n : Nat) (rec : Z0→Int→Z10→Z0→Int→Z2→Int→Z4→Int→Nat→Nat→Nat→Option X) (k0 : Z10→Z0→Int→Z2→Int→Z4→Int→Nat→Nat→Nat→Option X) (kr : Int→Z10→Z0→Int→Z2→Int→Z4→Int→Nat→Nat→Nat→Option X) (v1 : Z0) (v5 : Int) (ab0 : Z10) (bb0 : Z0) (bb1 : Int) (bb2 : Z2) (bb3 : Int) (bb4 : Z4) (bb5 : Int) (vk0 : Nat) (vk1 : Nat) (vk2 : Nat) : Option X:=
 bif decide (v5 < (ab0.length : Int)) then
  (idx ab0 v5).bind fun x12 =>
   bif x12 == v1 then
    kr (IntKind.wrap .i64 (v5 + (1 : Int))) ab0 bb0 bb1 bb2 bb3 bb4 bb5 vk0 vk1 vk2
   else
    rec v1 (IntKind.wrap .i64 (v5 + (1 : Int))) ab0 bb0 bb1 bb2 bb3 bb4 bb5 vk0 vk1 vk2
 else
  k0 ab0 bb0 bb1 bb2 bb3 bb4 bb5 vk0 vk1 vk2
noncomputable def F.za.L2_ref15_Dict_Find_1 {X : Type} (n : Nat) (k0 : Z10→Z0→Int→Z2→Int→Z4→Int→Nat→Nat→Nat→Option X) (kr : Int→Z10→Z0→Int→Z2→Int→Z4→Int→Nat→Nat→Nat→Option X) : Nat→Z0→Int→Z10→Z0→Int→Z2→Int→Z4→Int→Nat→Nat→Nat→Option X
 | 0 => fun _ _ _ _ _ _ _ _ _ _ _ _ => none
 | m + 1 => fun v1 v5 ab0 bb0 bb1 bb2 bb3 bb4 bb5 vk0 vk1 vk2 => F.za.L2_ref15_Dict_Find_1.step n (F.za.L2_ref15_Dict_Find_1 n k0 kr m) k0 kr v1 v5 ab0 bb0 bb1 bb2 bb3 bb4 bb5 vk0 vk1 vk2
noncomputable def F.za.L2_ref15_Dict_Find_2.step {X : Type} (n : Nat) (rec : Z0→Int→Z10→Z0→Int→Z2→Int→Z4→Int→Nat→Nat→Nat→Nat→Option X) (k0 : Z10→Z0→Int→Z2→Int→Z4→Int→Nat→Nat→Nat→Nat→Option X) (kr : Int→Z10→Z0→Int→Z2→Int→Z4→Int→Nat→Nat→Nat→Nat→Option X) (v1 : Z0) (v5 : Int) (ab0 : Z10) (bb0 : Z0) (bb1 : Int) (bb2 : Z2) (bb3 : Int) (bb4 : Z4) (bb5 : Int) (vk0 : Nat) (vk1 : Nat) (vk2 : Nat) (vk3 : Nat) : Option X:=
 bif decide (v5 < (ab0.length : Int)) then
  (idx ab0 v5).bind fun x15 =>
   bif x15 == v1 then
    kr (IntKind.wrap .i64 (v5 + (1 : Int))) ab0 bb0 bb1 bb2 bb3 bb4 bb5 vk0 vk1 vk2 vk3
   else
    rec v1 (IntKind.wrap .i64 (v5 + (1 : Int))) ab0 bb0 bb1 bb2 bb3 bb4 bb5 vk0 vk1 vk2 vk3
 else
  k0 ab0 bb0 bb1 bb2 bb3 bb4 bb5 vk0 vk1 vk2 vk3
noncomputable def F.za.L2_ref15_Dict_Find_2 {X : Type} (n : Nat) (k0 : Z10→Z0→Int→Z2→Int→Z4→Int→Nat→Nat→Nat→Nat→Option X) (kr : Int→Z10→Z0→Int→Z2→Int→Z4→Int→Nat→Nat→Nat→Nat→Option X) : Nat→Z0→Int→Z10→Z0→Int→Z2→Int→Z4→Int→Nat→Nat→Nat→Nat→Option X
 | 0 => fun _ _ _ _ _ _ _ _ _ _ _ _ _ => none
 | m + 1 => fun v1 v5 ab0 bb0 bb1 bb2 bb3 bb4 bb5 vk0 vk1 vk2 vk3 => F.za.L2_ref15_Dict_Find_2.step n (F.za.L2_ref15_Dict_Find_2 n k0 kr m) k0 kr v1 v5 ab0 bb0 bb1 bb2 bb3 bb4 bb5 vk0 vk1 vk2 vk3
noncomputable def F.za.L9_ref15_Dict_Put.step {X : Type} (n : Nat) (rec : Z0→Z8→Int→Z10→Z0→Int→Z2→Int→Z4→Int→Nat→Nat→Nat→Nat→Nat→Option X) (k0 : Z8→Z10→Z0→Int→Z2→Int→Z4→Int→Nat→Nat→Nat→Nat→Nat→Option X) (v1 : Z0) (v7 : Z8) (v8 : Int) (ab0 : Z10) (bb0 : Z0) (bb1 : Int) (bb2 : Z2) (bb3 : Int) (bb4 : Z4) (bb5 : Int) (vk0 : Nat) (vk1 : Nat) (vk2 : Nat) (vk3 : Nat) (vk4 : Nat) : Option X:=
 bif decide (v8 < (v1.length : Int)) then
  (idx v1 v8).bind fun x18 =>
   bif decide ((v7.length + 1) * 1 ≤ 2 ^ 46) && decide (0 < 1 ∧ 1 ≤ 2 ^ 20) then
    bif Nat.beq vk4 v7.length then
     rec v1 (v7 ++ ([UInt8.ofNat ((x18).toNat : Int).toNat])) (IntKind.wrap .i64 (v8 + (1 : Int))) ab0 bb0 bb1 bb2 bb3 bb4 bb5 vk0 vk1 vk2 vk3 ((v7 ++ ([UInt8.ofNat ((x18).toNat : Int).toNat])).length)
    else
     none
   else
    none
 else
  k0 v7 ab0 bb0 bb1 bb2 bb3 bb4 bb5 vk0 vk1 vk2 vk3 vk4
noncomputable def F.za.L9_ref15_Dict_Put {X : Type} (n : Nat) (k0 : Z8→Z10→Z0→Int→Z2→Int→Z4→Int→Nat→Nat→Nat→Nat→Nat→Option X) : Nat→Z0→Z8→Int→Z10→Z0→Int→Z2→Int→Z4→Int→Nat→Nat→Nat→Nat→Nat→Option X
 | 0 => fun _ _ _ _ _ _ _ _ _ _ _ _ _ _ _ => none
 | m + 1 => fun v1 v7 v8 ab0 bb0 bb1 bb2 bb3 bb4 bb5 vk0 vk1 vk2 vk3 vk4 => F.za.L9_ref15_Dict_Put.step n (F.za.L9_ref15_Dict_Put n k0 m) k0 v1 v7 v8 ab0 bb0 bb1 bb2 bb3 bb4 bb5 vk0 vk1 vk2 vk3 vk4
noncomputable def F.za.C14_ref16_Put {X : Type} (n : Nat) (kn : Z8→Int→Z10→Z0→Int→Z2→Int→Z4→Int→Nat→Nat→Nat→Option X) (c5 : Z8) (c8 : Int) (c9 : Z8) (ab0 : Z10) (bb0 : Z0) (bb1 : Int) (bb2 : Z2) (bb3 : Int) (bb4 : Z4) (bb5 : Int) (ck0 : Nat) (ck1 : Nat) (ck2 : Nat) (ck3 : Nat) : Option X:=
 bif decide ((c5.length + c9.length) * 1 ≤ 2 ^ 46) && decide (0 < 1 ∧ 1 ≤ 2 ^ 20) then
  bif Nat.beq ck2 c5.length then
   (idx bb4 c8).bind fun x24 =>
    F.za.L2_ref15_Dict_Find_2 n
     (fun g0 h0 h1 h2 h3 h4 h5 ek0 ek1 ek2 ek3 =>
      bif decide ((x24.2.length : Int) > (200 : Int)) then
       bif decide ((((c5 ++ c9).length) + 0) * 1 ≤ 2 ^ 46) && decide (0 < 1 ∧ 1 ≤ 2 ^ 20) then
        bif Nat.beq ek2 ((c5 ++ c9).length) then
         kn ((c5 ++ c9) ++ []) c8 g0 h0 h1 h2 h3 h4 h5 ek0 ek1 (((c5 ++ c9) ++ []).length)
        else
         none
       else
        none
      else
      bif (g0.length : Int) == (65536 : Int) then
       bif decide ((((c5 ++ c9).length) + 0) * 1 ≤ 2 ^ 46) && decide (0 < 1 ∧ 1 ≤ 2 ^ 20) then
        bif Nat.beq ek2 ((c5 ++ c9).length) then
         kn ((c5 ++ c9) ++ []) c8 g0 h0 h1 h2 h3 h4 h5 ek0 ek1 (((c5 ++ c9) ++ []).length)
        else
         none
       else
        none
      else
      bif decide ((g0.length + 1) * 16 ≤ 2 ^ 46) && decide (0 < 16 ∧ 16 ≤ 2 ^ 20) then
       bif Nat.beq ek1 g0.length then
        (F.zp n (IntKind.wrap .u64 ((x24.2.length : Int)))).bind fun y26 =>
         bif decide ((1 + y26.length) * 1 ≤ 2 ^ 46) && decide (0 < 1 ∧ 1 ≤ 2 ^ 20) then
          F.za.L9_ref15_Dict_Put n
           (fun e7 g0 h0 h1 h2 h3 h4 h5 ek0 ek1 ek2 ek3 ek4 =>
            bif decide ((((c5 ++ c9).length) + e7.length) * 1 ≤ 2 ^ 46) && decide (0 < 1 ∧ 1 ≤ 2 ^ 20) then
             bif Nat.beq ek2 ((c5 ++ c9).length) then
              kn ((c5 ++ c9) ++ e7) c8 g0 h0 h1 h2 h3 h4 h5 ek0 ek1 (((c5 ++ c9) ++ e7).length)
             else
              none
            else
             none) n x24.2 (([UInt8.ofNat ((0 : Int)).toNat]) ++ y26) (0 : Int) (g0 ++ ([x24.2])) h0 h1 h2 h3 h4 h5 ek0 ((g0 ++ ([x24.2])).length) ek2 ek3 ((([UInt8.ofNat ((0 : Int)).toNat]) ++ y26).length)
         else
          none
       else
        none
      else
       none)
     (fun e4 g0 h0 h1 h2 h3 h4 h5 ek0 ek1 ek2 ek3 =>
      bif decide (e4 > (0 : Int)) then
       (F.zp n (IntKind.wrap .u64 (e4))).bind fun y29 =>
        bif decide ((((c5 ++ c9).length) + y29.length) * 1 ≤ 2 ^ 46) && decide (0 < 1 ∧ 1 ≤ 2 ^ 20) then
         bif Nat.beq ek2 ((c5 ++ c9).length) then
          kn ((c5 ++ c9) ++ y29) c8 g0 h0 h1 h2 h3 h4 h5 ek0 ek1 (((c5 ++ c9) ++ y29).length)
         else
          none
        else
         none
      else
      bif decide ((x24.2.length : Int) > (200 : Int)) then
       bif decide ((((c5 ++ c9).length) + 0) * 1 ≤ 2 ^ 46) && decide (0 < 1 ∧ 1 ≤ 2 ^ 20) then
        bif Nat.beq ek2 ((c5 ++ c9).length) then
         kn ((c5 ++ c9) ++ []) c8 g0 h0 h1 h2 h3 h4 h5 ek0 ek1 (((c5 ++ c9) ++ []).length)
        else
         none
       else
        none
      else
      bif (g0.length : Int) == (65536 : Int) then
       bif decide ((((c5 ++ c9).length) + 0) * 1 ≤ 2 ^ 46) && decide (0 < 1 ∧ 1 ≤ 2 ^ 20) then
        bif Nat.beq ek2 ((c5 ++ c9).length) then
         kn ((c5 ++ c9) ++ []) c8 g0 h0 h1 h2 h3 h4 h5 ek0 ek1 (((c5 ++ c9) ++ []).length)
        else
         none
       else
        none
      else
      bif decide ((g0.length + 1) * 16 ≤ 2 ^ 46) && decide (0 < 16 ∧ 16 ≤ 2 ^ 20) then
       bif Nat.beq ek1 g0.length then
        (F.zp n (IntKind.wrap .u64 ((x24.2.length : Int)))).bind fun y30 =>
         bif decide ((1 + y30.length) * 1 ≤ 2 ^ 46) && decide (0 < 1 ∧ 1 ≤ 2 ^ 20) then
          F.za.L9_ref15_Dict_Put n
           (fun e7 g0 h0 h1 h2 h3 h4 h5 ek0 ek1 ek2 ek3 ek4 =>
            bif decide ((((c5 ++ c9).length) + e7.length) * 1 ≤ 2 ^ 46) && decide (0 < 1 ∧ 1 ≤ 2 ^ 20) then
             bif Nat.beq ek2 ((c5 ++ c9).length) then
              kn ((c5 ++ c9) ++ e7) c8 g0 h0 h1 h2 h3 h4 h5 ek0 ek1 (((c5 ++ c9) ++ e7).length)
             else
              none
            else
             none) n x24.2 (([UInt8.ofNat ((0 : Int)).toNat]) ++ y30) (0 : Int) (g0 ++ ([x24.2])) h0 h1 h2 h3 h4 h5 ek0 ((g0 ++ ([x24.2])).length) ek2 ek3 ((([UInt8.ofNat ((0 : Int)).toNat]) ++ y30).length)
         else
          none
       else
        none
      else
       none) n x24.2 (0 : Int) ab0 bb0 bb1 bb2 bb3 bb4 bb5 ck0 ck1 ((c5 ++ c9).length) ck3
  else
   none
 else
  none
noncomputable def F.za.L9_ref15_Dict_Put_1.step {X : Type} (n : Nat) (rec : Z0→Z8→Int→Z10→Z0→Int→Z2→Int→Z4→Int→Nat→Nat→Nat→Nat→Option X) (k0 : Z8→Z10→Z0→Int→Z2→Int→Z4→Int→Nat→Nat→Nat→Nat→Option X) (v1 : Z0) (v7 : Z8) (v8 : Int) (ab0 : Z10) (bb0 : Z0) (bb1 : Int) (bb2 : Z2) (bb3 : Int) (bb4 : Z4) (bb5 : Int) (vk0 : Nat) (vk1 : Nat) (vk2 : Nat) (vk3 : Nat) : Option X:=
 bif decide (v8 < (v1.length : Int)) then
  (idx v1 v8).bind fun x35 =>
   bif decide ((v7.length + 1) * 1 ≤ 2 ^ 46) && decide (0 < 1 ∧ 1 ≤ 2 ^ 20) then
    bif Nat.beq vk3 v7.length then
     rec v1 (v7 ++ ([UInt8.ofNat ((x35).toNat : Int).toNat])) (IntKind.wrap .i64 (v8 + (1 : Int))) ab0 bb0 bb1 bb2 bb3 bb4 bb5 vk0 vk1 vk2 ((v7 ++ ([UInt8.ofNat ((x35).toNat : Int).toNat])).length)
    else
     none
   else
    none
 else
  k0 v7 ab0 bb0 bb1 bb2 bb3 bb4 bb5 vk0 vk1 vk2 vk3
noncomputable def F.za.L9_ref15_Dict_Put_1 {X : Type} (n : Nat) (k0 : Z8→Z10→Z0→Int→Z2→Int→Z4→Int→Nat→Nat→Nat→Nat→Option X) : Nat→Z0→Z8→Int→Z10→Z0→Int→Z2→Int→Z4→Int→Nat→Nat→Nat→Nat→Option X
 | 0 => fun _ _ _ _ _ _ _ _ _ _ _ _ _ _ => none
 | m + 1 => fun v1 v7 v8 ab0 bb0 bb1 bb2 bb3 bb4 bb5 vk0 vk1 vk2 vk3 => F.za.L9_ref15_Dict_Put_1.step n (F.za.L9_ref15_Dict_Put_1 n k0 m) k0 v1 v7 v8 ab0 bb0 bb1 bb2 bb3 bb4 bb5 vk0 vk1 vk2 vk3
noncomputable def F.za.L11_ref16_Put.step {X : Type} (n : Nat) (rec : Z8→Int→Z10→Z0→Int→Z2→Int→Z4→Int→Nat→Nat→Nat→Option X) (k2 : Z8→Z10→Z0→Int→Z2→Int→Z4→Int→Nat→Nat→Nat→Option X) (v5 : Z8) (v8 : Int) (ab0 : Z10) (bb0 : Z0) (bb1 : Int) (bb2 : Z2) (bb3 : Int) (bb4 : Z4) (bb5 : Int) (vk0 : Nat) (vk1 : Nat) (vk2 : Nat) : Option X:=
 bif decide (v8 < (bb4.length : Int)) then
  (idx bb4 v8).bind fun x11 =>
   F.za.L2_ref15_Dict_Find_1 n
    (fun g0 h0 h1 h2 h3 h4 h5 ek0 ek1 ek2 =>
     bif decide ((x11.1.length : Int) > (200 : Int)) then
      F.za.C14_ref16_Put n
       (fun e5 e8 g0 h0 h1 h2 h3 h4 h5 ek0 ek1 ek2 =>
        rec e5 (IntKind.wrap .i64 (e8 + (1 : Int))) g0 h0 h1 h2 h3 h4 h5 ek0 ek1 ek2) v5 v8 [] g0 h0 h1 h2 h3 h4 h5 ek0 ek1 ek2 0
     else
     bif (g0.length : Int) == (65536 : Int) then
      F.za.C14_ref16_Put n
       (fun e5 e8 g0 h0 h1 h2 h3 h4 h5 ek0 ek1 ek2 =>
        rec e5 (IntKind.wrap .i64 (e8 + (1 : Int))) g0 h0 h1 h2 h3 h4 h5 ek0 ek1 ek2) v5 v8 [] g0 h0 h1 h2 h3 h4 h5 ek0 ek1 ek2 0
     else
     bif decide ((g0.length + 1) * 16 ≤ 2 ^ 46) && decide (0 < 16 ∧ 16 ≤ 2 ^ 20) then
      bif Nat.beq ek1 g0.length then
       (F.zp n (IntKind.wrap .u64 ((x11.1.length : Int)))).bind fun y34 =>
        bif decide ((1 + y34.length) * 1 ≤ 2 ^ 46) && decide (0 < 1 ∧ 1 ≤ 2 ^ 20) then
         F.za.L9_ref15_Dict_Put_1 n
          (fun e7 g0 h0 h1 h2 h3 h4 h5 ek0 ek1 ek2 ek3 =>
           F.za.C14_ref16_Put n
            (fun e5 e8 g0 h0 h1 h2 h3 h4 h5 ek0 ek1 ek2 =>
             rec e5 (IntKind.wrap .i64 (e8 + (1 : Int))) g0 h0 h1 h2 h3 h4 h5 ek0 ek1 ek2) v5 v8 e7 g0 h0 h1 h2 h3 h4 h5 ek0 ek1 ek2 ek3) n x11.1 (([UInt8.ofNat ((0 : Int)).toNat]) ++ y34) (0 : Int) (g0 ++ ([x11.1])) h0 h1 h2 h3 h4 h5 ek0 ((g0 ++ ([x11.1])).length) ek2 ((([UInt8.ofNat ((0 : Int)).toNat]) ++ y34).length)
        else
         none
      else
       none
     else
      none)
    (fun e4 g0 h0 h1 h2 h3 h4 h5 ek0 ek1 ek2 =>
     bif decide (e4 > (0 : Int)) then
      (F.zp n (IntKind.wrap .u64 (e4))).bind fun y39 =>
       F.za.C14_ref16_Put n
        (fun e5 e8 g0 h0 h1 h2 h3 h4 h5 ek0 ek1 ek2 =>
         rec e5 (IntKind.wrap .i64 (e8 + (1 : Int))) g0 h0 h1 h2 h3 h4 h5 ek0 ek1 ek2) v5 v8 y39 g0 h0 h1 h2 h3 h4 h5 ek0 ek1 ek2 y39.length
     else
     bif decide ((x11.1.length : Int) > (200 : Int)) then
      F.za.C14_ref16_Put n
       (fun e5 e8 g0 h0 h1 h2 h3 h4 h5 ek0 ek1 ek2 =>
        rec e5 (IntKind.wrap .i64 (e8 + (1 : Int))) g0 h0 h1 h2 h3 h4 h5 ek0 ek1 ek2) v5 v8 [] g0 h0 h1 h2 h3 h4 h5 ek0 ek1 ek2 0
     else
     bif (g0.length : Int) == (65536 : Int) then
      F.za.C14_ref16_Put n
       (fun e5 e8 g0 h0 h1 h2 h3 h4 h5 ek0 ek1 ek2 =>
        rec e5 (IntKind.wrap .i64 (e8 + (1 : Int))) g0 h0 h1 h2 h3 h4 h5 ek0 ek1 ek2) v5 v8 [] g0 h0 h1 h2 h3 h4 h5 ek0 ek1 ek2 0
     else
     bif decide ((g0.length + 1) * 16 ≤ 2 ^ 46) && decide (0 < 16 ∧ 16 ≤ 2 ^ 20) then
      bif Nat.beq ek1 g0.length then
       (F.zp n (IntKind.wrap .u64 ((x11.1.length : Int)))).bind fun y43 =>
        bif decide ((1 + y43.length) * 1 ≤ 2 ^ 46) && decide (0 < 1 ∧ 1 ≤ 2 ^ 20) then
         F.za.L9_ref15_Dict_Put_1 n
          (fun e7 g0 h0 h1 h2 h3 h4 h5 ek0 ek1 ek2 ek3 =>
           F.za.C14_ref16_Put n
            (fun e5 e8 g0 h0 h1 h2 h3 h4 h5 ek0 ek1 ek2 =>
             rec e5 (IntKind.wrap .i64 (e8 + (1 : Int))) g0 h0 h1 h2 h3 h4 h5 ek0 ek1 ek2) v5 v8 e7 g0 h0 h1 h2 h3 h4 h5 ek0 ek1 ek2 ek3) n x11.1 (([UInt8.ofNat ((0 : Int)).toNat]) ++ y43) (0 : Int) (g0 ++ ([x11.1])) h0 h1 h2 h3 h4 h5 ek0 ((g0 ++ ([x11.1])).length) ek2 ((([UInt8.ofNat ((0 : Int)).toNat]) ++ y43).length)
        else
         none
      else
       none
     else
      none) n x11.1 (0 : Int) ab0 bb0 bb1 bb2 bb3 bb4 bb5 vk0 vk1 vk2
 else
  k2 v5 ab0 bb0 bb1 bb2 bb3 bb4 bb5 vk0 vk1 vk2
noncomputable def F.za.L11_ref16_Put {X : Type} (n : Nat) (k2 : Z8→Z10→Z0→Int→Z2→Int→Z4→Int→Nat→Nat→Nat→Option X) : Nat→Z8→Int→Z10→Z0→Int→Z2→Int→Z4→Int→Nat→Nat→Nat→Option X
 | 0 => fun _ _ _ _ _ _ _ _ _ _ _ _ => none
 | m + 1 => fun v5 v8 ab0 bb0 bb1 bb2 bb3 bb4 bb5 vk0 vk1 vk2 => F.za.L11_ref16_Put.step n (F.za.L11_ref16_Put n k2 m) k2 v5 v8 ab0 bb0 bb1 bb2 bb3 bb4 bb5 vk0 vk1 vk2
noncomputable def F.za.C2_ref16_Put {X : Type} (n : Nat) (kr : Z8→Z10→Nat→Nat→Nat→Option X) (c5 : Z8) (ab0 : Z10) (bb0 : Z0) (bb1 : Int) (bb2 : Z2) (bb3 : Int) (bb4 : Z4) (bb5 : Int) (ck0 : Nat) (ck1 : Nat) (ck2 : Nat) : Option X:=
 bif decide ((c5.length + 1) * 1 ≤ 2 ^ 46) && decide (0 < 1 ∧ 1 ≤ 2 ^ 20) then
  bif Nat.beq ck2 c5.length then
   (F.zp n (IntKind.wrap .u64 ((bb2.length : Int)))).bind fun y48 =>
    bif decide ((((c5 ++ ([UInt8.ofNat ((IntKind.wrap .u8 (bb1))).toNat])).length) + y48.length) * 1 ≤ 2 ^ 46) && decide (0 < 1 ∧ 1 ≤ 2 ^ 20) then
     bif Nat.beq ((c5 ++ ([UInt8.ofNat ((IntKind.wrap .u8 (bb1))).toNat])).length) ((c5 ++ ([UInt8.ofNat ((IntKind.wrap .u8 (bb1))).toNat])).length) then
      F.za.L5_ref16_Put n
       (fun e5 g0 h0 h1 h2 h3 h4 h5 ek0 ek1 ek2 =>
        (F.zp n (IntKind.wrap .u64 (h3))).bind fun y50 =>
         bif decide ((e5.length + y50.length) * 1 ≤ 2 ^ 46) && decide (0 < 1 ∧ 1 ≤ 2 ^ 20) then
          bif Nat.beq ek2 e5.length then
           (F.zp n (IntKind.wrap .u64 ((h4.length : Int)))).bind fun y51 =>
            bif decide ((((e5 ++ y50).length) + y51.length) * 1 ≤ 2 ^ 46) && decide (0 < 1 ∧ 1 ≤ 2 ^ 20) then
             bif Nat.beq ((e5 ++ y50).length) ((e5 ++ y50).length) then
              F.za.L11_ref16_Put n
               (fun e5 g0 h0 h1 h2 h3 h4 h5 ek0 ek1 ek2 =>
                (F.zp n (IntKind.wrap .u64 (h5))).bind fun y53 =>
                 bif decide ((e5.length + y53.length) * 1 ≤ 2 ^ 46) && decide (0 < 1 ∧ 1 ≤ 2 ^ 20) then
                  bif Nat.beq ek2 e5.length then
                   kr (e5 ++ y53) g0 ek0 ek1 ((e5 ++ y53).length)
                  else
                   none
                 else
                  none) n ((e5 ++ y50) ++ y51) (0 : Int) g0 h0 h1 h2 h3 h4 h5 ek0 ek1 (((e5 ++ y50) ++ y51).length)
             else
              none
            else
             none
          else
           none
         else
          none) n ((c5 ++ ([UInt8.ofNat ((IntKind.wrap .u8 (bb1))).toNat])) ++ y48) (0 : Int) ab0 bb0 bb1 bb2 bb3 bb4 bb5 ck0 ck1 (((c5 ++ ([UInt8.ofNat ((IntKind.wrap .u8 (bb1))).toNat])) ++ y48).length)
     else
      none
    else
     none
  else
   none
 else
  none
noncomputable def F.za.L9_ref15_Dict_Put_2.step {X : Type} (n : Nat) (rec : Z0→Z8→Int→Z10→Z0→Int→Z2→Int→Z4→Int→Nat→Nat→Nat→Option X) (k0 : Z8→Z10→Z0→Int→Z2→Int→Z4→Int→Nat→Nat→Nat→Option X) (v1 : Z0) (v7 : Z8) (v8 : Int) (ab0 : Z10) (bb0 : Z0) (bb1 : Int) (bb2 : Z2) (bb3 : Int) (bb4 : Z4) (bb5 : Int) (vk0 : Nat) (vk1 : Nat) (vk2 : Nat) : Option X:=
 bif decide (v8 < (v1.length : Int)) then
  (idx v1 v8).bind fun x57 =>
   bif decide ((v7.length + 1) * 1 ≤ 2 ^ 46) && decide (0 < 1 ∧ 1 ≤ 2 ^ 20) then
    bif Nat.beq vk2 v7.length then
     rec v1 (v7 ++ ([UInt8.ofNat ((x57).toNat : Int).toNat])) (IntKind.wrap .i64 (v8 + (1 : Int))) ab0 bb0 bb1 bb2 bb3 bb4 bb5 vk0 vk1 ((v7 ++ ([UInt8.ofNat ((x57).toNat : Int).toNat])).length)
    else
     none
   else
    none
 else
  k0 v7 ab0 bb0 bb1 bb2 bb3 bb4 bb5 vk0 vk1 vk2
noncomputable def F.za.L9_ref15_Dict_Put_2 {X : Type} (n : Nat) (k0 : Z8→Z10→Z0→Int→Z2→Int→Z4→Int→Nat→Nat→Nat→Option X) : Nat→Z0→Z8→Int→Z10→Z0→Int→Z2→Int→Z4→Int→Nat→Nat→Nat→Option X
 | 0 => fun _ _ _ _ _ _ _ _ _ _ _ _ _ => none
 | m + 1 => fun v1 v7 v8 ab0 bb0 bb1 bb2 bb3 bb4 bb5 vk0 vk1 vk2 => F.za.L9_ref15_Dict_Put_2.step n (F.za.L9_ref15_Dict_Put_2 n k0 m) k0 v1 v7 v8 ab0 bb0 bb1 bb2 bb3 bb4 bb5 vk0 vk1 vk2
noncomputable def F.za.L4.step {X : Type} (n : Nat) (rec : Z6→Z8→Int→Z10→Nat→Nat→Option X) (k0 : Z8→Z10→Nat→Nat→Option X) (v0 : Z6) (v3 : Z8) (v5 : Int) (ab0 : Z10) (vk0 : Nat) (vk1 : Nat) : Option X:=
 bif decide (v5 < (v0.length : Int)) then
  (idx v0 v5).bind fun x2 =>
   F.za.L2_ref15_Dict_Find n
    (fun g0 h0 h1 h2 h3 h4 h5 ek0 ek1 =>
     bif decide ((x2.1.length : Int) > (200 : Int)) then
      F.za.C2_ref16_Put n
       (fun e4 g0 ek0 ek1 ek2 =>
        bif decide ((v3.length + e4.length) * 1 ≤ 2 ^ 46) && decide (0 < 1 ∧ 1 ≤ 2 ^ 20) then
         bif Nat.beq ek0 v3.length then
          rec v0 (v3 ++ e4) (IntKind.wrap .i64 (v5 + (1 : Int))) g0 ((v3 ++ e4).length) ek1
         else
          none
        else
         none) [] g0 h0 h1 h2 h3 h4 h5 ek0 ek1 0
     else
     bif (g0.length : Int) == (65536 : Int) then
      F.za.C2_ref16_Put n
       (fun e4 g0 ek0 ek1 ek2 =>
        bif decide ((v3.length + e4.length) * 1 ≤ 2 ^ 46) && decide (0 < 1 ∧ 1 ≤ 2 ^ 20) then
         bif Nat.beq ek0 v3.length then
          rec v0 (v3 ++ e4) (IntKind.wrap .i64 (v5 + (1 : Int))) g0 ((v3 ++ e4).length) ek1
         else
          none
        else
         none) [] g0 h0 h1 h2 h3 h4 h5 ek0 ek1 0
     else
     bif decide ((g0.length + 1) * 16 ≤ 2 ^ 46) && decide (0 < 16 ∧ 16 ≤ 2 ^ 20) then
      bif Nat.beq ek1 g0.length then
       (F.zp n (IntKind.wrap .u64 ((x2.1.length : Int)))).bind fun y56 =>
        bif decide ((1 + y56.length) * 1 ≤ 2 ^ 46) && decide (0 < 1 ∧ 1 ≤ 2 ^ 20) then
         F.za.L9_ref15_Dict_Put_2 n
          (fun e7 g0 h0 h1 h2 h3 h4 h5 ek0 ek1 ek2 =>
           F.za.C2_ref16_Put n
            (fun e4 g0 ek0 ek1 ek2 =>
             bif decide ((v3.length + e4.length) * 1 ≤ 2 ^ 46) && decide (0 < 1 ∧ 1 ≤ 2 ^ 20) then
              bif Nat.beq ek0 v3.length then
               rec v0 (v3 ++ e4) (IntKind.wrap .i64 (v5 + (1 : Int))) g0 ((v3 ++ e4).length) ek1
              else
               none
             else
              none) e7 g0 h0 h1 h2 h3 h4 h5 ek0 ek1 ek2) n x2.1 (([UInt8.ofNat ((0 : Int)).toNat]) ++ y56) (0 : Int) (g0 ++ ([x2.1])) h0 h1 h2 h3 h4 h5 ek0 ((g0 ++ ([x2.1])).length) ((([UInt8.ofNat ((0 : Int)).toNat]) ++ y56).length)
        else
         none
      else
       none
     else
      none)
    (fun e4 g0 h0 h1 h2 h3 h4 h5 ek0 ek1 =>
     bif decide (e4 > (0 : Int)) then
      (F.zp n (IntKind.wrap .u64 (e4))).bind fun y61 =>
       F.za.C2_ref16_Put n
        (fun e4 g0 ek0 ek1 ek2 =>
         bif decide ((v3.length + e4.length) * 1 ≤ 2 ^ 46) && decide (0 < 1 ∧ 1 ≤ 2 ^ 20) then
          bif Nat.beq ek0 v3.length then
           rec v0 (v3 ++ e4) (IntKind.wrap .i64 (v5 + (1 : Int))) g0 ((v3 ++ e4).length) ek1
          else
           none
         else
          none) y61 g0 h0 h1 h2 h3 h4 h5 ek0 ek1 y61.length
     else
     bif decide ((x2.1.length : Int) > (200 : Int)) then
      F.za.C2_ref16_Put n
       (fun e4 g0 ek0 ek1 ek2 =>
        bif decide ((v3.length + e4.length) * 1 ≤ 2 ^ 46) && decide (0 < 1 ∧ 1 ≤ 2 ^ 20) then
         bif Nat.beq ek0 v3.length then
          rec v0 (v3 ++ e4) (IntKind.wrap .i64 (v5 + (1 : Int))) g0 ((v3 ++ e4).length) ek1
         else
          none
        else
         none) [] g0 h0 h1 h2 h3 h4 h5 ek0 ek1 0
     else
     bif (g0.length : Int) == (65536 : Int) then
      F.za.C2_ref16_Put n
       (fun e4 g0 ek0 ek1 ek2 =>
        bif decide ((v3.length + e4.length) * 1 ≤ 2 ^ 46) && decide (0 < 1 ∧ 1 ≤ 2 ^ 20) then
         bif Nat.beq ek0 v3.length then
          rec v0 (v3 ++ e4) (IntKind.wrap .i64 (v5 + (1 : Int))) g0 ((v3 ++ e4).length) ek1
         else
          none
        else
         none) [] g0 h0 h1 h2 h3 h4 h5 ek0 ek1 0
     else
     bif decide ((g0.length + 1) * 16 ≤ 2 ^ 46) && decide (0 < 16 ∧ 16 ≤ 2 ^ 20) then
      bif Nat.beq ek1 g0.length then
       (F.zp n (IntKind.wrap .u64 ((x2.1.length : Int)))).bind fun y65 =>
        bif decide ((1 + y65.length) * 1 ≤ 2 ^ 46) && decide (0 < 1 ∧ 1 ≤ 2 ^ 20) then
         F.za.L9_ref15_Dict_Put_2 n
          (fun e7 g0 h0 h1 h2 h3 h4 h5 ek0 ek1 ek2 =>
           F.za.C2_ref16_Put n
            (fun e4 g0 ek0 ek1 ek2 =>
             bif decide ((v3.length + e4.length) * 1 ≤ 2 ^ 46) && decide (0 < 1 ∧ 1 ≤ 2 ^ 20) then
              bif Nat.beq ek0 v3.length then
               rec v0 (v3 ++ e4) (IntKind.wrap .i64 (v5 + (1 : Int))) g0 ((v3 ++ e4).length) ek1
              else
               none
             else
              none) e7 g0 h0 h1 h2 h3 h4 h5 ek0 ek1 ek2) n x2.1 (([UInt8.ofNat ((0 : Int)).toNat]) ++ y65) (0 : Int) (g0 ++ ([x2.1])) h0 h1 h2 h3 h4 h5 ek0 ((g0 ++ ([x2.1])).length) ((([UInt8.ofNat ((0 : Int)).toNat]) ++ y65).length)
        else
         none
      else
       none
     else
      none) n x2.1 (0 : Int) ab0 x2.1 x2.2.1 x2.2.2.1 x2.2.2.2.1 x2.2.2.2.2.1 x2.2.2.2.2.2 vk0 vk1
 else
  k0 v3 ab0 vk0 vk1
noncomputable def F.za.L4 {X : Type} (n : Nat) (k0 : Z8→Z10→Nat→Nat→Option X) : Nat→Z6→Z8→Int→Z10→Nat→Nat→Option X
 | 0 => fun _ _ _ _ _ _ => none
 | m + 1 => fun v0 v3 v5 ab0 vk0 vk1 => F.za.L4.step n (F.za.L4 n k0 m) k0 v0 v3 v5 ab0 vk0 vk1
noncomputable def F.za (n : Nat) (a0 : Z6) : Option (Z8):=
 (F.zp n (IntKind.wrap .u64 ((a0.length : Int)))).bind fun y1 =>
  F.za.L4 n
   (fun e3 g0 ek0 ek1 =>
    some (e3)) n a0 y1 (0 : Int) [] y1.length 0
noncomputable def F.zag.L2.step {X : Type} (n : Nat) (rec : Int→Int→Option X) (k0 : Int→Option X) (v0 : Int) (v3 : Int) : Option X:=
 bif decide (v3 < (8 : Int)) then
  bif (v0.tmod (2 : Int)) == (1 : Int) then
   rec (bitsA .xor .u32 (IntKind.wrap .u32 (v0.tdiv (2 : Int))) (3988292384 : Int)) (IntKind.wrap .i64 (v3 + (1 : Int)))
  else
   rec (IntKind.wrap .u32 (v0.tdiv (2 : Int))) (IntKind.wrap .i64 (v3 + (1 : Int)))
 else
  k0 v0
noncomputable def F.zag.L2 {X : Type} (n : Nat) (k0 : Int→Option X) : Nat→Int→Int→Option X
 | 0 => fun _ _ => none
 | m + 1 => fun v0 v3 => F.zag.L2.step n (F.zag.L2 n k0 m) k0 v0 v3
noncomputable def F.zag (n : Nat) (a0 : Int) : Option (Int):=
 F.zag.L2 n
  (fun e0 =>
   some (e0)) n a0 (0 : Int)
noncomputable def F.zca (n : Nat) (a0 : Int) (a1 : Int) : Option (Int):=
 (F.zag n (bitsA .xor .u32 (bitsA .xor .u32 a0 (4294967295 : Int)) (IntKind.wrap .u32 (a1)))).bind fun y1 =>
  some ((bitsA .xor .u32 y1 (4294967295 : Int)))
noncomputable def F.zau.L3.step {X : Type} (n : Nat) (rec : Z8→Int→Int→Option X) (k0 : Int→Option X) (v0 : Z8) (v3 : Int) (v4 : Int) : Option X:=
 bif decide (v4 < (v0.length : Int)) then
  (idx v0 v4).bind fun x1 =>
   (F.zca n v3 ((x1).toNat)).bind fun y2 =>
    rec v0 y2 (IntKind.wrap .i64 (v4 + (1 : Int)))
 else
  k0 v3
noncomputable def F.zau.L3 {X : Type} (n : Nat) (k0 : Int→Option X) : Nat→Z8→Int→Int→Option X
 | 0 => fun _ _ _ => none
 | m + 1 => fun v0 v3 v4 => F.zau.L3.step n (F.zau.L3 n k0 m) k0 v0 v3 v4
noncomputable def F.zau (n : Nat) (a0 : Z8) : Option (Int):=
 F.zau.L3 n
  (fun e3 =>
   some (e3)) n a0 (0 : Int) (0 : Int)
noncomputable def F.zci (n : Nat) (a0 : Z8) : Option (Z8):=
 (F.zau n a0).bind fun y1 =>
  some ([UInt8.ofNat ((IntKind.wrap .u8 (shrA .u32 y1 (24 : Int)))).toNat,UInt8.ofNat ((IntKind.wrap .u8 (shrA .u32 y1 (16 : Int)))).toNat,UInt8.ofNat ((IntKind.wrap .u8 (shrA .u32 y1 (8 : Int)))).toNat,UInt8.ofNat ((IntKind.wrap .u8 (y1))).toNat])
noncomputable def F.zbd (n : Nat) (a0 : Z6) : Option ((Z8) × (Int) × (Int) × Unit):=
 (F.z8 n a0).bind fun y1 =>
  bif !(y1.2.2.1 == (0 : Int)) then
   some (([],y1.2.1,y1.2.2.1,()))
  else
   (F.za n y1.1).bind fun y2 =>
    bif decide ((y2.length : Int) > (1048576 : Int)) then
     some (([],(a0.length : Int),(12 : Int),()))
    else
     (F.zp n (IntKind.wrap .u64 ((y2.length : Int)))).bind fun y3 =>
      bif decide ((3 + y3.length) * 1 ≤ 2 ^ 46) && decide (0 < 1 ∧ 1 ≤ 2 ^ 20) then
       bif decide ((((([UInt8.ofNat ((77 : Int)).toNat,UInt8.ofNat ((71 : Int)).toNat,UInt8.ofNat ((1 : Int)).toNat]) ++ y3).length) + y2.length) * 1 ≤ 2 ^ 46) && decide (0 < 1 ∧ 1 ≤ 2 ^ 20) then
        bif Nat.beq ((([UInt8.ofNat ((77 : Int)).toNat,UInt8.ofNat ((71 : Int)).toNat,UInt8.ofNat ((1 : Int)).toNat]) ++ y3).length) ((([UInt8.ofNat ((77 : Int)).toNat,UInt8.ofNat ((71 : Int)).toNat,UInt8.ofNat ((1 : Int)).toNat]) ++ y3).length) then
         (F.zci n ((([UInt8.ofNat ((77 : Int)).toNat,UInt8.ofNat ((71 : Int)).toNat,UInt8.ofNat ((1 : Int)).toNat]) ++ y3) ++ y2)).bind fun y4 =>
          bif decide (((((([UInt8.ofNat ((77 : Int)).toNat,UInt8.ofNat ((71 : Int)).toNat,UInt8.ofNat ((1 : Int)).toNat]) ++ y3) ++ y2).length) + y4.length) * 1 ≤ 2 ^ 46) && decide (0 < 1 ∧ 1 ≤ 2 ^ 20) then
           bif Nat.beq (((([UInt8.ofNat ((77 : Int)).toNat,UInt8.ofNat ((71 : Int)).toNat,UInt8.ofNat ((1 : Int)).toNat]) ++ y3) ++ y2).length) (((([UInt8.ofNat ((77 : Int)).toNat,UInt8.ofNat ((71 : Int)).toNat,UInt8.ofNat ((1 : Int)).toNat]) ++ y3) ++ y2).length) then
            some ((((([UInt8.ofNat ((77 : Int)).toNat,UInt8.ofNat ((71 : Int)).toNat,UInt8.ofNat ((1 : Int)).toNat]) ++ y3) ++ y2) ++ y4,(0 : Int),(0 : Int),()))
           else
            none
          else
           none
        else
         none
       else
        none
      else
       none
noncomputable def F.zcl (n : Nat) (a0 : Int) : Option (Bool):=
 bif decide (a0 ≥ (1 : Int)) then
  some (decide (a0 ≤ (3 : Int)))
 else
  some (false)
noncomputable def F.zbl (n : Nat) (a0 : Z17) : Option (Int):=
 bif !(a0.2.1 == (0 : Int)) then
  bif decide (a0.2.2.1 < (-18 : Int)) then
   some ((10 : Int))
  else
  bif decide (a0.2.2.1 > (18 : Int)) then
   some ((10 : Int))
  else
   (F.zad n a0.2.1).bind fun y1 =>
    (F.ze n a0.1 y1 a0.2.2.1).bind fun y2 =>
     bif !y2.2.1 then
      some ((21 : Int))
     else
     bif !((y2.1.1 == a0.1) && ((y2.1.2.1 == a0.2.1) && (y2.1.2.2.1 == a0.2.2.1))) then
      some ((21 : Int))
     else
      some ((0 : Int))
 else
  (F.zad n a0.2.1).bind fun y3 =>
   (F.ze n a0.1 y3 a0.2.2.1).bind fun y4 =>
    bif !y4.2.1 then
     some ((21 : Int))
    else
    bif !((y4.1.1 == a0.1) && ((y4.1.2.1 == a0.2.1) && (y4.1.2.2.1 == a0.2.2.1))) then
     some ((21 : Int))
    else
     some ((0 : Int))
noncomputable def F.z1.L3.step {X : Type} (n : Nat) (rec : Bool→Int→Z0→Int→Z2→Int→Z4→Int→Option X) (k0 : Bool→Z0→Int→Z2→Int→Z4→Int→Option X) (v3 : Bool) (v4 : Int) (ab0 : Z0) (ab1 : Int) (ab2 : Z2) (ab3 : Int) (ab4 : Z4) (ab5 : Int) : Option X:=
 bif decide (v4 < (ab2.length : Int)) then
  bif v3 then
   (idx ab2 v4).bind fun x1 =>
    (F.zbl n (x1.1,x1.2.1,x1.2.2,())).bind fun y2 =>
     rec (y2 == (0 : Int)) (IntKind.wrap .i64 (v4 + (1 : Int))) ab0 ab1 ab2 ab3 ab4 ab5
  else
   rec false (IntKind.wrap .i64 (v4 + (1 : Int))) ab0 ab1 ab2 ab3 ab4 ab5
 else
  k0 v3 ab0 ab1 ab2 ab3 ab4 ab5
noncomputable def F.z1.L3 {X : Type} (n : Nat) (k0 : Bool→Z0→Int→Z2→Int→Z4→Int→Option X) : Nat→Bool→Int→Z0→Int→Z2→Int→Z4→Int→Option X
 | 0 => fun _ _ _ _ _ _ _ _ => none
 | m + 1 => fun v3 v4 ab0 ab1 ab2 ab3 ab4 ab5 => F.z1.L3.step n (F.z1.L3 n k0 m) k0 v3 v4 ab0 ab1 ab2 ab3 ab4 ab5
noncomputable def F.z1 (n : Nat) (a0 : Z7) : Option (Int):=
 F.z1.L3 n
  (fun e3 g0 g1 g2 g3 g4 g5 =>
   (F.zw n (g0,g1,g2,g3,g4,g5,()) e3).bind fun y4 =>
    some (y4)) n true (0 : Int) a0.1 a0.2.1 a0.2.2.1 a0.2.2.2.1 a0.2.2.2.2.1 a0.2.2.2.2.2.1
noncomputable def F.zah.L4.step {X : Type} (n : Nat) (rec : Z6→Int→Option X) (k0 : Unit→Option X) (kr : Int→Int→Option X) (v0 : Z6) (v4 : Int) : Option X:=
 bif decide (v4 < (v0.length : Int)) then
  (idx v0 v4).bind fun x1 =>
   (F.z1 n (x1.1,x1.2.1,x1.2.2.1,x1.2.2.2.1,x1.2.2.2.2.1,x1.2.2.2.2.2,())).bind fun y2 =>
    bif !(y2 == (0 : Int)) then
     kr v4 y2
    else
     rec v0 (IntKind.wrap .i64 (v4 + (1 : Int)))
 else
  k0 ()
noncomputable def F.zah.L4 {X : Type} (n : Nat) (k0 : Unit→Option X) (kr : Int→Int→Option X) : Nat→Z6→Int→Option X
 | 0 => fun _ _ => none
 | m + 1 => fun v0 v4 => F.zah.L4.step n (F.zah.L4 n k0 kr m) k0 kr v0 v4
noncomputable def F.zah (n : Nat) (a0 : Z6) : Option ((Int) × (Int) × Unit):=
 bif decide ((a0.length : Int) > (1000 : Int)) then
  some (((1000 : Int),(12 : Int),()))
 else
  F.zah.L4 n
   (fun (_ : Unit) =>
    some (((0 : Int),(0 : Int),())))
   (fun e2 e3 =>
    some ((e2,e3,()))) n a0 (0 : Int)
noncomputable def F.zbq (n : Nat) (a0 : Z7) (a1 : Int) : Option (Bool):=
 bif (a0.2.2.1.length : Int) == (1 : Int) then
  bif a1 == (1 : Int) then
   bif (a0.2.2.2.2.1.length : Int) == (0 : Int) then
    bif a0.2.2.2.2.2.1 == (0 : Int) then
     bif !(a0.2.1 == (5 : Int)) then
      bif a0.2.1 == (2 : Int) then
       (idx a0.2.2.1 (0 : Int)).bind fun x1 =>
        some (!x1.1)
      else
       some (true)
     else
      some (false)
    else
     some (false)
   else
    some (false)
  else
  bif a1 == (3 : Int) then
   bif (a0.2.2.2.2.1.length : Int) == (0 : Int) then
    bif !(a0.2.2.2.2.2.1 == (0 : Int)) then
     some (a0.2.1 == (2 : Int))
    else
     some (false)
   else
    some (false)
  else
   some (true)
 else
 bif a1 == (1 : Int) then
  some (false)
 else
 bif a1 == (3 : Int) then
  some (false)
 else
  some (true)
noncomputable def F.zaw.L7.step {X : Type} (n : Nat) (rec : Z6→Int→Int→Option X) (k0 : Unit→Option X) (kr : Int→Int→Option X) (v0 : Z6) (v1 : Int) (v8 : Int) : Option X:=
 bif decide (v8 < (v0.length : Int)) then
  (idx v0 v8).bind fun x2 =>
   (F.zbq n (x2.1,x2.2.1,x2.2.2.1,x2.2.2.2.1,x2.2.2.2.2.1,x2.2.2.2.2.2,()) v1).bind fun y3 =>
    bif !y3 then
     kr v8 (26 : Int)
    else
     rec v0 v1 (IntKind.wrap .i64 (v8 + (1 : Int)))
 else
  k0 ()
noncomputable def F.zaw.L7 {X : Type} (n : Nat) (k0 : Unit→Option X) (kr : Int→Int→Option X) : Nat→Z6→Int→Int→Option X
 | 0 => fun _ _ _ => none
 | m + 1 => fun v0 v1 v8 => F.zaw.L7.step n (F.zaw.L7 n k0 kr m) k0 kr v0 v1 v8
noncomputable def F.zaw (n : Nat) (a0 : Z6) (a1 : Int) : Option ((Int) × (Int) × Unit):=
 bif decide (a1 < (1 : Int)) then
  some (((0 : Int),(29 : Int),()))
 else
 bif decide (a1 > (4 : Int)) then
  some (((0 : Int),(29 : Int),()))
 else
  (F.zah n a0).bind fun y1 =>
   bif !(y1.2.1 == (0 : Int)) then
    some ((y1.1,y1.2.1,()))
   else
    F.zaw.L7 n
     (fun (_ : Unit) =>
      some (((0 : Int),(0 : Int),())))
     (fun e4 e5 =>
      some ((e4,e5,()))) n a0 a1 (0 : Int)
noncomputable def F.zm.L3.step {X : Type} (n : Nat) (rec : Z0→Int→Bool→Int→Int→Option X) (k0 : Z0→Bool→Int→Int→Option X) (v3 : Z0) (v4 : Int) (ab0 : Bool) (ab1 : Int) (ab2 : Int) : Option X:=
 bif decide (v4 < ab2) then
  bif decide (v3.length + 1 ≤ strMax) then
   rec (v3 ++ ([48])) (IntKind.wrap .i64 (v4 + (1 : Int))) ab0 ab1 ab2
  else
   none
 else
  k0 v3 ab0 ab1 ab2
noncomputable def F.zm.L3 {X : Type} (n : Nat) (k0 : Z0→Bool→Int→Int→Option X) : Nat→Z0→Int→Bool→Int→Int→Option X
 | 0 => fun _ _ _ _ _ => none
 | m + 1 => fun v3 v4 ab0 ab1 ab2 => F.zm.L3.step n (F.zm.L3 n k0 m) k0 v3 v4 ab0 ab1 ab2
noncomputable def F.zm.L7.step {X : Type} (n : Nat) (rec : Z0→Bool→Int→Int→Option X) (k2 : Z0→Bool→Int→Int→Option X) (v3 : Z0) (ab0 : Bool) (ab1 : Int) (ab2 : Int) : Option X:=
 bif decide ((v3.length : Int) ≤ (IntKind.wrap .i64 (0 - ab2))) then
  bif decide (1 + v3.length ≤ strMax) then
   rec (([48]) ++ v3) ab0 ab1 ab2
  else
   none
 else
  k2 v3 ab0 ab1 ab2
noncomputable def F.zm.L7 {X : Type} (n : Nat) (k2 : Z0→Bool→Int→Int→Option X) : Nat→Z0→Bool→Int→Int→Option X
 | 0 => fun _ _ _ _ => none
 | m + 1 => fun v3 ab0 ab1 ab2 => F.zm.L7.step n (F.zm.L7 n k2 m) k2 v3 ab0 ab1 ab2
noncomputable def F.zm (n : Nat) (a0 : Z17) : Option (Z0):=
 (F.zad n a0.2.1).bind fun y1 =>
  F.zm.L3 n
   (fun e3 g0 g1 g2 =>
    bif decide (g2 < (0 : Int)) then
     F.zm.L7 n
      (fun e3 g0 g1 g2 =>
       (sub e3 (0 : Int) (IntKind.wrap .i64 ((e3.length : Int) + g2))).bind fun x4 =>
        bif decide (x4.length + 1 ≤ strMax) then
         (sub e3 (IntKind.wrap .i64 ((e3.length : Int) + g2)) (e3.length : Int)).bind fun x5 =>
          bif decide (((x4 ++ ([46])).length) + x5.length ≤ strMax) then
           bif g0 then
            bif decide (1 + (((x4 ++ ([46])) ++ x5).length) ≤ strMax) then
             some (([45]) ++ ((x4 ++ ([46])) ++ x5))
            else
             none
           else
            some ((x4 ++ ([46])) ++ x5)
          else
           none
        else
         none) n e3 g0 g1 g2
    else
    bif g0 then
     bif decide (1 + e3.length ≤ strMax) then
      some (([45]) ++ e3)
     else
      none
    else
     some (e3)) n y1 (0 : Int) a0.1 a0.2.1 a0.2.2.1
noncomputable def F.zcb (n : Nat) (a0 : Int) : Option (Z0):=
 bif a0 == (1 : Int) then
  some ([99])
 else
 bif a0 == (2 : Int) then
  some ([103])
 else
 bif a0 == (3 : Int) then
  some ([109,115])
 else
 bif a0 == (4 : Int) then
  some ([104])
 else
  some ([])
noncomputable def F.zae.go (n : Nat) : Nat→(Int)→Option (Z0)
 | 0 => fun _ => none
 | m + 1 => fun a0 =>
  bif decide (a0 < (10 : Int)) then
   (sub ([48,49,50,51,52,53,54,55,56,57]) a0 (IntKind.wrap .u64 (a0 + (1 : Int)))).bind fun x1 =>
    some (x1)
  else
   (F.zae.go n m (IntKind.wrap .u64 (a0.tdiv (10 : Int)))).bind fun y2 =>
    (sub ([48,49,50,51,52,53,54,55,56,57]) (a0.tmod (10 : Int)) (IntKind.wrap .u64 ((a0.tmod (10 : Int)) + (1 : Int)))).bind fun x3 =>
     bif decide (y2.length + x3.length ≤ strMax) then
      some (y2 ++ x3)
     else
      none
noncomputable def F.zae (n : Nat) (a0 : Int) : Option (Z0):=F.zae.go n n a0
noncomputable def F.zf.L4.step {X : Type} (n : Nat) (rec : Z0→Option X) (k0 : Z0→Option X) (v3 : Z0) : Option X:=
 bif decide ((v3.length : Int) < (6 : Int)) then
  bif decide (1 + v3.length ≤ strMax) then
   rec (([48]) ++ v3)
  else
   none
 else
  k0 v3
noncomputable def F.zf.L4 {X : Type} (n : Nat) (k0 : Z0→Option X) : Nat→Z0→Option X
 | 0 => fun _ => none
 | m + 1 => fun v3 => F.zf.L4.step n (F.zf.L4 n k0 m) k0 v3
noncomputable def F.zf.L6.step {X : Type} (n : Nat) (rec : Z0→Option X) (k2 : Z0→Option X) (v3 : Z0) : Option X:=
 (idx v3 (IntKind.wrap .i64 ((v3.length : Int) - (1 : Int)))).bind fun x3 =>
  bif ((x3).toNat) == (48 : Int) then
   (sub v3 (0 : Int) (IntKind.wrap .i64 ((v3.length : Int) - (1 : Int)))).bind fun x4 =>
    rec x4
  else
   k2 v3
noncomputable def F.zf.L6 {X : Type} (n : Nat) (k2 : Z0→Option X) : Nat→Z0→Option X
 | 0 => fun _ => none
 | m + 1 => fun v3 => F.zf.L6.step n (F.zf.L6 n k2 m) k2 v3
noncomputable def F.zf (n : Nat) (a0 : Int) : Option (Z0):=
 bif a0 == (1000000 : Int) then
  some ([49])
 else
  (F.zae n (IntKind.wrap .u64 (a0))).bind fun y1 =>
   F.zf.L4 n
    (fun e3 =>
     F.zf.L6 n
      (fun e3 =>
       bif decide (2 + e3.length ≤ strMax) then
        some (([48,46]) ++ e3)
       else
        none) n e3) n y1
noncomputable def F.zbr (n : Nat) (a0 : Z7) : Option (Z0):=
 bif decide (a0.1.length + 1 ≤ strMax) then
  (idx a0.2.2.1 (0 : Int)).bind fun x1 =>
   (F.zm n (x1.1,x1.2.1,x1.2.2,())).bind fun y2 =>
    bif decide (((a0.1 ++ ([58])).length) + y2.length ≤ strMax) then
     bif decide ((((a0.1 ++ ([58])) ++ y2).length) + 1 ≤ strMax) then
      (F.zcb n a0.2.1).bind fun y3 =>
       bif decide (((((a0.1 ++ ([58])) ++ y2) ++ ([124])).length) + y3.length ≤ strMax) then
        bif !(a0.2.2.2.1 == (1000000 : Int)) then
         bif decide ((((((a0.1 ++ ([58])) ++ y2) ++ ([124])) ++ y3).length) + 2 ≤ strMax) then
          (F.zf n a0.2.2.2.1).bind fun y4 =>
           bif decide (((((((a0.1 ++ ([58])) ++ y2) ++ ([124])) ++ y3) ++ ([124,64])).length) + y4.length ≤ strMax) then
            some ((((((a0.1 ++ ([58])) ++ y2) ++ ([124])) ++ y3) ++ ([124,64])) ++ y4)
           else
            none
         else
          none
        else
         some ((((a0.1 ++ ([58])) ++ y2) ++ ([124])) ++ y3)
       else
        none
     else
      none
    else
     none
 else
  none
noncomputable def F.zce (n : Nat) : Option (Z10):=
 some ([[99],[103],[109,115],[104],[100]])
noncomputable def F.zb5 (n : Nat) (a0 : Z18) : Option (Z0):=
 bif a0.2.1 == [] then
  some (a0.1)
 else
 bif decide (a0.1.length + 1 ≤ strMax) then
  bif decide (((a0.1 ++ ([58])).length) + a0.2.1.length ≤ strMax) then
   some ((a0.1 ++ ([58])) ++ a0.2.1)
  else
   none
 else
  none
noncomputable def F.z6.L3.step {X : Type} (n : Nat) (rec : Z4→Z0→Int→Option X) (k0 : Z0→Option X) (v0 : Z4) (v3 : Z0) (v4 : Int) : Option X:=
 bif decide (v4 < (v0.length : Int)) then
  bif decide (v4 > (0 : Int)) then
   bif decide (v3.length + 1 ≤ strMax) then
    (idx v0 v4).bind fun x1 =>
     (F.zb5 n (x1.1,x1.2,())).bind fun y2 =>
      bif decide (((v3 ++ ([44])).length) + y2.length ≤ strMax) then
       rec v0 ((v3 ++ ([44])) ++ y2) (IntKind.wrap .i64 (v4 + (1 : Int)))
      else
       none
   else
    none
  else
   (idx v0 v4).bind fun x3 =>
    (F.zb5 n (x3.1,x3.2,())).bind fun y4 =>
     bif decide (v3.length + y4.length ≤ strMax) then
      rec v0 (v3 ++ y4) (IntKind.wrap .i64 (v4 + (1 : Int)))
     else
      none
 else
  k0 v3
noncomputable def F.z6.L3 {X : Type} (n : Nat) (k0 : Z0→Option X) : Nat→Z4→Z0→Int→Option X
 | 0 => fun _ _ _ => none
 | m + 1 => fun v0 v3 v4 => F.z6.L3.step n (F.z6.L3 n k0 m) k0 v0 v3 v4
noncomputable def F.z6 (n : Nat) (a0 : Z4) : Option (Z0):=
 F.z6.L3 n
  (fun e3 =>
   some (e3)) n a0 [] (0 : Int)
noncomputable def F.za5 (n : Nat) (a0 : Int) : Option (Z0):=
 (F.zae n (IntKind.wrap .u64 (a0))).bind fun y1 =>
  some (y1)
noncomputable def F.zak.L3.step {X : Type} (n : Nat) (rec : Z0→Int→Z0→Int→Z2→Int→Z4→Int→Option X) (k0 : Z0→Z0→Int→Z2→Int→Z4→Int→Option X) (v3 : Z0) (v4 : Int) (ab0 : Z0) (ab1 : Int) (ab2 : Z2) (ab3 : Int) (ab4 : Z4) (ab5 : Int) : Option X:=
 bif decide (v4 < (ab2.length : Int)) then
  bif decide (v3.length + 1 ≤ strMax) then
   (idx ab2 v4).bind fun x1 =>
    (F.zm n (x1.1,x1.2.1,x1.2.2,())).bind fun y2 =>
     bif decide (((v3 ++ ([58])).length) + y2.length ≤ strMax) then
      rec ((v3 ++ ([58])) ++ y2) (IntKind.wrap .i64 (v4 + (1 : Int))) ab0 ab1 ab2 ab3 ab4 ab5
     else
      none
  else
   none
 else
  k0 v3 ab0 ab1 ab2 ab3 ab4 ab5
noncomputable def F.zak.L3 {X : Type} (n : Nat) (k0 : Z0→Z0→Int→Z2→Int→Z4→Int→Option X) : Nat→Z0→Int→Z0→Int→Z2→Int→Z4→Int→Option X
 | 0 => fun _ _ _ _ _ _ _ _ => none
 | m + 1 => fun v3 v4 ab0 ab1 ab2 ab3 ab4 ab5 => F.zak.L3.step n (F.zak.L3 n k0 m) k0 v3 v4 ab0 ab1 ab2 ab3 ab4 ab5
noncomputable def F.zak (n : Nat) (a0 : Z7) : Option (Z0):=
 F.zak.L3 n
  (fun e3 g0 g1 g2 g3 g4 g5 =>
   bif decide (e3.length + 1 ≤ strMax) then
    (F.zce n ).bind fun y4 =>
     (idx y4 (IntKind.wrap .i64 (g1 - (1 : Int)))).bind fun x5 =>
      bif decide (((e3 ++ ([124])).length) + x5.length ≤ strMax) then
       bif !(g3 == (1000000 : Int)) then
        bif decide ((((e3 ++ ([124])) ++ x5).length) + 2 ≤ strMax) then
         (F.zf n g3).bind fun y6 =>
          bif decide (((((e3 ++ ([124])) ++ x5) ++ ([124,64])).length) + y6.length ≤ strMax) then
           bif decide ((g4.length : Int) > (0 : Int)) then
            bif decide ((((((e3 ++ ([124])) ++ x5) ++ ([124,64])) ++ y6).length) + 2 ≤ strMax) then
             (F.z6 n g4).bind fun y7 =>
              bif decide (((((((e3 ++ ([124])) ++ x5) ++ ([124,64])) ++ y6) ++ ([124,35])).length) + y7.length ≤ strMax) then
               bif !(g5 == (0 : Int)) then
                bif decide ((((((((e3 ++ ([124])) ++ x5) ++ ([124,64])) ++ y6) ++ ([124,35])) ++ y7).length) + 2 ≤ strMax) then
                 (F.za5 n g5).bind fun y8 =>
                  bif decide (((((((((e3 ++ ([124])) ++ x5) ++ ([124,64])) ++ y6) ++ ([124,35])) ++ y7) ++ ([124,84])).length) + y8.length ≤ strMax) then
                   some ((((((((e3 ++ ([124])) ++ x5) ++ ([124,64])) ++ y6) ++ ([124,35])) ++ y7) ++ ([124,84])) ++ y8)
                  else
                   none
                else
                 none
               else
                some ((((((e3 ++ ([124])) ++ x5) ++ ([124,64])) ++ y6) ++ ([124,35])) ++ y7)
              else
               none
            else
             none
           else
           bif !(g5 == (0 : Int)) then
            bif decide ((((((e3 ++ ([124])) ++ x5) ++ ([124,64])) ++ y6).length) + 2 ≤ strMax) then
             (F.za5 n g5).bind fun y9 =>
              bif decide (((((((e3 ++ ([124])) ++ x5) ++ ([124,64])) ++ y6) ++ ([124,84])).length) + y9.length ≤ strMax) then
               some ((((((e3 ++ ([124])) ++ x5) ++ ([124,64])) ++ y6) ++ ([124,84])) ++ y9)
              else
               none
            else
             none
           else
            some ((((e3 ++ ([124])) ++ x5) ++ ([124,64])) ++ y6)
          else
           none
        else
         none
       else
       bif decide ((g4.length : Int) > (0 : Int)) then
        bif decide ((((e3 ++ ([124])) ++ x5).length) + 2 ≤ strMax) then
         (F.z6 n g4).bind fun y10 =>
          bif decide (((((e3 ++ ([124])) ++ x5) ++ ([124,35])).length) + y10.length ≤ strMax) then
           bif !(g5 == (0 : Int)) then
            bif decide ((((((e3 ++ ([124])) ++ x5) ++ ([124,35])) ++ y10).length) + 2 ≤ strMax) then
             (F.za5 n g5).bind fun y11 =>
              bif decide (((((((e3 ++ ([124])) ++ x5) ++ ([124,35])) ++ y10) ++ ([124,84])).length) + y11.length ≤ strMax) then
               some ((((((e3 ++ ([124])) ++ x5) ++ ([124,35])) ++ y10) ++ ([124,84])) ++ y11)
              else
               none
            else
             none
           else
            some ((((e3 ++ ([124])) ++ x5) ++ ([124,35])) ++ y10)
          else
           none
        else
         none
       else
       bif !(g5 == (0 : Int)) then
        bif decide ((((e3 ++ ([124])) ++ x5).length) + 2 ≤ strMax) then
         (F.za5 n g5).bind fun y12 =>
          bif decide (((((e3 ++ ([124])) ++ x5) ++ ([124,84])).length) + y12.length ≤ strMax) then
           some ((((e3 ++ ([124])) ++ x5) ++ ([124,84])) ++ y12)
          else
           none
        else
         none
       else
        some ((e3 ++ ([124])) ++ x5)
      else
       none
   else
    none) n a0.1 (0 : Int) a0.1 a0.2.1 a0.2.2.1 a0.2.2.2.1 a0.2.2.2.2.1 a0.2.2.2.2.2.1
noncomputable def F.zbs (n : Nat) (a0 : Z7) : Option (Z0):=
 bif decide (a0.1.length + 1 ≤ strMax) then
  (idx a0.2.2.1 (0 : Int)).bind fun x1 =>
   (F.zm n (x1.1,x1.2.1,x1.2.2,())).bind fun y2 =>
    bif decide (((a0.1 ++ ([32])).length) + y2.length ≤ strMax) then
     bif decide ((((a0.1 ++ ([32])) ++ y2).length) + 1 ≤ strMax) then
      (F.za5 n a0.2.2.2.2.2.1).bind fun y3 =>
       bif decide (((((a0.1 ++ ([32])) ++ y2) ++ ([32])).length) + y3.length ≤ strMax) then
        some ((((a0.1 ++ ([32])) ++ y2) ++ ([32])) ++ y3)
       else
        none
     else
      none
    else
     none
 else
  none
noncomputable def F.zbt (n : Nat) (a0 : Z7) (a1 : Int) : Option (Z0):=
 bif a1 == (1 : Int) then
  (F.zbr n (a0.1,a0.2.1,a0.2.2.1,a0.2.2.2.1,a0.2.2.2.2.1,a0.2.2.2.2.2.1,())).bind fun y1 =>
   some (y1)
 else
 bif a1 == (2 : Int) then
  (F.zak n (a0.1,a0.2.1,a0.2.2.1,a0.2.2.2.1,a0.2.2.2.2.1,a0.2.2.2.2.2.1,())).bind fun y2 =>
   some (y2)
 else
  (F.zbs n (a0.1,a0.2.1,a0.2.2.1,a0.2.2.2.1,a0.2.2.2.2.1,a0.2.2.2.2.2.1,())).bind fun y3 =>
   some (y3)
noncomputable def F.zab.L10.step {X : Type} (n : Nat) (rec : Int→Z6→Z10→Int→Nat→Option X) (k0 : Z10→Nat→Option X) (v1 : Int) (v7 : Z6) (v10 : Z10) (v11 : Int) (vk0 : Nat) : Option X:=
 bif decide (v11 < (v7.length : Int)) then
  (idx v7 v11).bind fun x4 =>
   (F.zbt n (x4.1,x4.2.1,x4.2.2.1,x4.2.2.2.1,x4.2.2.2.2.1,x4.2.2.2.2.2,()) v1).bind fun y5 =>
    bif decide ((v10.length + 1) * 16 ≤ 2 ^ 46) && decide (0 < 16 ∧ 16 ≤ 2 ^ 20) then
     bif Nat.beq vk0 v10.length then
      rec v1 v7 (v10 ++ ([y5])) (IntKind.wrap .i64 (v11 + (1 : Int))) ((v10 ++ ([y5])).length)
     else
      none
    else
     none
 else
  k0 v10 vk0
noncomputable def F.zab.L10 {X : Type} (n : Nat) (k0 : Z10→Nat→Option X) : Nat→Int→Z6→Z10→Int→Nat→Option X
 | 0 => fun _ _ _ _ _ => none
 | m + 1 => fun v1 v7 v10 v11 vk0 => F.zab.L10.step n (F.zab.L10 n k0 m) k0 v1 v7 v10 v11 vk0
noncomputable def F.zab (n : Nat) (a0 : Z6) (a1 : Int) : Option ((Z10) × (Int) × (Int) × Unit):=
 (F.zcl n a1).bind fun y1 =>
  bif !y1 then
   some (([],(0 : Int),(29 : Int),()))
  else
   (F.z8 n a0).bind fun y2 =>
    bif y2.2.2.1 == (0 : Int) then
     (F.zaw n y2.1 a1).bind fun y3 =>
      bif !(y3.2.1 == (0 : Int)) then
       some (([],y3.1,y3.2.1,()))
      else
       F.zab.L10 n
        (fun e10 ek0 =>
         some ((e10,(0 : Int),(0 : Int),()))) n a1 y2.1 [] (0 : Int) 0
    else
    bif !(y2.2.2.1 == (0 : Int)) then
     some (([],y2.2.1,y2.2.2.1,()))
    else
     F.zab.L10 n
      (fun e10 ek0 =>
       some ((e10,(0 : Int),(0 : Int),()))) n a1 y2.1 [] (0 : Int) 0
noncomputable def F.zd.L7.step {X : Type} (n : Nat) (rec : Z10→Int→Int→Int→Z23→Option X) (k2 : Z10→Int→Int→Z23→Option X) (kr : Z12→Int→Int→Z23→Z23→Option X) (v0 : Z10) (v1 : Int) (v7 : Int) (v8 : Int) (ab0 : Z23) : Option X:=
 (idx v0 v7).bind fun x2 =>
  bif decide (v8 < (x2.length : Int)) then
   (idx v0 v7).bind fun x3 =>
    (idx x3 v8).bind fun x4 =>
     bif ((x4).toNat) == (10 : Int) then
      kr (1,0) v7 (14 : Int) (ab0.1,ab0.2) (1,[])
     else
      rec v0 v1 v7 (IntKind.wrap .i64 (v8 + (1 : Int))) (ab0.1,ab0.2)
  else
   k2 v0 v1 v7 (ab0.1,ab0.2)
noncomputable def F.zd.L7 {X : Type} (n : Nat) (k2 : Z10→Int→Int→Z23→Option X) (kr : Z12→Int→Int→Z23→Z23→Option X) : Nat→Z10→Int→Int→Int→Z23→Option X
 | 0 => fun _ _ _ _ _ => none
 | m + 1 => fun v0 v1 v7 v8 ab0 => F.zd.L7.step n (F.zd.L7 n k2 kr m) k2 kr v0 v1 v7 v8 ab0
noncomputable def F.zd.L4.step {X : Type} (n : Nat) (rec : Z10→Int→Int→Z23→Option X) (k0 : Z10→Int→Z23→Option X) (kr : Z12→Int→Int→Z23→Z23→Option X) (v0 : Z10) (v1 : Int) (v7 : Int) (ab0 : Z23) : Option X:=
 bif decide (v7 < (v0.length : Int)) then
  F.zd.L7 n
   (fun e0 e1 e7 g0 =>
    (idx e0 e7).bind fun x6 =>
     bif decide ((IntKind.wrap .i64 ((x6.length : Int) + (1 : Int))) > e1) then
      kr (1,0) e7 (27 : Int) (g0.1,g0.2) (1,[])
     else
      rec e0 e1 (IntKind.wrap .i64 (e7 + (1 : Int))) (g0.1,g0.2))
   (fun e4 e5 e6 g0 h0 =>
    kr (e4.1,e4.2) e5 e6 (g0.1,g0.2) (h0.1,h0.2)) n v0 v1 v7 (0 : Int) (ab0.1,ab0.2)
 else
  k0 v0 v1 (ab0.1,ab0.2)
noncomputable def F.zd.L4 {X : Type} (n : Nat) (k0 : Z10→Int→Z23→Option X) (kr : Z12→Int→Int→Z23→Z23→Option X) : Nat→Z10→Int→Int→Z23→Option X
 | 0 => fun _ _ _ _ => none
 | m + 1 => fun v0 v1 v7 ab0 => F.zd.L4.step n (F.zd.L4 n k0 kr m) k0 kr v0 v1 v7 ab0
noncomputable def F.zd.L15.step {X : Type} (n : Nat) (rec : Z10→Int→Z12→Int→Z23→Z23→Option X) (k4 : Z12→Z23→Z23→Option X) (v0 : Z10) (v1 : Int) (v9 : Z12) (v10 : Int) (ab0 : Z23) (bb0 : Z23) : Option X:=
 bif decide (v10 < (v0.length : Int)) then
  bif ((v9.2 : Nat) : Int) == (0 : Int) then
   bif Nat.beq v9.1 bb0.1 then
    bif decide ((bb0.2.length + 1) * 16 ≤ 2 ^ 46) && decide (0 < 16 ∧ 16 ≤ 2 ^ 20) then
     bif decide (0 ≤ (IntKind.wrap .i64 ((((bb0.2 ++ ([[]])).length : Nat) : Int) - (1 : Int)))) && decide ((IntKind.wrap .i64 ((((bb0.2 ++ ([[]])).length : Nat) : Int) - (1 : Int))) < (((bb0.2 ++ ([[]])).length : Nat) : Int)) then
      bif Nat.beq (v9.1 + 1) (v9.1 + 1) then
       (idx (bb0.2 ++ ([[]])) (IntKind.wrap .i64 ((((bb0.2 ++ ([[]])).length : Nat) : Int) - (1 : Int)))).bind fun x9 =>
        (idx v0 v10).bind fun x10 =>
         bif decide (x9.length + x10.length ≤ strMax) then
          bif decide (((x9 ++ x10).length) + 1 ≤ strMax) then
           bif decide (0 ≤ (IntKind.wrap .i64 ((((bb0.2 ++ ([[]])).length : Nat) : Int) - (1 : Int)))) && decide ((IntKind.wrap .i64 ((((bb0.2 ++ ([[]])).length : Nat) : Int) - (1 : Int))) < (((bb0.2 ++ ([[]])).length : Nat) : Int)) then
            bif Nat.beq (v9.1 + 1) (v9.1 + 1) then
             (idx (bb0.2 ++ ([[]])) (IntKind.wrap .i64 ((((bb0.2 ++ ([[]])).length : Nat) : Int) - (1 : Int)))).bind fun x11 =>
              rec v0 v1 (v9.1 + 1,(bb0.2 ++ ([[]])).length) (IntKind.wrap .i64 (v10 + (1 : Int))) (ab0.1,ab0.2) (v9.1 + 1,upd (bb0.2 ++ ([[]])) (Int.toNat (IntKind.wrap .i64 ((((bb0.2 ++ ([[]])).length : Nat) : Int) - (1 : Int)))) ((x9 ++ x10) ++ ([10])))
            else
             none
           else
            none
          else
           none
         else
          none
      else
       none
     else
      none
    else
     none
   else
    none
  else
  bif decide (0 ≤ (IntKind.wrap .i64 (((v9.2 : Nat) : Int) - (1 : Int)))) && decide ((IntKind.wrap .i64 (((v9.2 : Nat) : Int) - (1 : Int))) < ((v9.2 : Nat) : Int)) then
   bif Nat.beq v9.1 bb0.1 then
    (idx bb0.2 (IntKind.wrap .i64 (((v9.2 : Nat) : Int) - (1 : Int)))).bind fun x12 =>
     (idx v0 v10).bind fun x13 =>
      bif decide ((IntKind.wrap .i64 ((IntKind.wrap .i64 ((x12.length : Int) + (x13.length : Int))) + (1 : Int))) > v1) then
       bif Nat.beq v9.1 bb0.1 then
        bif decide ((bb0.2.length + 1) * 16 ≤ 2 ^ 46) && decide (0 < 16 ∧ 16 ≤ 2 ^ 20) then
         bif decide (0 ≤ (IntKind.wrap .i64 ((((bb0.2 ++ ([[]])).length : Nat) : Int) - (1 : Int)))) && decide ((IntKind.wrap .i64 ((((bb0.2 ++ ([[]])).length : Nat) : Int) - (1 : Int))) < (((bb0.2 ++ ([[]])).length : Nat) : Int)) then
          bif Nat.beq (v9.1 + 1) (v9.1 + 1) then
           (idx (bb0.2 ++ ([[]])) (IntKind.wrap .i64 ((((bb0.2 ++ ([[]])).length : Nat) : Int) - (1 : Int)))).bind fun x14 =>
            (idx v0 v10).bind fun x15 =>
             bif decide (x14.length + x15.length ≤ strMax) then
              bif decide (((x14 ++ x15).length) + 1 ≤ strMax) then
               bif decide (0 ≤ (IntKind.wrap .i64 ((((bb0.2 ++ ([[]])).length : Nat) : Int) - (1 : Int)))) && decide ((IntKind.wrap .i64 ((((bb0.2 ++ ([[]])).length : Nat) : Int) - (1 : Int))) < (((bb0.2 ++ ([[]])).length : Nat) : Int)) then
                bif Nat.beq (v9.1 + 1) (v9.1 + 1) then
                 (idx (bb0.2 ++ ([[]])) (IntKind.wrap .i64 ((((bb0.2 ++ ([[]])).length : Nat) : Int) - (1 : Int)))).bind fun x16 =>
                  rec v0 v1 (v9.1 + 1,(bb0.2 ++ ([[]])).length) (IntKind.wrap .i64 (v10 + (1 : Int))) (ab0.1,ab0.2) (v9.1 + 1,upd (bb0.2 ++ ([[]])) (Int.toNat (IntKind.wrap .i64 ((((bb0.2 ++ ([[]])).length : Nat) : Int) - (1 : Int)))) ((x14 ++ x15) ++ ([10])))
                else
                 none
               else
                none
              else
               none
             else
              none
          else
           none
         else
          none
        else
         none
       else
        none
      else
      bif decide (0 ≤ (IntKind.wrap .i64 (((v9.2 : Nat) : Int) - (1 : Int)))) && decide ((IntKind.wrap .i64 (((v9.2 : Nat) : Int) - (1 : Int))) < ((v9.2 : Nat) : Int)) then
       bif Nat.beq v9.1 bb0.1 then
        (idx bb0.2 (IntKind.wrap .i64 (((v9.2 : Nat) : Int) - (1 : Int)))).bind fun x17 =>
         (idx v0 v10).bind fun x18 =>
          bif decide (x17.length + x18.length ≤ strMax) then
           bif decide (((x17 ++ x18).length) + 1 ≤ strMax) then
            bif decide (0 ≤ (IntKind.wrap .i64 (((v9.2 : Nat) : Int) - (1 : Int)))) && decide ((IntKind.wrap .i64 (((v9.2 : Nat) : Int) - (1 : Int))) < ((v9.2 : Nat) : Int)) then
             bif Nat.beq v9.1 bb0.1 then
              (idx bb0.2 (IntKind.wrap .i64 (((v9.2 : Nat) : Int) - (1 : Int)))).bind fun x19 =>
               rec v0 v1 (v9.1,v9.2) (IntKind.wrap .i64 (v10 + (1 : Int))) (ab0.1,ab0.2) (v9.1,upd bb0.2 (Int.toNat (IntKind.wrap .i64 (((v9.2 : Nat) : Int) - (1 : Int)))) ((x17 ++ x18) ++ ([10])))
             else
              none
            else
             none
           else
            none
          else
           none
       else
        none
      else
       none
   else
    none
  else
   none
 else
  k4 (v9.1,v9.2) (ab0.1,ab0.2) (bb0.1,bb0.2)
noncomputable def F.zd.L15 {X : Type} (n : Nat) (k4 : Z12→Z23→Z23→Option X) : Nat→Z10→Int→Z12→Int→Z23→Z23→Option X
 | 0 => fun _ _ _ _ _ _ => none
 | m + 1 => fun v0 v1 v9 v10 ab0 bb0 => F.zd.L15.step n (F.zd.L15 n k4 m) k4 v0 v1 v9 v10 ab0 bb0
noncomputable def F.zd (n : Nat) (a0 : Z10) (a1 : Int) : Option ((Z10) × (Int) × (Int) × Unit):=
 (F.zb4 n a1).bind fun y1 =>
  bif !y1 then
   some (([],(0 : Int),(10 : Int),()))
  else
   F.zd.L4 n
    (fun e0 e1 g0 =>
     F.zd.L15 n
      (fun e9 g0 h0 =>
       bif Nat.beq e9.1 h0.1 then
        some ((h0.2,(0 : Int),(0 : Int),()))
       else
        none) n e0 e1 (1,0) (0 : Int) (g0.1,g0.2) (1,[]))
    (fun e4 e5 e6 g0 h0 =>
     bif Nat.beq e4.1 h0.1 then
      some ((h0.2,e5,e6,()))
     else
      none) n a0 a1 (0 : Int) (1,[])
noncomputable def F.zbx (n : Nat) (a0 : Z6) (a1 : Int) (a2 : Int) : Option ((Z10) × (Int) × (Int) × Unit):=
 (F.zb4 n a2).bind fun y1 =>
  bif !y1 then
   some (([],(0 : Int),(10 : Int),()))
  else
  bif a1 == (4 : Int) then
   (F.zbd n a0).bind fun y2 =>
    bif !(y2.2.2.1 == (0 : Int)) then
     some (([],y2.2.1,y2.2.2.1,()))
    else
    bif decide ((y2.1.length : Int) > a2) then
     some (([],(0 : Int),(27 : Int),()))
    else
     some (([y2.1],(0 : Int),(0 : Int),()))
  else
   (F.zab n a0 a1).bind fun y3 =>
    bif !(y3.2.2.1 == (0 : Int)) then
     some (([],y3.2.1,y3.2.2.1,()))
    else
     (F.zd n y3.1 a2).bind fun y4 =>
      some ((y4.1,y4.2.1,y4.2.2.1,()))
noncomputable def F.zai.L9.step {X : Type} (n : Nat) (rec : Int→Z10→Int→Int→Option X) (k0 : Int→Option X) (v13 : Int) (v39 : Z10) (v40 : Int) (v41 : Int) : Option X:=
 bif decide (v41 < v40) then
  (idx v39 v41).bind fun x3 =>
   rec (if (IntKind.wrap .i64 ((x3.length : Int) + (1 : Int))) > v13 then (IntKind.wrap .i64 ((x3.length : Int) + (1 : Int))) else v13) v39 v40 (IntKind.wrap .i64 (v41 + (1 : Int)))
 else
  k0 v13
noncomputable def F.zai.L9 {X : Type} (n : Nat) (k0 : Int→Option X) : Nat→Int→Z10→Int→Int→Option X
 | 0 => fun _ _ _ _ => none
 | m + 1 => fun v13 v39 v40 v41 => F.zai.L9.step n (F.zai.L9 n k0 m) k0 v13 v39 v40 v41
noncomputable def F.zai (n : Nat) (a0 : Z6) (a1 : Int) : Option ((Int) × (Int) × (Int) × Unit):=
 bif a1 == (4 : Int) then
  (F.zb n a0).bind fun y1 =>
   some (((y1.1.length : Int),y1.2.1,y1.2.2.1,()))
 else
  (F.zy n a0 a1).bind fun y2 =>
   bif !(y2.2.2.1 == (0 : Int)) then
    some (((0 : Int),y2.2.1,y2.2.2.1,()))
   else
    F.zai.L9 n
     (fun e13 =>
      some ((e13,(0 : Int),(0 : Int),()))) n (1 : Int) y2.1 (y2.1.length : Int) (0 : Int)
noncomputable def F.zaj.L9.step {X : Type} (n : Nat) (rec : Z10→Int→Int→Option X) (k0 : Int→Option X) (v10 : Z10) (v13 : Int) (v14 : Int) : Option X:=
 bif decide (v14 < (v10.length : Int)) then
  (idx v10 v14).bind fun x3 =>
   bif decide ((IntKind.wrap .i64 ((x3.length : Int) + (1 : Int))) > v13) then
    (idx v10 v14).bind fun x4 =>
     rec v10 (IntKind.wrap .i64 ((x4.length : Int) + (1 : Int))) (IntKind.wrap .i64 (v14 + (1 : Int)))
   else
    rec v10 v13 (IntKind.wrap .i64 (v14 + (1 : Int)))
 else
  k0 v13
noncomputable def F.zaj.L9 {X : Type} (n : Nat) (k0 : Int→Option X) : Nat→Z10→Int→Int→Option X
 | 0 => fun _ _ _ => none
 | m + 1 => fun v10 v13 v14 => F.zaj.L9.step n (F.zaj.L9 n k0 m) k0 v10 v13 v14
noncomputable def F.zaj (n : Nat) (a0 : Z6) (a1 : Int) : Option ((Int) × (Int) × (Int) × Unit):=
 bif a1 == (4 : Int) then
  (F.zbd n a0).bind fun y1 =>
   some (((y1.1.length : Int),y1.2.1,y1.2.2.1,()))
 else
  (F.zab n a0 a1).bind fun y2 =>
   bif !(y2.2.2.1 == (0 : Int)) then
    some (((0 : Int),y2.2.1,y2.2.2.1,()))
   else
    F.zaj.L9 n
     (fun e13 =>
      some ((e13,(0 : Int),(0 : Int),()))) n y2.1 (1 : Int) (0 : Int)
noncomputable def F.zbo (n : Nat) (a0 : Z6) (a1 : Int) (a2 : Int) : Option (Bool):=
 (F.zar n a0).bind fun y1 =>
  bif !y1 then
   (F.zbj n ).bind fun y2 =>
    some (y2)
  else
   (F.zbu n a0 a1 a2).bind fun y3 =>
    (F.zbx n a0 a1 a2).bind fun y4 =>
     (F.zai n a0 a1).bind fun y5 =>
      (F.zaj n a0 a1).bind fun y6 =>
       (F.zaf n y3.1 y4.1).bind fun y7 =>
        bif y7 then
         bif y3.2.1 == y4.2.1 then
          bif y3.2.2.1 == y4.2.2.1 then
           bif y5.1 == y6.1 then
            bif y5.2.1 == y6.2.1 then
             bif y5.2.2.1 == y6.2.2.1 then
              (F.zbj n ).bind fun y8 =>
               some (y8)
             else
              some (false)
            else
             some (false)
           else
            some (false)
          else
           some (false)
         else
          some (false)
        else
         some (false)
end Go.AM
namespace Go.Proofs
open Go.Shelf
def Tryz.lays156_ren : Go.Shelf.Ren:=⟨fun | 156 => 44 | 165 => 74 | 166 => 75 | 169 => 76 | 240 => 135 | 241 => 136 | 276 => 190 | 277 => 45 | n => n,fun | 31 => 29 | 9 => 9 | 3 => 3 | 4 => 4 | 0 => 0 | 20 => 20 | 72 => 118 | 76 => 121 | 70 => 116 | 37 => 42 | 75 => 120 | 127 => 186 | 164 => 230 | 5 => 5 | 80 => 123 | n => n,fun | n => n⟩
theorem Tryz.lays156 : Go.Proofs.Lays.n156 Tryz.prog Tryz.lays156_ren:={
  mixed:=by kernel_rfl
  f156:=Tryz.func44.trans (congrArg some (by kernel_rfl))
  f165:=Tryz.func74.trans (congrArg some (by kernel_rfl))
  f166:=Tryz.func75.trans (congrArg some (by kernel_rfl))
  f169:=Tryz.func76.trans (congrArg some (by kernel_rfl))
  f240:=Tryz.func135.trans (congrArg some (by kernel_rfl))
  f241:=Tryz.func136.trans (congrArg some (by kernel_rfl))
  f276:=Tryz.func190.trans (congrArg some (by kernel_rfl))
  f277:=Tryz.func45.trans (congrArg some (by kernel_rfl))
  t0:=Tryz.underlying0
  a0:=Tryz.isAgg0
  z0:=Tryz.sizeOf0
  v0:=Tryz.zeroValue0
  t3:=Tryz.underlying3
  a3:=Tryz.isAgg3
  z3:=Tryz.sizeOf3
  v3:=Tryz.zeroValue3
  t4:=Tryz.underlying4
  a4:=Tryz.isAgg4
  z4:=Tryz.sizeOf4
  v4:=Tryz.zeroValue4
  t9:=Tryz.underlying9
  a9:=Tryz.isAgg9
  z9:=Tryz.sizeOf9
  v9:=Tryz.zeroValue9
  t20:=Tryz.underlying20
  a20:=Tryz.isAgg20
  z20:=Tryz.sizeOf20
  v20:=Tryz.zeroValue20
  t31:=Tryz.underlying29
  a31:=Tryz.isAgg29
  z31:=Tryz.sizeOf29
  v31:=Tryz.zeroValue29
  t37:=Tryz.underlying42
  a37:=Tryz.isAgg42
  z37:=Tryz.sizeOf42
  v37:=Tryz.zeroValue42
  t70:=Tryz.underlying116
  a70:=Tryz.isAgg116
  z70:=Tryz.sizeOf116
  v70:=Tryz.zeroValue116
  t72:=Tryz.underlying118
  a72:=Tryz.isAgg118
  z72:=Tryz.sizeOf118
  v72:=Tryz.zeroValue118
  t75:=Tryz.underlying120
  a75:=Tryz.isAgg120
  z75:=Tryz.sizeOf120
  v75:=Tryz.zeroValue120
  t76:=Tryz.underlying121
  a76:=Tryz.isAgg121
  z76:=Tryz.sizeOf121
  v76:=Tryz.zeroValue121
  t127:=Tryz.underlying186
  a127:=Tryz.isAgg186
  z127:=Tryz.sizeOf186
  v127:=Tryz.zeroValue186
  t164:=Tryz.underlying230
  a164:=Tryz.isAgg230
  z164:=Tryz.sizeOf230
  v164:=Tryz.zeroValue230 }
theorem Tryz.Builder_Extra_156 : Builder.Extra Tryz.prog Tryz.lays156_ren:={
  sizeBuilder:=by kernel_rfl
  liesBuilder:=by kernel_rfl
  t5:=Tryz.underlying5
  a5:=Tryz.isAgg5
  z5:=Tryz.sizeOf5
  v5:=Tryz.zeroValue5
  infoByte:=by kernel_rfl
  cellsByte:=by kernel_rfl
  sizeByte:=by kernel_rfl
  neB5:=by decide }
open Go.RowKit in
theorem Tryz.strings_Join_none (a : Option Addr) (c : Nat) (sep : ByteArray) (w : World) :
    Calls Tryz.prog 44 #[.slice a 0 c,.string sep] w fun e w' => e = .returned (.string ⟨#[]⟩) ∧ w' = w:=Any.strings_Join_none Tryz.lays156 Tryz.Builder_Extra_156 a c sep w
open Go.RowKit in
theorem Tryz.strings_Join (bk o c : Nat) (xs : List ByteArray) (sep : ByteArray) (w : World) (hcells : ∀ (j : Nat) x,xs[j]? = some x→w.cell? ⟨bk,o + j,none⟩ = some (.string x)) (hbk : bk < w.heap.size) (hN : xs.length ≤ 140737488355328) (hcap : xs.length ≤ c) (hlen : (Lib.join (xs.map (·.data.toList)) sep.data.toList).length ≤ 140737488355328) :
    Calls Tryz.prog 44 #[.slice (some ⟨bk,o,none⟩) xs.length c,.string sep] w fun e w' => e = .returned (.string ⟨(Lib.join (xs.map (·.data.toList)) sep.data.toList).toArray⟩) ∧ Below w.heap.size w w':=Any.strings_Join Tryz.lays156 Tryz.Builder_Extra_156 bk o c xs sep w hcells hbk hN hcap hlen
def Tryz.lays162_ren : Go.Shelf.Ren:=⟨fun | 162 => 157 | 232 => 202 | 227 => 203 | 234 => 204 | 236 => 205 | 228 => 238 | 271 => 239 | 151 => 240 | 120 => 256 | 197 => 242 | 152 => 257 | 260 => 258 | 137 => 265 | 119 => 266 | 224 => 133 | 225 => 132 | 217 => 131 | 266 => 188 | n => n,fun | 9 => 9 | 4 => 4 | 3 => 3 | 5 => 5 | 117 => 245 | 116 => 244 | 0 => 0 | 124 => 248 | 21 => 21 | 105 => 273 | 46 => 91 | 119 => 293 | 139 => 296 | 138 => 295 | n => n,fun | 3 => 2 | 4 => 3 | n => n⟩
theorem Tryz.lays162 : Go.Proofs.Lays.n162 Tryz.prog Tryz.lays162_ren:={
  mixed:=by kernel_rfl
  f119:=Tryz.func266.trans (congrArg some (by kernel_rfl))
  f120:=Tryz.func256.trans (congrArg some (by kernel_rfl))
  f137:=Tryz.func265.trans (congrArg some (by kernel_rfl))
  f151:=Tryz.func240.trans (congrArg some (by kernel_rfl))
  f152:=Tryz.func257.trans (congrArg some (by kernel_rfl))
  f162:=Tryz.func157.trans (congrArg some (by kernel_rfl))
  f197:=Tryz.func242.trans (congrArg some (by kernel_rfl))
  f217:=Tryz.func131.trans (congrArg some (by kernel_rfl))
  f224:=Tryz.func133.trans (congrArg some (by kernel_rfl))
  f225:=Tryz.func132.trans (congrArg some (by kernel_rfl))
  f227:=Tryz.func203.trans (congrArg some (by kernel_rfl))
  f228:=Tryz.func238.trans (congrArg some (by kernel_rfl))
  f232:=Tryz.func202.trans (congrArg some (by kernel_rfl))
  f234:=Tryz.func204.trans (congrArg some (by kernel_rfl))
  f236:=Tryz.func205.trans (congrArg some (by kernel_rfl))
  f260:=Tryz.func258.trans (congrArg some (by kernel_rfl))
  f266:=Tryz.func188.trans (congrArg some (by kernel_rfl))
  f271:=Tryz.func239.trans (congrArg some (by kernel_rfl))
  t0:=Tryz.underlying0
  a0:=Tryz.isAgg0
  z0:=Tryz.sizeOf0
  v0:=Tryz.zeroValue0
  t3:=Tryz.underlying3
  a3:=Tryz.isAgg3
  z3:=Tryz.sizeOf3
  v3:=Tryz.zeroValue3
  t4:=Tryz.underlying4
  a4:=Tryz.isAgg4
  z4:=Tryz.sizeOf4
  v4:=Tryz.zeroValue4
  t5:=Tryz.underlying5
  a5:=Tryz.isAgg5
  z5:=Tryz.sizeOf5
  v5:=Tryz.zeroValue5
  t9:=Tryz.underlying9
  a9:=Tryz.isAgg9
  z9:=Tryz.sizeOf9
  v9:=Tryz.zeroValue9
  t21:=Tryz.underlying21
  a21:=Tryz.isAgg21
  z21:=Tryz.sizeOf21
  v21:=Tryz.zeroValue21
  t46:=Tryz.underlying91
  a46:=Tryz.isAgg91
  z46:=Tryz.sizeOf91
  v46:=Tryz.zeroValue91
  t105:=Tryz.underlying273
  a105:=Tryz.isAgg273
  z105:=Tryz.sizeOf273
  v105:=Tryz.zeroValue273
  t116:=Tryz.underlying244
  a116:=Tryz.isAgg244
  z116:=Tryz.sizeOf244
  t117:=Tryz.underlying245
  a117:=Tryz.isAgg245
  z117:=Tryz.sizeOf245
  v117:=Tryz.zeroValue245
  t119:=Tryz.underlying293
  a119:=Tryz.isAgg293
  z119:=Tryz.sizeOf293
  t124:=Tryz.underlying248
  a124:=Tryz.isAgg248
  z124:=Tryz.sizeOf248
  v124:=Tryz.zeroValue248
  t138:=Tryz.underlying295
  a138:=Tryz.isAgg295
  z138:=Tryz.sizeOf295
  v138:=Tryz.zeroValue295
  t139:=Tryz.underlying296
  a139:=Tryz.isAgg296
  z139:=Tryz.sizeOf296
  v139:=Tryz.zeroValue296
  g3:=by kernel_rfl
  g4:=by kernel_rfl }
open Go.RowKit in
theorem Tryz.strings_TrimRight_one (s : ByteArray) (c : UInt8) (hc : c.toNat < 128) (w : World) (hs : s.size ≤ 9223372036854775807) :
    Calls Tryz.prog 157 #[.string s,.string ⟨#[c]⟩] w fun e w' => e = .returned (.string ⟨(Lib.trimRightB s.data.toList c).toArray⟩) ∧ w' = w:=Any.strings_TrimRight_one Tryz.lays162 s c hc w hs
def Tryz.lays283_ren : Go.Shelf.Ren:=⟨fun | 283 => 232 | n => n,fun | 3 => 3 | 9 => 9 | 4 => 4 | n => n,fun | n => n⟩
theorem Tryz.lays283 : Go.Proofs.Lays.n283 Tryz.prog Tryz.lays283_ren:={
  mixed:=by kernel_rfl
  f283:=Tryz.func232.trans (congrArg some (by kernel_rfl))
  t3:=Tryz.underlying3
  a3:=Tryz.isAgg3
  z3:=Tryz.sizeOf3
  v3:=Tryz.zeroValue3
  t4:=Tryz.underlying4
  a4:=Tryz.isAgg4
  z4:=Tryz.sizeOf4
  v4:=Tryz.zeroValue4
  t9:=Tryz.underlying9
  a9:=Tryz.isAgg9
  z9:=Tryz.sizeOf9
  v9:=Tryz.zeroValue9 }
open Go.Lib in
theorem Tryz.internal_strconv_small (i : Nat) (h : i < 100) (w : World) :
    Calls Tryz.prog 232 #[.int .i64 i] w fun e w' => e = .returned (.string ⟨(Lib.decDigits i).toArray⟩) ∧ w' = w:=Any.internal_strconv_small Tryz.lays283 i h w
def Tryz.laysM284_ren : Go.Shelf.Ren:=⟨fun | 284 => 233 | 129 => 231 | 317 => 252 | 318 => 253 | n => n,fun | 53 => 62 | 3 => 3 | 212 => 284 | 0 => 0 | 4 => 4 | 46 => 91 | 5 => 5 | 9 => 9 | n => n,fun | 17 => 1 | n => n⟩
theorem Tryz.laysM284 : Go.Proofs.LaysM.n284 Tryz.prog Tryz.laysM284_ren:={
  mixed:=by kernel_rfl
  f129:=Tryz.func231.trans (congrArg some (by kernel_rfl))
  f284:=Tryz.func233.trans (congrArg some (by kernel_rfl))
  f317:=Tryz.func252.trans (congrArg some (by kernel_rfl))
  f318:=Tryz.func253.trans (congrArg some (by kernel_rfl))
  t0:=Tryz.underlying0
  a0:=Tryz.isAgg0
  z0:=Tryz.sizeOf0
  v0:=Tryz.zeroValue0
  t3:=Tryz.underlying3
  a3:=Tryz.isAgg3
  z3:=Tryz.sizeOf3
  v3:=Tryz.zeroValue3
  t4:=Tryz.underlying4
  a4:=Tryz.isAgg4
  z4:=Tryz.sizeOf4
  v4:=Tryz.zeroValue4
  t5:=Tryz.underlying5
  a5:=Tryz.isAgg5
  z5:=Tryz.sizeOf5
  v5:=Tryz.zeroValue5
  t9:=Tryz.underlying9
  a9:=Tryz.isAgg9
  z9:=Tryz.sizeOf9
  v9:=Tryz.zeroValue9
  t46:=Tryz.underlying91
  a46:=Tryz.isAgg91
  z46:=Tryz.sizeOf91
  v46:=Tryz.zeroValue91
  t53:=Tryz.underlying62
  a53:=Tryz.isAgg62
  z53:=Tryz.sizeOf62
  v53:=Tryz.zeroValue62
  t212:=Tryz.underlying284
  a212:=Tryz.isAgg284
  z212:=Tryz.sizeOf284
  v212:=Tryz.zeroValue284
  g17:=by kernel_rfl
  i0:=by kernel_rfl
  i3:=by kernel_rfl
  i4:=by kernel_rfl
  i5:=by kernel_rfl
  i9:=by kernel_rfl
  i46:=by kernel_rfl
  i53:=by kernel_rfl
  i212:=by kernel_rfl
  m17:=by kernel_rfl }
open Go.Lib in
theorem Tryz.internal_strconv_numDigits (u : Nat) (h1 : 1 ≤ u) (h2 : u < 18446744073709551616) (w : World) (htab : Lib.TabIs Tryz.prog w "internal/strconv.uint64pow10" .u64 Lib.pow10Tab) :
    Calls Tryz.prog 233 #[.int .u64 u] w fun e w' => e = .returned (.int .i64 (Lib.nDigits u)) ∧ w' = w:=Any.internal_strconv_numDigits Tryz.laysM284 u h1 h2 w htab
def Tryz.lays285_ren : Go.Shelf.Ren:=⟨fun | 285 => 234 | n => n,fun | 37 => 42 | 53 => 62 | 3 => 3 | 4 => 4 | 51 => 66 | 9 => 9 | 5 => 5 | 0 => 0 | n => n,fun | n => n⟩
theorem Tryz.lays285 : Go.Proofs.Lays.n285 Tryz.prog Tryz.lays285_ren:={
  mixed:=by kernel_rfl
  f285:=Tryz.func234.trans (congrArg some (by kernel_rfl))
  t0:=Tryz.underlying0
  a0:=Tryz.isAgg0
  z0:=Tryz.sizeOf0
  v0:=Tryz.zeroValue0
  t3:=Tryz.underlying3
  a3:=Tryz.isAgg3
  z3:=Tryz.sizeOf3
  v3:=Tryz.zeroValue3
  t4:=Tryz.underlying4
  a4:=Tryz.isAgg4
  z4:=Tryz.sizeOf4
  v4:=Tryz.zeroValue4
  t5:=Tryz.underlying5
  a5:=Tryz.isAgg5
  z5:=Tryz.sizeOf5
  v5:=Tryz.zeroValue5
  t9:=Tryz.underlying9
  a9:=Tryz.isAgg9
  z9:=Tryz.sizeOf9
  v9:=Tryz.zeroValue9
  t37:=Tryz.underlying42
  a37:=Tryz.isAgg42
  z37:=Tryz.sizeOf42
  v37:=Tryz.zeroValue42
  t51:=Tryz.underlying66
  a51:=Tryz.isAgg66
  z51:=Tryz.sizeOf66
  v51:=Tryz.zeroValue66
  t53:=Tryz.underlying62
  a53:=Tryz.isAgg62
  z53:=Tryz.sizeOf62
  v53:=Tryz.zeroValue62 }
open Go.RowKit Go.Sort Go.Lib in
theorem Tryz.internal_strconv_formatBase10 (blk off cap : Nat) (u : Nat) (d : Array UInt8) (w : World) (hH : Holds (fun (b : UInt8) => Value.int .u8 (b.toNat : Int)) w blk off d) (hu : u < 10 ^ d.size) (hu64 : u < 18446744073709551616) (hsz : d.size < 4611686018427387904) :
    Calls Tryz.prog 234 #[.slice (some ⟨blk,off,none⟩) d.size cap,.int .u64 u] w fun e w' =>
      e = .returned (.tuple #[]) ∧ ∃ (n v' : Nat) (dk : Array UInt8),w' = (putRow (fun (b : UInt8) => Value.int .u8 (b.toNat : Int)) w blk off dk).drewN n ∧ FmtInv d.size u 0 v' dk:=Any.internal_strconv_formatBase10 Tryz.lays285 blk off cap u d w hH hu hu64 hsz
def Tryz.laysM171_ren : Go.Shelf.Ren:=⟨fun | 171 => 156 | 243 => 201 | 246 => 237 | 283 => 232 | 284 => 233 | 285 => 234 | 286 => 235 | 129 => 231 | 317 => 252 | 318 => 253 | 319 => 254 | 320 => 255 | 337 => 263 | 338 => 264 | n => n,fun | 3 => 3 | 9 => 9 | 2 => 2 | 4 => 4 | 171 => 266 | 0 => 0 | 53 => 62 | 37 => 42 | 5 => 5 | 173 => 268 | 212 => 284 | 51 => 66 | 20 => 20 | 213 => 285 | 46 => 91 | 232 => 303 | 233 => 304 | n => n,fun | 17 => 1 | 18 => 4 | 19 => 5 | n => n⟩
theorem Tryz.laysM171 : Go.Proofs.LaysM.n171 Tryz.prog Tryz.laysM171_ren:={
  mixed:=by kernel_rfl
  f129:=Tryz.func231.trans (congrArg some (by kernel_rfl))
  f171:=Tryz.func156.trans (congrArg some (by kernel_rfl))
  f243:=Tryz.func201.trans (congrArg some (by kernel_rfl))
  f246:=Tryz.func237.trans (congrArg some (by kernel_rfl))
  f283:=Tryz.func232.trans (congrArg some (by kernel_rfl))
  f284:=Tryz.func233.trans (congrArg some (by kernel_rfl))
  f285:=Tryz.func234.trans (congrArg some (by kernel_rfl))
  f286:=Tryz.func235.trans (congrArg some (by kernel_rfl))
  f317:=Tryz.func252.trans (congrArg some (by kernel_rfl))
  f318:=Tryz.func253.trans (congrArg some (by kernel_rfl))
  f319:=Tryz.func254.trans (congrArg some (by kernel_rfl))
  f320:=Tryz.func255.trans (congrArg some (by kernel_rfl))
  f337:=Tryz.func263.trans (congrArg some (by kernel_rfl))
  f338:=Tryz.func264.trans (congrArg some (by kernel_rfl))
  t0:=Tryz.underlying0
  a0:=Tryz.isAgg0
  z0:=Tryz.sizeOf0
  v0:=Tryz.zeroValue0
  t2:=Tryz.underlying2
  a2:=Tryz.isAgg2
  z2:=Tryz.sizeOf2
  v2:=Tryz.zeroValue2
  t3:=Tryz.underlying3
  a3:=Tryz.isAgg3
  z3:=Tryz.sizeOf3
  v3:=Tryz.zeroValue3
  t4:=Tryz.underlying4
  a4:=Tryz.isAgg4
  z4:=Tryz.sizeOf4
  v4:=Tryz.zeroValue4
  t5:=Tryz.underlying5
  a5:=Tryz.isAgg5
  z5:=Tryz.sizeOf5
  v5:=Tryz.zeroValue5
  t9:=Tryz.underlying9
  a9:=Tryz.isAgg9
  z9:=Tryz.sizeOf9
  v9:=Tryz.zeroValue9
  t20:=Tryz.underlying20
  a20:=Tryz.isAgg20
  z20:=Tryz.sizeOf20
  v20:=Tryz.zeroValue20
  t37:=Tryz.underlying42
  a37:=Tryz.isAgg42
  z37:=Tryz.sizeOf42
  v37:=Tryz.zeroValue42
  t46:=Tryz.underlying91
  a46:=Tryz.isAgg91
  z46:=Tryz.sizeOf91
  v46:=Tryz.zeroValue91
  t51:=Tryz.underlying66
  a51:=Tryz.isAgg66
  z51:=Tryz.sizeOf66
  v51:=Tryz.zeroValue66
  t53:=Tryz.underlying62
  a53:=Tryz.isAgg62
  z53:=Tryz.sizeOf62
  v53:=Tryz.zeroValue62
  t171:=Tryz.underlying266
  a171:=Tryz.isAgg266
  z171:=Tryz.sizeOf266
  v171:=Tryz.zeroValue266
  t173:=Tryz.underlying268
  a173:=Tryz.isAgg268
  z173:=Tryz.sizeOf268
  v173:=Tryz.zeroValue268
  t212:=Tryz.underlying284
  a212:=Tryz.isAgg284
  z212:=Tryz.sizeOf284
  v212:=Tryz.zeroValue284
  t213:=Tryz.underlying285
  a213:=Tryz.isAgg285
  z213:=Tryz.sizeOf285
  t232:=Tryz.underlying303
  a232:=Tryz.isAgg303
  z232:=Tryz.sizeOf303
  v232:=Tryz.zeroValue303
  t233:=Tryz.underlying304
  a233:=Tryz.isAgg304
  z233:=Tryz.sizeOf304
  v233:=Tryz.zeroValue304
  g17:=by kernel_rfl
  g18:=by kernel_rfl
  g19:=by kernel_rfl
  i0:=by kernel_rfl
  i2:=by kernel_rfl
  i3:=by kernel_rfl
  i4:=by kernel_rfl
  i5:=by kernel_rfl
  i9:=by kernel_rfl
  i20:=by kernel_rfl
  i37:=by kernel_rfl
  i46:=by kernel_rfl
  i51:=by kernel_rfl
  i53:=by kernel_rfl
  i171:=by kernel_rfl
  i173:=by kernel_rfl
  i212:=by kernel_rfl
  i232:=by kernel_rfl
  i233:=by kernel_rfl
  m17:=by kernel_rfl
  m18:=by kernel_rfl
  m19:=by kernel_rfl }
open Go.RowKit Go.Sort Go.Lib in
theorem Tryz.strconv_Itoa (n : Int) (h0 : -9223372036854775808 ≤ n) (h1 : n ≤ 9223372036854775807) (w : World) (htab : Lib.TabIs Tryz.prog w "internal/strconv.uint64pow10" .u64 Lib.pow10Tab) :
    Calls Tryz.prog 156 #[.int .i64 n] w fun e w' => e = .returned (.string ⟨(Lib.itoa n).toArray⟩) ∧ ∃ k os,w' = grow (w.drewN k) os:=Any.strconv_Itoa Tryz.laysM171 n h0 h1 w htab
def Tryz.lays219_ren : Go.Shelf.Ren:=⟨fun | 219 => 73 | 217 => 131 | 225 => 132 | 224 => 133 | 267 => 134 | 266 => 188 | 314 => 189 | n => n,fun | 9 => 9 | 3 => 3 | 4 => 4 | 5 => 5 | 46 => 91 | 146 => 228 | 51 => 66 | n => n,fun | 1 => 0 | n => n⟩
theorem Tryz.lays219 : Go.Proofs.Lays.n219 Tryz.prog Tryz.lays219_ren:={
  mixed:=by kernel_rfl
  f217:=Tryz.func131.trans (congrArg some (by kernel_rfl))
  f219:=Tryz.func73.trans (congrArg some (by kernel_rfl))
  f224:=Tryz.func133.trans (congrArg some (by kernel_rfl))
  f225:=Tryz.func132.trans (congrArg some (by kernel_rfl))
  f266:=Tryz.func188.trans (congrArg some (by kernel_rfl))
  f267:=Tryz.func134.trans (congrArg some (by kernel_rfl))
  f314:=Tryz.func189.trans (congrArg some (by kernel_rfl))
  t3:=Tryz.underlying3
  a3:=Tryz.isAgg3
  z3:=Tryz.sizeOf3
  v3:=Tryz.zeroValue3
  t4:=Tryz.underlying4
  a4:=Tryz.isAgg4
  z4:=Tryz.sizeOf4
  v4:=Tryz.zeroValue4
  t5:=Tryz.underlying5
  a5:=Tryz.isAgg5
  z5:=Tryz.sizeOf5
  v5:=Tryz.zeroValue5
  t9:=Tryz.underlying9
  a9:=Tryz.isAgg9
  z9:=Tryz.sizeOf9
  v9:=Tryz.zeroValue9
  t46:=Tryz.underlying91
  a46:=Tryz.isAgg91
  z46:=Tryz.sizeOf91
  v46:=Tryz.zeroValue91
  t51:=Tryz.underlying66
  a51:=Tryz.isAgg66
  z51:=Tryz.sizeOf66
  v51:=Tryz.zeroValue66
  t146:=Tryz.underlying228
  a146:=Tryz.isAgg228
  z146:=Tryz.sizeOf228
  v146:=Tryz.zeroValue228
  g1:=by kernel_rfl }
open Go.RowKit Go.Lib in
theorem Tryz.stringslite_Index_one (s : ByteArray) (c : UInt8) (w : World) :
    Calls Tryz.prog 73 #[.string s,.string ⟨#[c]⟩] w fun e w' => e = .returned (.int .i64 (Lib.indexByte s.data.toList c)) ∧ w' = w:=Any.stringslite_Index_one Tryz.lays219 s c w
def Tryz.lays264_ren : Go.Shelf.Ren:=⟨fun | 264 => 191 | n => n,fun | 53 => 62 | 46 => 91 | n => n,fun | n => n⟩
theorem Tryz.lays264 : Go.Proofs.Lays.n264 Tryz.prog Tryz.lays264_ren:={
  mixed:=by kernel_rfl
  f264:=Tryz.func191.trans (congrArg some (by kernel_rfl))
  t46:=Tryz.underlying91
  a46:=Tryz.isAgg91
  z46:=Tryz.sizeOf91
  v46:=Tryz.zeroValue91
  t53:=Tryz.underlying62
  a53:=Tryz.isAgg62
  z53:=Tryz.sizeOf62
  v53:=Tryz.zeroValue62 }
open Go.RowKit Go.Lib in
theorem Tryz.bits_Mul64 (x y : Nat) (hx : x < 18446744073709551616) (hy : y < 18446744073709551616) (w : World) :
    Calls Tryz.prog 191 #[.int .u64 x,.int .u64 y] w fun e w' => e = .returned (.tuple #[.int .u64 ((x * y / 18446744073709551616 : Nat) : Int),.int .u64 ((x * y % 18446744073709551616 : Nat) : Int)]) ∧ w' = w:=Any.bits_Mul64 Tryz.lays264 x y hx hy w
def Tryz.lays105_ren : Go.Shelf.Ren:=⟨fun | 105 => 155 | 212 => 199 | 99 => 101 | 165 => 74 | 166 => 75 | 170 => 200 | 169 => 76 | 263 => 236 | 264 => 191 | 206 => 163 | 240 => 135 | 241 => 136 | 276 => 190 | 277 => 45 | n => n,fun | 9 => 9 | 3 => 3 | 4 => 4 | 20 => 20 | 0 => 0 | 46 => 91 | 109 => 240 | 5 => 5 | 72 => 118 | 76 => 121 | 51 => 66 | 146 => 228 | 53 => 62 | 148 => 232 | 70 => 116 | 37 => 42 | 75 => 120 | 127 => 186 | 164 => 230 | 80 => 123 | n => n,fun | n => n⟩
theorem Tryz.lays105 : Go.Proofs.Lays.n105 Tryz.prog Tryz.lays105_ren:={
  mixed:=by kernel_rfl
  f99:=Tryz.func101.trans (congrArg some (by kernel_rfl))
  f105:=Tryz.func155.trans (congrArg some (by kernel_rfl))
  f165:=Tryz.func74.trans (congrArg some (by kernel_rfl))
  f166:=Tryz.func75.trans (congrArg some (by kernel_rfl))
  f169:=Tryz.func76.trans (congrArg some (by kernel_rfl))
  f170:=Tryz.func200.trans (congrArg some (by kernel_rfl))
  f206:=Tryz.func163.trans (congrArg some (by kernel_rfl))
  f212:=Tryz.func199.trans (congrArg some (by kernel_rfl))
  f240:=Tryz.func135.trans (congrArg some (by kernel_rfl))
  f241:=Tryz.func136.trans (congrArg some (by kernel_rfl))
  f263:=Tryz.func236.trans (congrArg some (by kernel_rfl))
  f264:=Tryz.func191.trans (congrArg some (by kernel_rfl))
  f276:=Tryz.func190.trans (congrArg some (by kernel_rfl))
  f277:=Tryz.func45.trans (congrArg some (by kernel_rfl))
  t0:=Tryz.underlying0
  a0:=Tryz.isAgg0
  z0:=Tryz.sizeOf0
  v0:=Tryz.zeroValue0
  t3:=Tryz.underlying3
  a3:=Tryz.isAgg3
  z3:=Tryz.sizeOf3
  v3:=Tryz.zeroValue3
  t4:=Tryz.underlying4
  a4:=Tryz.isAgg4
  z4:=Tryz.sizeOf4
  v4:=Tryz.zeroValue4
  t5:=Tryz.underlying5
  a5:=Tryz.isAgg5
  z5:=Tryz.sizeOf5
  v5:=Tryz.zeroValue5
  t9:=Tryz.underlying9
  a9:=Tryz.isAgg9
  z9:=Tryz.sizeOf9
  v9:=Tryz.zeroValue9
  t20:=Tryz.underlying20
  a20:=Tryz.isAgg20
  z20:=Tryz.sizeOf20
  v20:=Tryz.zeroValue20
  t37:=Tryz.underlying42
  a37:=Tryz.isAgg42
  z37:=Tryz.sizeOf42
  v37:=Tryz.zeroValue42
  t46:=Tryz.underlying91
  a46:=Tryz.isAgg91
  z46:=Tryz.sizeOf91
  v46:=Tryz.zeroValue91
  t51:=Tryz.underlying66
  a51:=Tryz.isAgg66
  z51:=Tryz.sizeOf66
  v51:=Tryz.zeroValue66
  t53:=Tryz.underlying62
  a53:=Tryz.isAgg62
  z53:=Tryz.sizeOf62
  v53:=Tryz.zeroValue62
  t70:=Tryz.underlying116
  a70:=Tryz.isAgg116
  z70:=Tryz.sizeOf116
  v70:=Tryz.zeroValue116
  t72:=Tryz.underlying118
  a72:=Tryz.isAgg118
  z72:=Tryz.sizeOf118
  v72:=Tryz.zeroValue118
  t75:=Tryz.underlying120
  a75:=Tryz.isAgg120
  z75:=Tryz.sizeOf120
  v75:=Tryz.zeroValue120
  t76:=Tryz.underlying121
  a76:=Tryz.isAgg121
  z76:=Tryz.sizeOf121
  v76:=Tryz.zeroValue121
  t109:=Tryz.underlying240
  a109:=Tryz.isAgg240
  z109:=Tryz.sizeOf240
  v109:=Tryz.zeroValue240
  t127:=Tryz.underlying186
  a127:=Tryz.isAgg186
  z127:=Tryz.sizeOf186
  v127:=Tryz.zeroValue186
  t146:=Tryz.underlying228
  a146:=Tryz.isAgg228
  z146:=Tryz.sizeOf228
  v146:=Tryz.zeroValue228
  t148:=Tryz.underlying232
  a148:=Tryz.isAgg232
  z148:=Tryz.sizeOf232
  v148:=Tryz.zeroValue232
  t164:=Tryz.underlying230
  a164:=Tryz.isAgg230
  z164:=Tryz.sizeOf230
  v164:=Tryz.zeroValue230 }
theorem Tryz.Builder_Extra_105 : Builder.Extra Tryz.prog Tryz.lays105_ren:={
  sizeBuilder:=by kernel_rfl
  liesBuilder:=by kernel_rfl
  t5:=Tryz.underlying5
  a5:=Tryz.isAgg5
  z5:=Tryz.sizeOf5
  v5:=Tryz.zeroValue5
  infoByte:=by kernel_rfl
  cellsByte:=by kernel_rfl
  sizeByte:=by kernel_rfl
  neB5:=by decide }
open Go.RowKit Go.Lib in
theorem Tryz.strings_Repeat (s : ByteArray) (c : Nat) (w : World) (hc : c ≤ 9223372036854775807) (hlen : s.size * c ≤ 140737488355328) :
    Calls Tryz.prog 155 #[.string s,.int .i64 c] w fun e w' => e = .returned (.string ⟨(Lib.repeatL s.data.toList c).toArray⟩) ∧ Below w.heap.size w w':=Any.strings_Repeat Tryz.lays105 Tryz.Builder_Extra_105 s c w hc hlen
def Tryz.laysSlJ14_ren : Go.Shelf.Ren:=⟨fun | 14 => 24 | 15 => 45 | n => n,fun | 26 => 25 | 22 => 42 | 3 => 3 | 4 => 4 | 0 => 0 | 9 => 9 | 20 => 20 | 5 => 5 | n => n,fun | n => n⟩
theorem Tryz.laysSlJ14 : Go.Proofs.SlLaysJ.n14 Tryz.prog Tryz.laysSlJ14_ren:={
  mixed:=by kernel_rfl
  f14:=Tryz.func24.trans (congrArg some (by kernel_rfl))
  f15:=Tryz.func45.trans (congrArg some (by kernel_rfl))
  t0:=Tryz.underlying0
  a0:=Tryz.isAgg0
  z0:=Tryz.sizeOf0
  v0:=Tryz.zeroValue0
  t3:=Tryz.underlying3
  a3:=Tryz.isAgg3
  z3:=Tryz.sizeOf3
  v3:=Tryz.zeroValue3
  t4:=Tryz.underlying4
  a4:=Tryz.isAgg4
  z4:=Tryz.sizeOf4
  v4:=Tryz.zeroValue4
  t9:=Tryz.underlying9
  a9:=Tryz.isAgg9
  z9:=Tryz.sizeOf9
  v9:=Tryz.zeroValue9
  t20:=Tryz.underlying20
  a20:=Tryz.isAgg20
  z20:=Tryz.sizeOf20
  v20:=Tryz.zeroValue20
  t22:=Tryz.underlying42
  a22:=Tryz.isAgg42
  z22:=Tryz.sizeOf42
  v22:=Tryz.zeroValue42
  t26:=Tryz.underlying25
  a26:=Tryz.isAgg25
  z26:=Tryz.sizeOf25
  v26:=Tryz.zeroValue25
  t5:=Tryz.underlying5
  z5:=Tryz.sizeOf5
  i5:=by kernel_rfl }
open Go.RowKit Go.Lib in
theorem Tryz.bytes_Join_many (b o n c : Nat) (vs : List Value) (ls : List (List UInt8)) (sv : Value) (sep : List UInt8) (w : World) (hn : ls.length = n) (h2 : 2 ≤ n) (hP : Lib.PartsAt w ⟨b,o,none⟩ vs ls) (hcap : n ≤ c) (hS : Lib.HoldsBytes w sv sep) (hn47 : n ≤ 140737488355328) (hlen : Lib.lens ls + sep.length * (n - 1) ≤ 140737488355328) :
    Calls Tryz.prog 24 #[.slice (some ⟨b,o,none⟩) n c,sv] w fun e w' => ∃ v',e = .returned v' ∧ Lib.FreshBytes w.heap.size w' v' (Lib.join ls sep) ∧ Below w.heap.size w w':=Any.bytes_Join_many Tryz.laysSlJ14 b o n c vs ls sv sep w hn h2 hP hcap hS hn47 hlen
open Go.RowKit Go.Lib in
theorem Tryz.bytes_Join_none (p : Option Addr) (c : Nat) (sv : Value) (w : World) :
    Calls Tryz.prog 24 #[.slice p 0 c,sv] w fun e w' => e = .returned (.slice (some ⟨w.heap.size,0,none⟩) 0 0) ∧ w' = w.alloc (.cells #[] 5):=Any.bytes_Join_none Tryz.laysSlJ14 p c sv w
open Go.RowKit Go.Lib in
theorem Tryz.bytes_Join_one (b o c : Nat) (ad0 : Addr) (c0 : Nat) (l0 : List UInt8) (sv : Value) (w : World) (hcell : w.cell? ⟨b,o,none⟩ = some (.slice (some ad0) l0.length c0)) (hc : ∀ (i : Nat) x,l0[i]? = some x→w.cell? (ad0.add i) = some (.int .u8 (x.toNat : Int))) (h0 : 0 < l0.length) (hs : l0.length ≤ 140737488355328) :
    Calls Tryz.prog 24 #[.slice (some ⟨b,o,none⟩) 1 c,sv] w fun e w' => ∃ v',e = .returned v' ∧ Lib.FreshBytes w.heap.size w' v' l0 ∧ Below w.heap.size w w':=Any.bytes_Join_one Tryz.laysSlJ14 b o c ad0 c0 l0 sv w hcell hc h0 hs
open Go.RowKit Go.Lib in
theorem Tryz.bytes_Join_one_empty (b o c : Nat) (p0 : Option Addr) (c0 : Nat) (sv : Value) (w : World) (hcell : w.cell? ⟨b,o,none⟩ = some (.slice p0 0 c0)) :
    Calls Tryz.prog 24 #[.slice (some ⟨b,o,none⟩) 1 c,sv] w fun e w' => e = .returned (.slice none 0 0) ∧ w' = w:=Any.bytes_Join_one_empty Tryz.laysSlJ14 b o c p0 c0 sv w hcell
def Tryz.laySort_ren : Go.Shelf.Ren:=⟨fun | 6 => 140 | 15 => 194 | 14 => 193 | 28 => 230 | 29 => 231 | 20 => 222 | 21 => 223 | 22 => 224 | 23 => 225 | 24 => 226 | 25 => 227 | 26 => 228 | 27 => 229 | 46 => 247 | 47 => 248 | 48 => 249 | 49 => 250 | 50 => 251 | 57 => 262 | n => n,fun | 22 => 38 | 24 => 50 | 25 => 192 | 3 => 3 | 39 => 91 | 0 => 0 | 53 => 66 | 55 => 62 | 4 => 4 | 46 => 259 | 45 => 258 | 50 => 136 | 5 => 5 | 9 => 9 | 66 => 277 | 70 => 281 | 76 => 289 | 77 => 290 | n => n,fun | n => n⟩
theorem Tryz.laySort : Go.Proofs.SlLaysF0.n6 Tryz.prog Tryz.laySort_ren:={
  mixed:=by kernel_rfl
  f6:=⟨Tryz.f140.name,by decide,Tryz.func140.trans (congrArg some (by kernel_rfl))⟩
  f14:=⟨Tryz.f193.name,by decide,Tryz.func193.trans (congrArg some (by kernel_rfl))⟩
  f15:=Tryz.func194.trans (congrArg some (by kernel_rfl))
  f20:=⟨Tryz.f222.name,by decide,Tryz.func222.trans (congrArg some (by kernel_rfl))⟩
  f21:=⟨Tryz.f223.name,by decide,Tryz.func223.trans (congrArg some (by kernel_rfl))⟩
  f22:=⟨Tryz.f224.name,by decide,Tryz.func224.trans (congrArg some (by kernel_rfl))⟩
  f23:=⟨Tryz.f225.name,by decide,Tryz.func225.trans (congrArg some (by kernel_rfl))⟩
  f24:=⟨Tryz.f226.name,by decide,Tryz.func226.trans (congrArg some (by kernel_rfl))⟩
  f25:=⟨Tryz.f227.name,by decide,Tryz.func227.trans (congrArg some (by kernel_rfl))⟩
  f26:=⟨Tryz.f228.name,by decide,Tryz.func228.trans (congrArg some (by kernel_rfl))⟩
  f27:=⟨Tryz.f229.name,by decide,Tryz.func229.trans (congrArg some (by kernel_rfl))⟩
  f28:=Tryz.func230.trans (congrArg some (by kernel_rfl))
  f29:=Tryz.func231.trans (congrArg some (by kernel_rfl))
  f46:=⟨Tryz.f247.name,by decide,Tryz.func247.trans (congrArg some (by kernel_rfl))⟩
  f47:=Tryz.func248.trans (congrArg some (by kernel_rfl))
  f48:=Tryz.func249.trans (congrArg some (by kernel_rfl))
  f49:=⟨Tryz.f250.name,by decide,Tryz.func250.trans (congrArg some (by kernel_rfl))⟩
  f50:=⟨Tryz.f251.name,by decide,Tryz.func251.trans (congrArg some (by kernel_rfl))⟩
  f57:=⟨Tryz.f262.name,by decide,Tryz.func262.trans (congrArg some (by kernel_rfl))⟩
  t0:=Tryz.underlying0
  a0:=Tryz.isAgg0
  z0:=Tryz.sizeOf0
  v0:=Tryz.zeroValue0
  t3:=Tryz.underlying3
  a3:=Tryz.isAgg3
  z3:=Tryz.sizeOf3
  v3:=Tryz.zeroValue3
  t4:=Tryz.underlying4
  a4:=Tryz.isAgg4
  z4:=Tryz.sizeOf4
  v4:=Tryz.zeroValue4
  t5:=Tryz.underlying5
  a5:=Tryz.isAgg5
  z5:=Tryz.sizeOf5
  v5:=Tryz.zeroValue5
  t9:=Tryz.underlying9
  a9:=Tryz.isAgg9
  z9:=Tryz.sizeOf9
  v9:=Tryz.zeroValue9
  t22:=Tryz.underlying38
  a22:=Tryz.isAgg38
  z22:=Tryz.sizeOf38
  v22:=Tryz.zeroValue38
  t25:=Tryz.underlying192
  a25:=Tryz.isAgg192
  z25:=Tryz.sizeOf192
  v25:=Tryz.zeroValue192
  t39:=Tryz.underlying91
  a39:=Tryz.isAgg91
  z39:=Tryz.sizeOf91
  v39:=Tryz.zeroValue91
  t45:=Tryz.underlying258
  a45:=Tryz.isAgg258
  z45:=Tryz.sizeOf258
  v45:=Tryz.zeroValue258
  t46:=Tryz.underlying259
  a46:=Tryz.isAgg259
  z46:=Tryz.sizeOf259
  v46:=Tryz.zeroValue259
  t50:=Tryz.underlying136
  a50:=Tryz.isAgg136
  z50:=Tryz.sizeOf136
  v50:=Tryz.zeroValue136
  t53:=Tryz.underlying66
  a53:=Tryz.isAgg66
  z53:=Tryz.sizeOf66
  v53:=Tryz.zeroValue66
  t55:=Tryz.underlying62
  a55:=Tryz.isAgg62
  z55:=Tryz.sizeOf62
  v55:=Tryz.zeroValue62
  t66:=Tryz.underlying277
  a66:=Tryz.isAgg277
  z66:=Tryz.sizeOf277
  v66:=Tryz.zeroValue277
  t70:=Tryz.underlying281
  a70:=Tryz.isAgg281
  z70:=Tryz.sizeOf281
  v70:=Tryz.zeroValue281
  t76:=Tryz.underlying289
  a76:=Tryz.isAgg289
  z76:=Tryz.sizeOf289
  v76:=Tryz.zeroValue289
  t77:=Tryz.underlying290
  a77:=Tryz.isAgg290
  z77:=Tryz.sizeOf290
  v77:=Tryz.zeroValue290 }
end Go.Proofs
set_option linter.unusedVariables false
set_option linter.unusedSimpArgs false
namespace Go.Proofs
open Go.RowKit Go.Sort Go.Lib
set_option maxHeartbeats 6400000 in
set_option maxRecDepth 100000 in
theorem Tryz.internal_strconv_FormatUint_10 (u : Nat) (hu64 : u < 18446744073709551616) (w : World) (htab : Lib.TabIs Tryz.prog w "internal/strconv.uint64pow10" .u64 Lib.pow10Tab) :
    Calls Tryz.prog 198 #[.int .u64 u,.int .i64 10] w fun e w' => e = .returned (.string ⟨(Lib.decDigits u).toArray⟩) ∧ ∃ k os,w' = grow (w.drewN k) os:=by
  have mixed : Tryz.prog.follows .mixedOrders:=by kernel_rfl
  have e283 : ∀ args w,(callFunc 232 args).run Tryz.prog w = .ok (.enter 232 args) w:=enters_of Tryz.func232 (by kernel_rfl) rfl
  have e284 : ∀ args w,(callFunc 233 args).run Tryz.prog w = .ok (.enter 233 args) w:=enters_of Tryz.func233 (by kernel_rfl) rfl
  have e285 : ∀ args w,(callFunc 234 args).run Tryz.prog w = .ok (.enter 234 args) w:=enters_of Tryz.func234 (by kernel_rfl) rfl
  by_cases hs : u < 100
  · have hcv : IntKind.wrap .i64 (u : Int) = u:=by rw [IntKind.wrap_i64]; omega
    go_enter Tryz.func198,Tryz.ntmps198
    go_wp2_with (go_at_fn 232; refine (Tryz.internal_strconv_small u hs _).mono ?_; rintro e w' ⟨rfl,rfl⟩)
    go_ret
    exact ⟨rfl,0,#[],by simp [World.drewN_zero]⟩
  · have hu1 : 1 ≤ u:=by omega
    have hnd20 : Lib.nDigits u ≤ 20:=by have:=Lib.numDigits_eq u hu1 hu64; split at this <;> omega
    have hb3 : Lib.nDigits u ≤ 24:=by omega
    have hal : Tryz.prog.arrayLen 266 = 24:=by simp [Program.arrayLen,Tryz.underlying266]
    have hsl1 : ∀ W,(Instr.sliceAt 266 (.pointer (some ⟨w.heap.size,0,none⟩)) none (some (.int .i64 (Lib.nDigits u : Int))) none).run Tryz.prog W = .ok (.slice (some ⟨w.heap.size,0,none⟩) (Lib.nDigits u) 24) W:=fun W => by
      rw [run_sliceAt_array_h W 266 ⟨w.heap.size,0,none⟩ (by simp [Program.arrayLen,Program.elem,Tryz.underlying266]) .i64 (Lib.nDigits u : Int) (by omega) (by rw [hal]; omega)]
      go_simp
      all_goals omega
    have hH0:=Lib.holds_zero0 w 266 (Lib.nDigits u) (by omega)
    have hfmt:=Tryz.internal_strconv_formatBase10 w.heap.size 0 24 u (Array.replicate (Lib.nDigits u) 0) (w.alloc (.cells Lib.zeros24 266)) hH0 (by rw [Array.size_replicate]; exact Lib.lt_pow_nDigits u) hu64 (by rw [Array.size_replicate]; omega)
    rw [Array.size_replicate] at hfmt
    have HH0:=Lib.hid hH0
    clear hH0 hal
    go_enter Tryz.func198,Tryz.ntmps198
    go_wp2_with (first
      | (go_at_fn 233; refine (Tryz.internal_strconv_numDigits u hu1 hu64 _ (Lib.tabIs_alloc htab _)).mono ?_; rintro e w' ⟨rfl,rfl⟩))
    go_at_fn 234
    refine hfmt.mono ?_
    rintro e w' ⟨rfl,k,v',dk,rfl,hF⟩
    have hcv : (convert 42 9 (.slice (some ⟨w.heap.size,0,none⟩) (Lib.nDigits u) 24)).run Tryz.prog ((putRow (fun (b : UInt8) => Value.int .u8 (b.toNat : Int)) (w.alloc (.cells Lib.zeros24 266)) w.heap.size 0 dk).drewN k) = .ok (.string ⟨(Lib.decDigits u).toArray⟩) ((putRow (fun (b : UInt8) => Value.int .u8 (b.toNat : Int)) (w.alloc (.cells Lib.zeros24 266)) w.heap.size 0 dk).drewN k):=by
      have h:=run_convert_bytes_back (P:=Tryz.prog) ((putRow (fun (b : UInt8) => Value.int .u8 (b.toNat : Int)) (w.alloc (.cells Lib.zeros24 266)) w.heap.size 0 dk).drewN k) 42 9 5 ⟨w.heap.size,0,none⟩ 24 (Lib.decDigits u) Tryz.underlying42 Tryz.underlying5 Tryz.underlying9 (fun j hj => by
        rw [Lib.row_is_numeral hF j hj,Lib.add_plain,World.cell?_drewN]
        exact cell?_putRow (fun (b : UInt8) => Value.int .u8 (b.toNat : Int)) _ w.heap.size 0 _ dk HH0.out (by rw [hF.size,Array.size_replicate]) j (by rw [hF.size]; rw [Lib.decDigits_length] at hj; exact hj))
      rw [Lib.decDigits_length] at h
      exact h
    go_wp2
    go_ret
    obtain ⟨os,eo⟩:=Lib.fin_at w (.cells Lib.zeros24 266) dk k 0
    exact ⟨rfl,k,os,eo⟩
set_option maxRecDepth 100000 in
theorem Tryz.strconv_FormatUint_10 (u : Nat) (hu64 : u < 18446744073709551616) (w : World) (htab : Lib.TabIs Tryz.prog w "internal/strconv.uint64pow10" .u64 Lib.pow10Tab) :
    Calls Tryz.prog 154 #[.int .u64 u,.int .i64 10] w fun e w' => e = .returned (.string ⟨(Lib.decDigits u).toArray⟩) ∧ ∃ k os,w' = grow (w.drewN k) os:=by
  have e51 : ∀ args w,(callFunc 198 args).run Tryz.prog w = .ok (.enter 198 args) w:=enters_of Tryz.func198 (by kernel_rfl) rfl
  go_enter Tryz.func154,Tryz.ntmps154
  go_wp2_with (go_at_fn 198; refine (Tryz.internal_strconv_FormatUint_10 u hu64 _ htab).mono ?_; rintro e w' ⟨rfl,k,os,rfl⟩)
  go_ret
  exact ⟨rfl,k,os,rfl⟩
end Go.Proofs
set_option linter.unusedVariables false
set_option linter.unusedSimpArgs false
namespace Go.AM
open Go.Proofs Go.RowKit
set_option maxHeartbeats 2000000 in
set_option maxRecDepth 100000 in
theorem zho (b : Nat) (w : World) (h0 : w.cell? ⟨b,0,none⟩ = some (.pointer (some ⟨b,0,none⟩))) :
    Calls Tryz.prog 135 #[.pointer (some ⟨b,0,none⟩)] w fun e w' => e = .returned (.tuple #[]) ∧ w' = w:=by
  have mixed : Tryz.prog.follows .mixedOrders = true:=by kernel_rfl
  obtain ⟨j,hj,_⟩:=Option.map_eq_some_iff.1 (show (Tryz.prog.info? 118).map (·.size) = some 2 by kernel_rfl)
  go_enter Tryz.func135,Tryz.ntmps135
  go_wp2
  rw [Lib.run_neq_ptr_same w _ Tryz.underlying116 hj]
  go_wp2
  go_end0
  exact ⟨rfl,rfl⟩
set_option maxHeartbeats 2000000 in
set_option maxRecDepth 100000 in
theorem zg3 (b : Nat) (w : World) (h0 : w.cell? ⟨b,0,none⟩ = some (.pointer none)) (hsh : w.shape? b = some (118,2)) (hfz : w.frozen? ⟨b,0,none⟩ = false) :
    Calls Tryz.prog 135 #[.pointer (some ⟨b,0,none⟩)] w fun e w' => e = .returned (.tuple #[]) ∧ w' = w.setCell ⟨b,0,none⟩ (.pointer (some ⟨b,0,none⟩)):=by
  have mixed : Tryz.prog.follows .mixedOrders = true:=by kernel_rfl
  obtain ⟨j,hj,hjs⟩:=Option.map_eq_some_iff.1 (show (Tryz.prog.info? 118).map (·.size) = some 2 by kernel_rfl)
  go_enter Tryz.func135,Tryz.ntmps135
  go_wp2
  rw [Lib.run_to_unsafe w ⟨b,0,none⟩ Tryz.underlying116 Tryz.underlying230 hj (by rw [hjs]; decide) hsh (Nat.zero_lt_succ 1)]
  simp only [Result.andThen]
  rw [Oper.upon_value]
  go_wp2
  rw [run_callFunc_extern Tryz.func190 (by kernel_rfl) (by kernel_rfl) (by kernel_rfl) (e:=Extern.AbiNoEscape.same) (by kernel_rfl)]
  rw [Lib.run_noEscape]
  simp only [Result.andThen]
  rw [Oper.upon_value]
  go_wp2
  rw [Lib.run_from_unsafe w ⟨b,0,none⟩ Tryz.underlying230 Tryz.underlying116 hj hsh (by kernel_rfl)]
  simp only [Result.andThen]
  rw [Oper.upon_value]
  go_wp2
  go_end0
  exact ⟨rfl,rfl⟩
theorem zkq : PrOK Tryz.prog (fun _ => True) 135 (.bcheck 118):=by
  intro w b vs _ hh hsz h0
  have he : Enters Tryz.prog 135:=enters Tryz.func135 (by kernel_rfl) (by decide)
  rcases h0 with h0 | h0
  · refine z6 he ((zg3 b w (by rw [Lib.cell_of_heap hh]; exact h0) (by simp [World.shape?,hh,hsz]) (by simp [World.frozen?,hh])).mono ?_)
    rintro e w' ⟨rfl,rfl⟩
    refine ⟨_,rfl,rfl,.inr ⟨?_,?_⟩⟩
    · refine ⟨rfl,rfl,rfl,by simp [World.setCell],fun k _ hk => ?_⟩
      exact Below.heap_setCell _ _ _ _ (fun e => hk (by simp [e]))
    · simp [World.setCell,Array.getElem?_modify,hh]
  · refine z6 he ((zho b w (by rw [Lib.cell_of_heap hh]; exact h0)).mono ?_)
    rintro e w' ⟨rfl,rfl⟩
    exact ⟨_,rfl,rfl,.inl rfl⟩
set_option maxHeartbeats 2000000 in
set_option maxRecDepth 100000 in
theorem bString (b g cap : Nat) (p : Value) (cur : Array Value) (l : List UInt8) (w : World) (h0 : l ≠ []) (hl : l.length ≤ strMax) (hbk : w.heap[b]? = some (.cells #[p,.slice (some ⟨g,0,none⟩) l.length cap] 118 (0,0)))
    (hg : w.heap[g]? = some (.cells cur 5 (0,0))) (hnc : l.length ≤ cap) (hcs : cur.size = cap) (htake : cur.toList.take l.length = Lib.byteCells l) :
    Calls Tryz.prog 76 #[.pointer (some ⟨b,0,none⟩)] w fun e w' => e = .returned (.string ⟨l.toArray⟩) ∧ w' = w.drew.freeze ⟨g,0,none⟩ l.length:=by
  have mixed : Tryz.prog.follows .mixedOrders = true:=by kernel_rfl
  have hl0 : l.length ≠ 0:=by simpa using h0
  have c1 : w.drew.cell? ⟨b,1,none⟩ = some (.slice (some ⟨g,0,none⟩) l.length cap):=by
    have : w.drew.heap[b]? = some (.cells #[p,.slice (some ⟨g,0,none⟩) l.length cap] 118 (0,0)):=hbk
    rw [Lib.cell_of_heap this]; rfl
  have hSD : (Builtin.unsafeSliceData_ #[42] 186 #[.slice (some ⟨g,0,none⟩) l.length cap]).run Tryz.prog w.drew = .ok (.pointer (some ⟨g,0,none⟩)) w.drew:=
    Lib.run_unsafeSliceData_row _ _ _ _ _ _ (by omega)
  have hUS : (Builtin.unsafeString_ #[186,3] 9 #[.pointer (some ⟨g,0,none⟩),.int .i64 l.length]).run Tryz.prog w.drew = .ok (.string ⟨l.toArray⟩) (w.drew.freeze ⟨g,0,none⟩ l.length):=by
    refine Lib.run_unsafeString_row w.drew 186 3 9 5 Tryz.underlying186 (by kernel_rfl) g cur.size (by have hg' : w.drew.heap[g]? = some (.cells cur 5 (0,0)):=hg; simp [World.shape?,hg']) l h0 (by omega) (by rw [strMax] at hl; omega) ?_
    intro j x hx
    have hg' : w.drew.heap[g]? = some (.cells cur 5 (0,0)):=hg
    have hj:=(List.getElem?_eq_some_iff.1 hx).1
    rw [show (⟨g,0,none⟩ : Addr).add j = ⟨g,j,none⟩ from by by_cases hj0 : j = 0 <;> simp [Addr.add,hj0],Lib.cell_of_heap hg',← Array.getElem?_toList]
    have e:=congrArg (fun q => q[j]?) htake
    simp only [List.getElem?_take,hj,if_true,Lib.byteCells,List.getElem?_map,hx,Option.map_some] at e
    simpa using e
  go_enter Tryz.func76,Tryz.ntmps76
  go_wp2
  go_region_o
  all_goals (go_wp2; go_ret; exact ⟨rfl,rfl⟩)
theorem zl6 (w : World) (g n : Nat) (k : Nat) (hk : k ≠ g) : (w.freeze ⟨g,0,none⟩ n).heap[k]? = w.heap[k]?:=by
  unfold World.freeze
  split
  · rfl
  · simp [Array.getElem?_modify,Ne.symm hk]
theorem zl7 (w : World) (g n o : Nat) : (w.freeze ⟨g,0,none⟩ n).cell? ⟨g,o,none⟩ = w.cell? ⟨g,o,none⟩:=by
  unfold World.freeze
  split
  · rfl
  · simp only [World.cell?,Array.getElem?_modify,if_true]
    cases w.heap[g]? with
    | none => rfl
    | some ob => cases ob <;> rfl
theorem zl8 (w : World) (g n : Nat) : (w.freeze ⟨g,0,none⟩ n).heap.size = w.heap.size ∧ (w.freeze ⟨g,0,none⟩ n).os = w.os ∧ (w.freeze ⟨g,0,none⟩ n).tape = w.tape ∧ (w.freeze ⟨g,0,none⟩ n).output = w.output:=by
  unfold World.freeze
  split <;> simp
theorem zob : PrOK Tryz.prog (fun _ => True) 76 (.bstring 118 5):=by
  intro w b q cap vs cur l _ hne hl hh hsz h1 hq hlc hcs ht
  have he : Enters Tryz.prog 76:=enters Tryz.func76 (by kernel_rfl) (by decide)
  obtain ⟨p,hvs⟩ : ∃ p,vs = #[p,.slice (some ⟨q,0,none⟩) l.length cap]:=by
    refine ⟨vs[0]'(by omega),?_⟩
    apply Array.ext
    · simp [hsz]
    · intro i hi1 hi2
      match i,hi1 with
      | 0,_ => rfl
      | 1,_ =>
        have:=(Array.getElem?_eq_some_iff.1 h1).2
        simpa using this
      | i + 2,h => omega
  subst hvs
  refine z6 he ((bString b q cap p cur l w hne hl hh hq hlc hcs ht).mono ?_)
  rintro e w' ⟨rfl,rfl⟩
  obtain ⟨f1,f2,f3,f4⟩:=zl8 w.drew q l.length
  refine ⟨_,rfl,rfl,⟨f2,f3,f4,by rw [f1]; exact Nat.le_refl _,fun k _ hk => zl6 w.drew q l.length k (fun e => hk (by rw [e]))⟩,fun o => zl7 w.drew q l.length o⟩
end Go.AM
set_option linter.unusedVariables false
set_option linter.unusedSimpArgs false
namespace Go.Proofs
open Go.Shelf Go.RowKit Go.Sort
set_option maxHeartbeats 1000000 in
theorem Tryz.isNaN_str (s : ByteArray) (w : World) : Calls Tryz.prog 195 #[.string s] w fun e w' => e = .returned (.bool false) ∧ w' = w:=by
  have mixed : Tryz.prog.follows .mixedOrders:=by kernel_rfl
  go_enter Tryz.func195,Tryz.ntmps195
  go_wp2
  go_ret
  exact ⟨rfl,rfl⟩
theorem Tryz.gtr_str (x y : ByteArray) (w : World) : (Go.binOp .gtr 9 (.string x) (.string y)).run Tryz.prog w = .ok (.bool (!(Op.bytesLess x.toList y.toList || x.toList == y.toList))) w:=by simp [Go.binOp,Op.stringOp]
set_option maxHeartbeats 2000000 in
theorem Tryz.compare_str (x y : ByteArray) (w : World) : Calls Tryz.prog 143 #[.string x,.string y] w fun e w' => e = .returned (.int .i64 (if Op.bytesLess x.toList y.toList then -1 else if Op.bytesLess x.toList y.toList || x.toList == y.toList then 0 else 1)) ∧ w' = w:=by
  have mixed : Tryz.prog.follows .mixedOrders:=by kernel_rfl
  go_enter Tryz.func143,Tryz.ntmps143
  go_wp2_with (go_at_call 195; refine (Tryz.isNaN_str _ _).mono ?_; rintro e w' ⟨rfl,rfl⟩)
  all_goals try (
    rw [Tryz.gtr_str]
    simp only [Result.andThen]
    rw [Oper.upon_value]
    generalize hq : (Op.bytesLess x.toList y.toList || x.toList == y.toList) = q
    cases q
    all_goals (simp only [Bool.not_true,Bool.not_false]; go_wp2))
  all_goals (go_ret; refine ⟨?_,rfl⟩; simp_all)
set_option maxHeartbeats 4000000 in
theorem Tryz.or_ints (b : Nat) (p q : Int) (w : World) (h0 : w.cell? ⟨b,0,none⟩ = some (.int .i64 p)) (h1 : w.cell? ⟨b,1,none⟩ = some (.int .i64 q)) : Calls Tryz.prog 142 #[.slice (some ⟨b,0,none⟩) 2 2] w fun e w' => e = .returned (.int .i64 (if p = 0 then q else p)) ∧ w' = w:=by
  have mixed : Tryz.prog.follows .mixedOrders:=by kernel_rfl
  go_enter Tryz.func142,Tryz.ntmps142
  go_wp2
  refine wp_loop_rounds 3 ?_
  rw [rounds_succ]
  by_cases hp : p = 0
  · subst hp
    go_wp2
    rw [rounds_succ]
    by_cases hq : q = 0
    · subst hq
      go_wp2
      rw [rounds_succ]
      go_wp2
      go_ret
      exact ⟨rfl,rfl⟩
    · go_wp2
      all_goals first | (go_ret; refine ⟨?_,rfl⟩; simp_all) | (exfalso; simp_all)
  · go_wp2
    all_goals first | (go_ret; refine ⟨?_,rfl⟩; simp_all) | (exfalso; simp_all)
set_option maxHeartbeats 8000000 in
set_option maxRecDepth 100000 in
theorem Tryz.cmpTag (x y : AM.TagD) (w : World) : Calls Tryz.prog 141 #[.agg (AM.encT x).toArray,.agg (AM.encT y).toArray] w fun e w' => e = .returned (.int .i64 (AM.cmpL x y)) ∧ ∃ q os,w' = grow (w.drewN q) os:=by
  have mixed : Tryz.prog.follows .mixedOrders:=by kernel_rfl
  obtain ⟨k1,v1⟩:=x
  obtain ⟨k2,v2⟩:=y
  show Calls Tryz.prog 141 #[.agg #[.string ⟨k1.toArray⟩,.string ⟨v1.toArray⟩],.agg #[.string ⟨k2.toArray⟩,.string ⟨v2.toArray⟩]] w _
  have hb : ∀ l : List UInt8,(⟨l.toArray⟩ : ByteArray).toList = l:=fun l => by rw [AM.ba_toList]
  have c1 : ∀ W,Calls Tryz.prog 143 #[.string ⟨k1.toArray⟩,.string ⟨k2.toArray⟩] W fun e w' => e = .returned (.int .i64 (AM.cmpS k1 k2)) ∧ w' = W:=fun W => by
    have h:=Tryz.compare_str ⟨k1.toArray⟩ ⟨k2.toArray⟩ W
    simp only [hb] at h
    exact h
  have c2 : ∀ W,Calls Tryz.prog 143 #[.string ⟨v1.toArray⟩,.string ⟨v2.toArray⟩] W fun e w' => e = .returned (.int .i64 (AM.cmpS v1 v2)) ∧ w' = W:=fun W => by
    have h:=Tryz.compare_str ⟨v1.toArray⟩ ⟨v2.toArray⟩ W
    simp only [hb] at h
    exact h
  unfold AM.cmpL
  simp only
  clear hb
  generalize AM.cmpS k1 k2 = r1 at c1 ⊢
  generalize AM.cmpS v1 v2 = r2 at c2 ⊢
  generalize (⟨k1.toArray⟩ : ByteArray) = k1 at c1 ⊢
  generalize (⟨k2.toArray⟩ : ByteArray) = k2 at c1 ⊢
  generalize (⟨v1.toArray⟩ : ByteArray) = v1 at c2 ⊢
  generalize (⟨v2.toArray⟩ : ByteArray) = v2 at c2 ⊢
  have c3 : ∀ (W : World) (b : Nat),W.heap.size = b→Calls Tryz.prog 142 #[.slice (some ⟨b,0,none⟩) 2 2] (W.alloc (.cells #[.int .i64 r1,.int .i64 r2] 3)).drew fun e w' => e = .returned (.int .i64 (if r1 = 0 then r2 else r1)) ∧ w' = (W.alloc (.cells #[.int .i64 r1,.int .i64 r2] 3)).drew:=by
    rintro W b rfl
    have hh : (W.alloc (.cells #[.int .i64 r1,.int .i64 r2] 3)).drew.heap[W.heap.size]? = some (.cells #[.int .i64 r1,.int .i64 r2] 3 (0,0)):=World.alloc_heap_new W _
    exact Tryz.or_ints _ r1 r2 _ (by rw [Lib.cell_of_heap hh]; rfl) (by rw [Lib.cell_of_heap hh]; rfl)
  generalize (if r1 = 0 then r2 else r1) = rr at c3 ⊢
  go_enter Tryz.func141,Tryz.ntmps141
  go_wp2
  go_region_held2 (fun W => W.cell? ⟨w.heap.size,0,none⟩ = some (.string k1) ∧ W.cell? ⟨w.heap.size,1,none⟩ = some (.string v1) ∧ W.cell? ⟨w.heap.size + 1,0,none⟩ = some (.string k2) ∧ W.cell? ⟨w.heap.size + 1,1,none⟩ = some (.string v2)) (go_keep) (first
    | (go_at_call_of 143 (Value.string k1); refine (c1 _).mono ?_; rintro e w' ⟨rfl,rfl⟩)
    | (go_at_call_of 143 (Value.string v1); refine (c2 _).mono ?_; rintro e w' ⟨rfl,rfl⟩)
    | (go_at_call 142; refine (c3 _ _ (by simp)).mono ?_; rintro e w' ⟨rfl,rfl⟩))
  go_wp2
  go_ret
  exact ⟨rfl,1,_,by rw [alloc_eq_grow,alloc_eq_grow,alloc_eq_grow,grow_grow,grow_grow]; rfl⟩
set_option maxHeartbeats 4000000 in
set_option maxRecDepth 100000 in
theorem Tryz.sort_none (A : Option Addr) (w : World) : Calls Tryz.prog 140 #[.slice A 0 0,.func (.func 141) #[] #[]] w fun e w' => e = .returned (.tuple #[]) ∧ w.grownBy w' none:=by
  have mixed : Tryz.prog.follows .mixedOrders:=by kernel_rfl
  go_enter Tryz.func140,Tryz.ntmps140
  go_wp2
  refine wp_loop_rounds 1 ?_
  rw [rounds_succ]
  go_wp2
  refine wp_loop_rounds 1 ?_
  rw [rounds_succ]
  go_wp2
  go_end0
  all_goals try simp only []
  go_wp2
  try simp only [Exit.inBlock,Exit.then]
  refine bodyPost_ret (results_none rfl _ _ _) rfl ?_
  try simp only []
  go_at_K
  go_wp2
  go_end0
  exact ⟨rfl,⟨rfl,rfl,rfl,Nat.le_refl _,fun _ _ _ => rfl⟩⟩
theorem zl9 : AM.PrOK Tryz.prog (fun _ => True) 140 (.sort AM.TyTag 141 AM.sortTags):=by
  refine AM.sort_ok (AM.enters Tryz.func140 (by kernel_rfl) (by decide)) (fun q cap d w hH hq hd => ?_) Tryz.sort_none
  have eg : ∀ args w,(callFunc 141 args).run Tryz.prog w = .ok (.enter 141 args) w:=enters_of Tryz.func141 (by kernel_rfl) rfl
  exact AnyQ.slices_SortFunc Tryz.laySort 2 Tryz.isAgg50 Tryz.sizeOf50 AM.encT (fun _ => rfl) (fun x v hv => by simp [AM.encT] at hv; rcases hv with rfl | rfl <;> rfl) AM.cmpL AM.swoT 141 #[] q 0 cap d w eg (fun _ _ _ _ x y => Tryz.cmpTag x y _) hH hq hd
end Go.Proofs
set_option linter.unusedVariables false
set_option linter.unusedSimpArgs false
namespace Go.AM
open Go.Proofs Go.RowKit
set_option maxHeartbeats 6400000 in
set_option maxRecDepth 100000 in
theorem zvd (w : World) : Calls Tryz.prog 62 #[] w fun e w' => e = .returned (.map (some w.heap.size)) ∧ w' = w.alloc (.map (fmEnts [(1,113),(2,114),(3,115),(4,114)]) 4):=by
  have mixed : Tryz.prog.follows .mixedOrders:=by kernel_rfl
  have h0 : (Instr.makeMap 103 none).run Tryz.prog w = .ok (.map (some w.heap.size)) (w.alloc (.map #[] 0)):=rfl
  have up:=fun es c key v h => zd7 (P:=Tryz.prog) (t:=103) (k:=3) (e:=101) Tryz.underlying103 Tryz.underlying3 w es c key v h
  have h1:=up #[] 0 1 (.func (.func 113) #[] #[]) (by simp)
  have h2:=up #[⟨.int .i64 1,.func (.func 113) #[] #[],0⟩] 1 2 (.func (.func 114) #[] #[]) (by simp)
  have h3:=up #[⟨.int .i64 1,.func (.func 113) #[] #[],0⟩,⟨.int .i64 2,.func (.func 114) #[] #[],1⟩] 2 3 (.func (.func 115) #[] #[]) (by simp)
  have h4:=up #[⟨.int .i64 1,.func (.func 113) #[] #[],0⟩,⟨.int .i64 2,.func (.func 114) #[] #[],1⟩,⟨.int .i64 3,.func (.func 115) #[] #[],2⟩] 3 4 (.func (.func 114) #[] #[]) (by simp)
  clear up
  simp only [List.push_toArray,List.nil_append,List.cons_append] at h1 h2 h3 h4
  go_enter Tryz.func62,Tryz.ntmps62
  go_wp2
  go_ret
  exact ⟨rfl,rfl⟩
theorem znb : PrOK Tryz.prog (fun _ => True) 62 (.fmts [(1,113),(2,114),(3,115),(4,114)]):=fun w _ =>
  z6 (enters Tryz.func62 (by kernel_rfl) (by decide)) ((zvd w).mono fun e w' ⟨h1,h2⟩ => ⟨_,h1,rfl,4,h2⟩)
end Go.AM
set_option linter.unusedVariables false
set_option linter.unusedSimpArgs false
namespace Go.Proofs
open Go.RowKit Go.AM
set_option maxHeartbeats 6400000 in
set_option maxRecDepth 100000 in
theorem Tryz.words_call (w : World) : Calls Tryz.prog 153 #[] w fun e w' => e = .returned (.map (some w.heap.size)) ∧ w' = w.alloc (.map wordsMap 4):=by
  have mixed : Tryz.prog.follows .mixedOrders:=by kernel_rfl
  have h0 : (Instr.makeMap 201 none).run Tryz.prog w = .ok (.map (some w.heap.size)) (w.alloc (.map #[] 0)):=rfl
  have up:=fun es c key v h => zd7 (P:=Tryz.prog) (t:=201) (k:=3) (e:=9) Tryz.underlying201 Tryz.underlying3 w es c key v h
  have h1:=up #[] 0 1 (.string ⟨#[99]⟩) (by simp)
  have h2:=up #[⟨.int .i64 1,.string ⟨#[99]⟩,0⟩] 1 2 (.string ⟨#[103]⟩) (by simp)
  have h3:=up #[⟨.int .i64 1,.string ⟨#[99]⟩,0⟩,⟨.int .i64 2,.string ⟨#[103]⟩,1⟩] 2 3 (.string ⟨#[109,115]⟩) (by simp)
  have h4:=up #[⟨.int .i64 1,.string ⟨#[99]⟩,0⟩,⟨.int .i64 2,.string ⟨#[103]⟩,1⟩,⟨.int .i64 3,.string ⟨#[109,115]⟩,2⟩] 3 4 (.string ⟨#[104]⟩) (by simp)
  clear up
  simp only [List.push_toArray,List.nil_append,List.cons_append] at h1 h2 h3 h4
  go_enter Tryz.func153,Tryz.ntmps153
  go_wp2
  go_ret
  exact ⟨rfl,rfl⟩
set_option maxHeartbeats 6400000 in
set_option maxRecDepth 100000 in
theorem Tryz.statsd_Word (k : Int) (w : World) : Calls Tryz.prog 92 #[.int .i64 k] w fun e w' => e = .returned (.tuple #[.string ⟨(wordL k).toArray⟩,.int .i64 (wordE k)]) ∧ Below w.heap.size w w':=by
  have mixed : Tryz.prog.follows .mixedOrders:=by kernel_rfl
  have e1 : ∀ args w,(callFunc 153 args).run Tryz.prog w = .ok (.enter 153 args) w:=enters_of Tryz.func153 (by kernel_rfl) rfl
  have hz : ∀ w',(zeroValue 9).run Tryz.prog w' = .ok (.string ⟨#[]⟩) w':=fun w' => by rfl
  obtain ⟨v,b,hv,hb,hvb,hl⟩ : ∃ (v : List UInt8) (b : Bool),v = wordL k ∧ b = decide (k = 1 ∨ k = 2 ∨ k = 3 ∨ k = 4) ∧ (b = false→v = []) ∧ (Instr.lookup 201 (.map (some w.heap.size)) (.int .i64 k) true).run Tryz.prog (w.alloc (.map wordsMap 4)) = .ok (.tuple #[.string ⟨v.toArray⟩,.bool b]) (w.alloc (.map wordsMap 4)):=by
    by_cases h1 : k = 1
    · subst h1; exact ⟨[99],true,rfl,rfl,(fun h => by cases h),zb3 (P:=Tryz.prog) (k:=3) (e:=9) Tryz.underlying201 Tryz.underlying3 w wordsMap 4 1 (i:=0) rfl rfl⟩
    by_cases h2 : k = 2
    · subst h2; exact ⟨[103],true,rfl,rfl,(fun h => by cases h),zb3 (P:=Tryz.prog) (k:=3) (e:=9) Tryz.underlying201 Tryz.underlying3 w wordsMap 4 2 (i:=1) rfl rfl⟩
    by_cases h3 : k = 3
    · subst h3; exact ⟨[109,115],true,rfl,rfl,(fun h => by cases h),zb3 (P:=Tryz.prog) (k:=3) (e:=9) Tryz.underlying201 Tryz.underlying3 w wordsMap 4 3 (i:=2) rfl rfl⟩
    by_cases h4 : k = 4
    · subst h4; exact ⟨[104],true,rfl,rfl,(fun h => by cases h),zb3 (P:=Tryz.prog) (k:=3) (e:=9) Tryz.underlying201 Tryz.underlying3 w wordsMap 4 4 (i:=3) rfl rfl⟩
    refine ⟨[],false,?_,?_,(fun _ => rfl),zjc (P:=Tryz.prog) (k:=3) (e:=9) Tryz.underlying201 Tryz.underlying3 w wordsMap 4 k ?_ hz⟩
    · unfold wordL; rw [if_neg h1,if_neg h2,if_neg h3,if_neg h4]
    · simp [h1,h2,h3,h4]
    · intro x hx
      simp only [wordsMap,List.mem_cons,List.mem_nil_iff,or_false] at hx
      rcases hx with rfl | rfl | rfl | rfl
      · exact ⟨1,rfl,Ne.symm h1⟩
      · exact ⟨2,rfl,Ne.symm h2⟩
      · exact ⟨3,rfl,Ne.symm h3⟩
      · exact ⟨4,rfl,Ne.symm h4⟩
  have hE : wordE k = if b then 0 else 16:=by subst hb; unfold wordE; simp
  rw [← hv,hE]
  clear hv hE hb hz
  cases b
  · obtain rfl:=hvb rfl
    go_enter Tryz.func92,Tryz.ntmps92
    go_wp2_with (go_at_fn 153; refine (Tryz.words_call _).mono ?_; rintro e w' ⟨rfl,rfl⟩)
    all_goals go_ret2
    all_goals exact ⟨rfl,zim _⟩
  · go_enter Tryz.func92,Tryz.ntmps92
    go_wp2_with (go_at_fn 153; refine (Tryz.words_call _).mono ?_; rintro e w' ⟨rfl,rfl⟩)
    all_goals go_ret2
    all_goals exact ⟨rfl,zim _⟩
end Go.Proofs
