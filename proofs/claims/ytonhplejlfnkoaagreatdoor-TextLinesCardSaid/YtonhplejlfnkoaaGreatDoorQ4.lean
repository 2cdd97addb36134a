/- Part 4 of a proof by the abstract machine. -/
import Derived.Test.YtonhplejlfnkoaaGreatDoorQ3
import Derived.Shelf.Strings.Builder1
import Derived.Shelf.Strings.Builder2
import Derived.Shelf.Strings.OnBuilder
import Derived.Shelf.Strings.Trim
import Derived.Shelf.Small.Utf8
import Derived.Shelf.Small.Bits
import Derived.Shelf.Small.Strs
import Derived.Shelf.Small.Wraps
import Derived.Shelf.Strings.BuilderF
import Derived.Shelf.Strings.BuilderK
import Derived.Shelf.Utf8.RuneCount
import Derived.Shelf.Strings.Builder2Cap
import Derived.Shelf.Strconv.Atoi
import Derived.Shelf.Strconv.Itoa0
import Derived.Shelf.Strconv.Itoa1
import Derived.Shelf.LaysM
import Derived.Shelf.Strconv.Itoa2
import Derived.Shelf.Strconv.Itoa3
import Derived.Shelf.Strconv.AtoiErrFast
import Derived.Shelf.Strconv.ParseIntEmpty
import Derived.Shelf.Strconv.AtoiFail
import Derived.Shelf.Strconv.Clone
import Derived.Shelf.Strconv.SyntaxError
import Derived.Shelf.LaysC
import Derived.Shelf.Strconv.ToError
import Derived.Shelf.Strconv.Lower
import Derived.Shelf.Strconv.ParseUint10
import Derived.Shelf.Strconv.ParseUint10Empty
import Derived.Shelf.Strconv.ParseUint10Any
import Derived.Shelf.Strconv.ParseInt10
import Derived.Shelf.Strconv.AtoiLong
import Derived.Shelf.Strconv.AtoiInnerAll
import Derived.Shelf.Strconv.RangeError
import Derived.Shelf.Strconv.ToErrorRange
import Derived.Shelf.Strconv.AtoiAll
import Derived.Shelf.Strconv.ErrVarAll
import Derived.Shelf.Strings.Search1
import Derived.Shelf.Strings.Search2
import Derived.Shelf.Strings.Search3
import Derived.Shelf.Strings.Cut
import Derived.Shelf.Strings.Count
import Derived.Shelf.Strings.Shaped
import Derived.Shelf.Strings.Prefix
import Derived.Shelf.Strings.Split
import Derived.Shelf.Strings.Runes
import Derived.Shelf.Strings.AsciiSet
import Derived.Shelf.Bits.Mul64
import Derived.Shelf.Strings.Repeat
import Derived.Shelf.Unicode.DecodeSlow
import Derived.Shelf.Strings.BuilderCap
import Derived.Shelf.SlGeneric
import Derived.Ground.SlsfProg
import Derived.Shelf.SlSortCmp.WholeK
import Derived.Test.YtonhplejlfnkoaaGreatDoorProg
import Derived.Lib.AppendIntMem
import Derived.Lib.ItoaMem
import Derived.Lib.Walk
import Derived.WalkKit
import Derived.BigCall
import Derived.BigGuard
import Derived.Lib.IndexBytes
import Derived.Shelf.Strings.BuilderX
import Derived.Lib.Builder
import Derived.Lib.UnsafeStr
import Derived.Laws.Externs
import Derived.Shelf.RegionOpenPlain
set_option linter.unusedVariables false
namespace Go.AM
abbrev Z0:Type:=List UInt8
abbrev Z1:Type:=(Bool)×(Int)×(Int)
abbrev Z2:Type:=List (Z1)
abbrev Z3:Type:=(Z0)×(Z0)
abbrev Z4:Type:=List (Z3)
abbrev Z5:Type:=(Z0)×(Int)×(Z2)×(Int)×(Z4)×(Int)
abbrev Z6:Type:=List (Z5)
abbrev Z7:Type:=(Int)×(Int)×Unit
abbrev Z8:Type:=(Z0)×(Int)×(Z2)×(Int)×(Z4)×(Int)×Unit
abbrev Z9:Type:=(Bool)×(Int)×(Int)×Unit
abbrev Z10:Type:=List (Z0)
abbrev Z11:Type:=(Z0)×(Unit)×(Z0)×(Unit)×(Z0)×(Unit)×Unit
abbrev Z12:Type:=Nat×Nat
abbrev Z13:Type:=Nat×List (Z3)
abbrev Z14:Type:=(Z0)×(Z0)×(Z0)×(Z0)×(Z0)×(Z0)×Unit
abbrev Z15:Type:=(Z0)×(Z0)×Unit
abbrev Z16:Type:=List (UInt8)
abbrev Z17:Type:=(Int)×(Z0)
abbrev Z18:Type:=List (Z17)
abbrev Z19:Type:=Nat×List (Z17)
abbrev Z20:Type:=Nat×List (Z1)
abbrev Z21:Type:=((Z8)×Unit)×(Unit)
abbrev Z22:Type:=(Z21)×(Int)×(Z21)×(Int)×(Z21)×(Int)×(Z21)×(Int)×(Z21)×(Int)×(Z21)×(Int)×Unit
abbrev Z23:Type:=Nat×List (UInt8)
noncomputable def F.zbp (n:Nat) (a0:Z0) (a1:Z0):Option ((Z0)×(Z0)×(Bool)×Unit):=
 (O.index1 n a0 a1).bind fun y1 =>
  bif decide (y1≥(0:Int)) then
   (sub a0 (0:Int) y1).bind fun x2 =>
    (sub a0 (IntKind.wrap .i64 (y1+(a1.length:Int))) (a0.length:Int)).bind fun x3 =>
     some ((x2,x3,true,()))
  else
   some ((a0,[],false,()))
noncomputable def F.zap (n:Nat) (a0:Z0) (a1:Z0):Option ((Z0)×(Z0)×(Bool)×Unit):=
 (F.zbp n a0 a1).bind fun y1 =>
  some ((y1.1,y1.2.1,y1.2.2.1,()))
noncomputable def F.zcp (n:Nat) (a0:Int):Option (Bool):=
 bif decide (a0≥(1:Int)) then
  some (decide (a0≤(4:Int)))
 else
  some (false)
noncomputable def F.zav (n:Nat) (a0:Int) (a1:Int) (a2:Int):Option (Bool):=
 bif decide (a0≥a1) then
  some (decide (a0≤a2))
 else
  some (false)
noncomputable def F.zcs (n:Nat) (a0:Int) (a1:Int):Option (Bool):=
 bif a0==(3:Int) then
  (F.zav n a1 (33:Int) (126:Int)).bind fun y1 =>
   bif y1 then
    bif !(a1==(44:Int)) then
     some (!(a1==(124:Int)))
    else
     some (false)
   else
    some (false)
 else
 bif a0 == (2:Int) then
  bif a1==(47:Int) then
   some (true)
  else
   (F.zav n a1 (65:Int) (90:Int)).bind fun y2 =>
    bif y2 then
     some (true)
    else
     (F.zav n a1 (97:Int) (122:Int)).bind fun y3 =>
      bif y3 then
       some (true)
      else
      bif a1==(95:Int) then
       some (true)
      else
      bif a1==(46:Int) then
       some (true)
      else
      bif a1==(45:Int) then
       some (true)
      else
       (F.zav n a1 (48:Int) (57:Int)).bind fun y4 =>
        some (y4)
 else
 bif a0==(1:Int) then
  (F.zav n a1 (65:Int) (90:Int)).bind fun y5 =>
   bif y5 then
    some (true)
   else
    (F.zav n a1 (97:Int) (122:Int)).bind fun y6 =>
     bif y6 then
      some (true)
     else
     bif a1==(95:Int) then
      some (true)
     else
     bif a1==(46:Int) then
      some (true)
     else
     bif a1==(45:Int) then
      some (true)
     else
      (F.zav n a1 (48:Int) (57:Int)).bind fun y7 =>
       some (y7)
 else
 bif a0==(4:Int) then
  (F.zav n a1 (48:Int) (57:Int)).bind fun y8 =>
   some (y8)
 else
  some (false)
noncomputable def F.zaw.L4.step {X:Type} (n:Nat) (rec:Int→Z0→Int→Int→Option X) (k0:Unit→Option X) (kr:Int→Int→Option X) (v0:Int) (v1:Z0) (v11:Int) (v12:Int):Option X:=
 bif decide (v12<v11) then
  (idx v1 v12).bind fun x2 =>
   (F.zcs n v0 ((x2).toNat)).bind fun y3 =>
    bif !y3 then
     kr v12 (0:Int)
    else
     rec v0 v1 v11 (IntKind.wrap .i64 (v12+(1:Int)))
 else
  k0 ()
noncomputable def F.zaw.L4 {X:Type} (n:Nat) (k0:Unit→Option X) (kr:Int→Int→Option X):Nat→Int→Z0→Int→Int→Option X
 | 0=>fun _ _ _ _=>none
 | m+1=>fun v0 v1 v11 v12=>F.zaw.L4.step n (F.zaw.L4 n k0 kr m) k0 kr v0 v1 v11 v12
noncomputable def F.zaw (n:Nat) (a0:Int) (a1:Z0):Option ((Int)×(Int)×Unit):=
 (F.zcp n a0).bind fun y1 =>
  bif !y1 then
   some (((0:Int),(1:Int),()))
  else
   F.zaw.L4 n
    (fun (_:Unit) =>
     some (((-1:Int),(0:Int),())))
    (fun e4 e5 =>
     some ((e4,e5,()))) n a0 a1 (a1.length:Int) (0:Int)
noncomputable def F.za5 (n:Nat) (a0:Int) (a1:Z0) (a2:Int) (a3:Int):Option (Z7):=
 (F.zaw n a0 a1).bind fun y1 =>
  bif !(y1.2.1==(0:Int)) then
   some (((1:Int),(0:Int),()))
  else
  bif decide (a2<(0:Int)) then
   some (((1:Int),(0:Int),()))
  else
  bif decide (a3<a2) then
   some (((1:Int),(0:Int),()))
  else
  bif decide ((a1.length:Int)<a2) then
   some (((13:Int),(a1.length:Int),()))
  else
  bif decide ((a1.length:Int)>a3) then
   some (((12:Int),a3,()))
  else
  bif decide (y1.1≥(0:Int)) then
   some (((14:Int),y1.1,()))
  else
   some (((0:Int),(0:Int),()))
noncomputable def F.zaz (n:Nat) (a0:Int) (a1:Int):Option ((Z8)×(Z7)×Unit):=
 some ((([],(0:Int),[],(0:Int),[],(0:Int),()),(a0,a1,()),()))
noncomputable def F.zcj (n:Nat) (a0:Int) (a1:Int):Option ((Int)×(Bool)×Unit):=
 (O.mul64 n a0 (10:Int)).bind fun y1 =>
  (O.add64 n y1.2.1 a1 (0:Int)).bind fun y2 =>
   bif y1.1==(0:Int) then
    some ((y2.1,y2.2.1==(0:Int),()))
   else
    some ((y2.1,false,()))
noncomputable def F.zf.L3.step {X:Type} (n:Nat) (rec:Bool→Int→Int→Bool→Int→Int→Option X) (k0:Bool→Int→Int→Bool→Int→Int→Option X) (ab0:Bool) (ab1:Int) (ab2:Int) (bb0:Bool) (bb1:Int) (bb2:Int):Option X:=
 bif (ab1.tmod (10:Int))==(0:Int) then
  bif decide (ab2<(18:Int)) then
   rec ab0 (IntKind.wrap .u64 (ab1.tdiv (10:Int))) (IntKind.wrap .i64 (ab2+(1:Int))) bb0 bb1 bb2
  else
   k0 ab0 ab1 ab2 bb0 bb1 bb2
 else
  k0 ab0 ab1 ab2 bb0 bb1 bb2
noncomputable def F.zf.L3 {X:Type} (n:Nat) (k0:Bool→Int→Int→Bool→Int→Int→Option X):Nat→Bool→Int→Int→Bool→Int→Int→Option X
 | 0=>fun _ _ _ _ _ _=>none
 | m+1=>fun ab0 ab1 ab2 bb0 bb1 bb2=>F.zf.L3.step n (F.zf.L3 n k0 m) k0 ab0 ab1 ab2 bb0 bb1 bb2
noncomputable def F.zf.L5.step {X:Type} (n:Nat) (rec:Bool→Int→Int→Bool→Int→Int→Option X) (k2:Bool→Int→Int→Bool→Int→Int→Option X) (kr:Int→Bool→Int→Int→Bool→Int→Int→Option X) (ab0:Bool) (ab1:Int) (ab2:Int) (bb0:Bool) (bb1:Int) (bb2:Int):Option X:=
 bif decide (ab2>(18:Int)) then
  (F.zcj n ab1 (0:Int)).bind fun y2 =>
   bif !y2.2.1 then
    kr (10:Int) ab0 ab1 ab2 false (0:Int) (0:Int)
   else
    rec ab0 y2.1 (IntKind.wrap .i64 (ab2 - (1:Int))) bb0 bb1 bb2
 else
  k2 ab0 ab1 ab2 bb0 bb1 bb2
noncomputable def F.zf.L5 {X:Type} (n:Nat) (k2:Bool→Int→Int→Bool→Int→Int→Option X) (kr:Int→Bool→Int→Int→Bool→Int→Int→Option X):Nat→Bool→Int→Int→Bool→Int→Int→Option X
 | 0=>fun _ _ _ _ _ _=>none
 | m+1=>fun ab0 ab1 ab2 bb0 bb1 bb2=>F.zf.L5.step n (F.zf.L5 n k2 kr m) k2 kr ab0 ab1 ab2 bb0 bb1 bb2
noncomputable def F.zf (n:Nat) (a0:Z9):Option ((Z9)×(Int)×Unit):=
 bif a0.2.1==(0:Int) then
  some (((false,(0:Int),(0:Int),()),(0:Int),()))
 else
  F.zf.L3 n
   (fun g0 g1 g2 h0 h1 h2 =>
    F.zf.L5 n
     (fun g0 g1 g2 h0 h1 h2 =>
      bif decide (g2<(-18:Int)) then
       some (((false,(0:Int),(0:Int),()),(10:Int),()))
      else
       some (((g0,g1,g2,()),(0:Int),())))
     (fun e3 g0 g1 g2 h0 h1 h2 =>
      some (((h0,h1,h2,()),e3,()))) n g0 g1 g2 h0 h1 h2) n a0.1 a0.2.1 a0.2.2.1 false (0:Int) (0:Int)
noncomputable def F.zao (n:Nat) (a0:Z0) (a1:Z0):Option (Bool):=
 bif decide ((a0.length:Int)≥(a1.length:Int)) then
  (sub a0 (0:Int) (a1.length:Int)).bind fun x1 =>
   some (x1==a1)
 else
  some (false)
noncomputable def F.zai (n:Nat) (a0:Z0) (a1:Z0):Option (Bool):=
 (F.zao n a0 a1).bind fun y1 =>
  some (y1)
noncomputable def F.zaq.L2_dec_look_1.step {X:Type} (n:Nat) (rec:Int→Z0→Int→Int→Int→Option X) (k0:Int→Z0→Int→Int→Int→Option X) (v3:Int) (ab0:Z0) (bb0:Int) (bb1:Int) (cb0:Int):Option X:=
 bif decide (cb0<(ab0.length:Int)) then
  (idx ab0 cb0).bind fun x2 =>
   bif decide (((x2).toNat)≥(48:Int)) then
    (idx ab0 cb0).bind fun x3 =>
     bif decide (((x3).toNat)≤(57:Int)) then
      rec v3 ab0 bb0 bb1 (IntKind.wrap .i64 (cb0+(1:Int)))
     else
      k0 v3 ab0 bb0 bb1 cb0
   else
    k0 v3 ab0 bb0 bb1 cb0
 else
  k0 v3 ab0 bb0 bb1 cb0
noncomputable def F.zaq.L2_dec_look_1 {X:Type} (n:Nat) (k0:Int→Z0→Int→Int→Int→Option X):Nat→Int→Z0→Int→Int→Int→Option X
 | 0=>fun _ _ _ _ _=>none
 | m+1=>fun v3 ab0 bb0 bb1 cb0=>F.zaq.L2_dec_look_1.step n (F.zaq.L2_dec_look_1 n k0 m) k0 v3 ab0 bb0 bb1 cb0
noncomputable def F.zaq (n:Nat) (a0:Z0):Option (Z7):=
 (F.zai n a0 ([45])).bind fun y1 =>
  bif y1 then
   F.zaq.L2_dec_look_1 n
    (fun e3 g0 h0 h1 i0 =>
     bif decide (i0>e3) then
      (sub g0 i0 (g0.length:Int)).bind fun x5 =>
       (F.zai n x5 ([46])).bind fun y6 =>
        bif y6 then
         F.zaq.L2_dec_look_1 n
          (fun e3 g0 h0 h1 i0 =>
           bif decide (i0>e3) then
            bif i0==(g0.length:Int) then
             some (((0:Int),(0:Int),()))
            else
            bif i0==(g0.length:Int) then
             some (((11:Int),i0,()))
            else
             some (((14:Int),i0,()))
           else
           bif i0==(g0.length:Int) then
            some (((11:Int),i0,()))
           else
            some (((14:Int),i0,()))) n (IntKind.wrap .i64 (i0+(1:Int))) g0 h0 h1 (IntKind.wrap .i64 (i0+(1:Int)))
        else
        bif decide (i0>e3) then
         bif i0==(g0.length:Int) then
          some (((0:Int),(0:Int),()))
         else
         bif i0==(g0.length:Int) then
          some (((11:Int),i0,()))
         else
          some (((14:Int),i0,()))
        else
        bif i0==(g0.length:Int) then
         some (((11:Int),i0,()))
        else
         some (((14:Int),i0,()))
     else
     bif decide (i0>e3) then
      bif i0==(g0.length:Int) then
       some (((0:Int),(0:Int),()))
      else
      bif i0==(g0.length:Int) then
       some (((11:Int),i0,()))
      else
       some (((14:Int),i0,()))
     else
     bif i0==(g0.length:Int) then
      some (((11:Int),i0,()))
     else
      some (((14:Int),i0,()))) n (1:Int) a0 (0:Int) (0:Int) (1:Int)
  else
   F.zaq.L2_dec_look_1 n
    (fun e3 g0 h0 h1 i0 =>
     bif decide (i0>e3) then
      (sub g0 i0 (g0.length:Int)).bind fun x9 =>
       (F.zai n x9 ([46])).bind fun y10 =>
        bif y10 then
         F.zaq.L2_dec_look_1 n
          (fun e3 g0 h0 h1 i0 =>
           bif decide (i0>e3) then
            bif i0==(g0.length:Int) then
             some (((0:Int),(0:Int),()))
            else
            bif i0==(g0.length:Int) then
             some (((11:Int),i0,()))
            else
             some (((14:Int),i0,()))
           else
           bif i0==(g0.length:Int) then
            some (((11:Int),i0,()))
           else
            some (((14:Int),i0,()))) n (IntKind.wrap .i64 (i0+(1:Int))) g0 h0 h1 (IntKind.wrap .i64 (i0+(1:Int)))
        else
        bif decide (i0>e3) then
         bif i0==(g0.length:Int) then
          some (((0:Int),(0:Int),()))
         else
         bif i0==(g0.length:Int) then
          some (((11:Int),i0,()))
         else
          some (((14:Int),i0,()))
        else
        bif i0==(g0.length:Int) then
         some (((11:Int),i0,()))
        else
         some (((14:Int),i0,()))
     else
     bif decide (i0>e3) then
      bif i0==(g0.length:Int) then
       some (((0:Int),(0:Int),()))
      else
      bif i0==(g0.length:Int) then
       some (((11:Int),i0,()))
      else
       some (((14:Int),i0,()))
     else
     bif i0==(g0.length:Int) then
      some (((11:Int),i0,()))
     else
      some (((14:Int),i0,()))) n (0:Int) a0 (0:Int) (0:Int) (0:Int)
noncomputable def F.za7 (n:Nat) (a0:Z0) (a1:Z0):Option ((Z0)×(Bool)×Unit):=
 (F.zao n a0 a1).bind fun y1 =>
  bif !y1 then
   some ((a0,false,()))
  else
   (sub a0 (a1.length:Int) (a0.length:Int)).bind fun x2 =>
    some ((x2,true,()))
noncomputable def F.zaj (n:Nat) (a0:Z0) (a1:Z0):Option ((Z0)×(Bool)×Unit):=
 (F.za7 n a0 a1).bind fun y1 =>
  some ((y1.1,y1.2.1,()))
noncomputable def F.zah.L14.step {X:Type} (n:Nat) (rec:Z0→Int→Int→Bool→Int→Int→Int→Int→Int→Int→Bool→Int→Int→Option X) (k0:Bool→Int→Int→Int→Int→Int→Int→Bool→Int→Int→Option X) (v10:Z0) (v66:Int) (v67:Int) (ab0:Bool) (ab1:Int) (ab2:Int) (bb0:Int) (bb1:Int) (cb0:Int) (cb1:Int) (db0:Bool) (db1:Int) (db2:Int):Option X:=
 bif decide (v67<v66) then
  (idx v10 v67).bind fun x7 =>
   (F.zcj n db1 (IntKind.wrap .u64 (IntKind.wrap .u8 (((x7).toNat) - (48:Int))))).bind fun y8 =>
    bif !y8.2.1 then
     k0 ab0 ab1 ab2 bb0 bb1 cb0 cb1 db0 (1:Int) (-19:Int)
    else
     rec v10 v66 (IntKind.wrap .i64 (v67+(1:Int))) ab0 ab1 ab2 bb0 bb1 cb0 cb1 db0 y8.1 db2
 else
  k0 ab0 ab1 ab2 bb0 bb1 cb0 cb1 db0 db1 db2
noncomputable def F.zah.L14 {X:Type} (n:Nat) (k0:Bool→Int→Int→Int→Int→Int→Int→Bool→Int→Int→Option X):Nat→Z0→Int→Int→Bool→Int→Int→Int→Int→Int→Int→Bool→Int→Int→Option X
 | 0=>fun _ _ _ _ _ _ _ _ _ _ _ _ _=>none
 | m+1=>fun v10 v66 v67 ab0 ab1 ab2 bb0 bb1 cb0 cb1 db0 db1 db2=>F.zah.L14.step n (F.zah.L14 n k0 m) k0 v10 v66 v67 ab0 ab1 ab2 bb0 bb1 cb0 cb1 db0 db1 db2
noncomputable def F.zah (n:Nat) (a0:Z0):Option ((Z9)×(Z7)×Unit):=
 (F.zaq n a0).bind fun y1 =>
  bif !((y1.1==(0:Int))&&(y1.2.1==(0:Int))) then
   some (((false,(0:Int),(0:Int),()),(y1.1,y1.2.1,()),()))
  else
   (F.zaj n a0 ([45])).bind fun y2 =>
    (F.zap n y2.1 ([46])).bind fun y3 =>
     (O.trimR n y3.2.1 ([48])).bind fun y4 =>
      bif decide (y3.1.length+y4.length≤strMax) then
       (O.trimL n (y3.1++y4) ([48])).bind fun y5 =>
        (O.trimR n y5 ([48])).bind fun y6 =>
         bif (IntKind.wrap .i64 (0 - (y4.length:Int)))==(0:Int) then
          bif decide ((y6.length:Int)<(y5.length:Int)) then
           F.zah.L14 n
            (fun g0 g1 g2 h0 h1 i0 i1 j0 j1 j2 =>
             (F.zf n (j0,j1,j2,())).bind fun y10 =>
              bif !(y10.2.1==(0:Int)) then
               some (((false,(0:Int),(0:Int),()),(y10.2.1,(0:Int),()),()))
              else
               some (((y10.1.1,y10.1.2.1,y10.1.2.2.1,()),((0:Int),(0:Int),()),()))) n y6 (y6.length:Int) (0:Int) false (0:Int) (0:Int) (0:Int) (0:Int) y1.1 y1.2.1 y2.2.1 (0:Int) (IntKind.wrap .i64 ((y5.length:Int) - (y6.length:Int)))
          else
           F.zah.L14 n
            (fun g0 g1 g2 h0 h1 i0 i1 j0 j1 j2 =>
             (F.zf n (j0,j1,j2,())).bind fun y12 =>
              bif !(y12.2.1==(0:Int)) then
               some (((false,(0:Int),(0:Int),()),(y12.2.1,(0:Int),()),()))
              else
               some (((y12.1.1,y12.1.2.1,y12.1.2.2.1,()),((0:Int),(0:Int),()),()))) n y5 (y5.length:Int) (0:Int) false (0:Int) (0:Int) (0:Int) (0:Int) y1.1 y1.2.1 y2.2.1 (0:Int) (IntKind.wrap .i64 (0 - (y4.length:Int)))
         else
          F.zah.L14 n
           (fun g0 g1 g2 h0 h1 i0 i1 j0 j1 j2 =>
            (F.zf n (j0,j1,j2,())).bind fun y14 =>
             bif !(y14.2.1==(0:Int)) then
              some (((false,(0:Int),(0:Int),()),(y14.2.1,(0:Int),()),()))
             else
              some (((y14.1.1,y14.1.2.1,y14.1.2.2.1,()),((0:Int),(0:Int),()),()))) n y5 (y5.length:Int) (0:Int) false (0:Int) (0:Int) (0:Int) (0:Int) y1.1 y1.2.1 y2.2.1 (0:Int) (IntKind.wrap .i64 (0 - (y4.length:Int)))
      else
       none
noncomputable def F.zaf.L2.step {X:Type} (n:Nat) (rec:Z0→Int→Option X) (k0:Unit→Option X) (kr:Int→Int→Option X) (v0:Z0) (v4:Int):Option X:=
 bif decide (v4≤(5:Int)) then
  (O.word n v4).bind fun y1 =>
   bif y1.2.1==(0:Int) then
    bif y1.1==v0 then
     kr v4 (0:Int)
    else
     rec v0 (IntKind.wrap .i64 (v4+(1:Int)))
   else
    rec v0 (IntKind.wrap .i64 (v4+(1:Int)))
 else
  k0 ()
noncomputable def F.zaf.L2 {X:Type} (n:Nat) (k0:Unit→Option X) (kr:Int→Int→Option X):Nat→Z0→Int→Option X
 | 0=>fun _ _=>none
 | m+1=>fun v0 v4=>F.zaf.L2.step n (F.zaf.L2 n k0 kr m) k0 kr v0 v4
noncomputable def F.zaf (n:Nat) (a0:Z0):Option ((Int)×(Int)×Unit):=
 F.zaf.L2 n
  (fun (_:Unit) =>
   some (((0:Int),(16:Int),())))
  (fun e2 e3 =>
   some ((e2,e3,()))) n a0 (1:Int)
noncomputable def F.zar (n:Nat) (a0:Int) (a1:Int):Option ((Int)×(Z7)×Unit):=
 some (((0:Int),(a0,a1,()),()))
noncomputable def F.zw.L5.step {X:Type} (n:Nat) (rec:Z0→Z7→Int→Int→Int→Int→Int→Option X) (k0:Z0→Int→Int→Int→Int→Option X) (v0:Z0) (v16:Z7) (v17:Int) (ab0:Int) (ab1:Int) (bb0:Int) (bb1:Int):Option X:=
 bif decide (v17<(2:Int)) then
  bif v17==(0:Int) then
   bif v17==(v0.length:Int) then
    bif v17==(0:Int) then
     k0 v0 ab0 ab1 (13:Int) (0:Int)
    else
    bif decide (v17≥(v0.length:Int)) then
     k0 v0 ab0 ab1 (11:Int) v17
    else
     (idx v0 v17).bind fun x1 =>
      bif !(((x1).toNat)==v16.1) then
       k0 v0 ab0 ab1 (11:Int) v17
      else
       rec v0 (v16.1,v16.2.1,()) (IntKind.wrap .i64 (v17+(1:Int))) ab0 ab1 bb0 bb1
   else
   bif decide (v17≥(v0.length:Int)) then
    k0 v0 ab0 ab1 (11:Int) v17
   else
    (idx v0 v17).bind fun x2 =>
     bif !(((x2).toNat)==v16.1) then
      k0 v0 ab0 ab1 (11:Int) v17
     else
      rec v0 (v16.1,v16.2.1,()) (IntKind.wrap .i64 (v17+(1:Int))) ab0 ab1 bb0 bb1
  else
  bif v17==(1:Int) then
   bif v17==(v0.length:Int) then
    bif v17==(0:Int) then
     k0 v0 ab0 ab1 (13:Int) (0:Int)
    else
    bif decide (v17≥(v0.length:Int)) then
     k0 v0 ab0 ab1 (11:Int) v17
    else
     (idx v0 v17).bind fun x3 =>
      bif !(((x3).toNat)==v16.2.1) then
       k0 v0 ab0 ab1 (11:Int) v17
      else
       rec v0 (v16.1,v16.2.1,()) (IntKind.wrap .i64 (v17+(1:Int))) ab0 ab1 bb0 bb1
   else
   bif decide (v17≥(v0.length:Int)) then
    k0 v0 ab0 ab1 (11:Int) v17
   else
    (idx v0 v17).bind fun x4 =>
     bif !(((x4).toNat)==v16.2.1) then
      k0 v0 ab0 ab1 (11:Int) v17
     else
      rec v0 (v16.1,v16.2.1,()) (IntKind.wrap .i64 (v17+(1:Int))) ab0 ab1 bb0 bb1
  else
   none
 else
  k0 v0 ab0 ab1 bb0 bb1
noncomputable def F.zw.L5 {X:Type} (n:Nat) (k0:Z0→Int→Int→Int→Int→Option X):Nat→Z0→Z7→Int→Int→Int→Int→Int→Option X
 | 0=>fun _ _ _ _ _ _ _=>none
 | m+1=>fun v0 v16 v17 ab0 ab1 bb0 bb1=>F.zw.L5.step n (F.zw.L5 n k0 m) k0 v0 v16 v17 ab0 ab1 bb0 bb1
noncomputable def F.zw.L23.step {X:Type} (n:Nat) (rec:Z0→Int→Int→Int→Int→Int→Int→Int→Int→Option X) (k3:Int→Int→Int→Int→Int→Int→Int→Option X) (v7:Z0) (v81:Int) (ab0:Int) (ab1:Int) (bb0:Int) (bb1:Int) (cb0:Int) (cb1:Int) (db0:Int):Option X:=
 bif decide (v81<(6:Int)) then
  bif decide (v81<(v7.length:Int)) then
   (idx v7 v81).bind fun x11 =>
    rec v7 (IntKind.wrap .i64 (v81+(1:Int))) ab0 ab1 bb0 bb1 cb0 cb1 (IntKind.wrap .i64 ((IntKind.wrap .i64 ((10:Int)*db0))+(IntKind.wrap .i64 (IntKind.wrap .u8 (((x11).toNat) - (48:Int))))))
  else
   rec v7 (IntKind.wrap .i64 (v81+(1:Int))) ab0 ab1 bb0 bb1 cb0 cb1 (IntKind.wrap .i64 ((IntKind.wrap .i64 ((10:Int)*db0))+(0:Int)))
 else
  k3 ab0 ab1 bb0 bb1 cb0 cb1 db0
noncomputable def F.zw.L23 {X:Type} (n:Nat) (k3:Int→Int→Int→Int→Int→Int→Int→Option X):Nat→Z0→Int→Int→Int→Int→Int→Int→Int→Int→Option X
 | 0=>fun _ _ _ _ _ _ _ _ _=>none
 | m+1=>fun v7 v81 ab0 ab1 bb0 bb1 cb0 cb1 db0=>F.zw.L23.step n (F.zw.L23 n k3 m) k3 v7 v81 ab0 ab1 bb0 bb1 cb0 cb1 db0
noncomputable def F.zw (n:Nat) (a0:Z0):Option ((Int)×(Z7)×Unit):=
 bif a0==([49]) then
  some (((1000000:Int),((0:Int),(0:Int),()),()))
 else
  F.zw.L5 n
   (fun e0 g0 g1 h0 h1 =>
    bif !((h0==(0:Int))&&(h1==(0:Int))) then
     (F.zar n h0 h1).bind fun y6 =>
      some ((y6.1,(y6.2.1.1,y6.2.1.2.1,()),()))
    else
     (sub e0 (2:Int) (e0.length:Int)).bind fun x7 =>
      (F.za5 n (4:Int) x7 (1:Int) (IntKind.wrap .i64 ((x7.length:Int)+(1:Int)))).bind fun y8 =>
       bif !((y8.1==(0:Int))&&(y8.2.1==(0:Int))) then
        (F.zar n y8.1 (IntKind.wrap .i64 ((2:Int)+y8.2.1))).bind fun y9 =>
         some ((y9.1,(y9.2.1.1,y9.2.1.2.1,()),()))
       else
       bif decide ((x7.length:Int)>(6:Int)) then
        (F.zar n (12:Int) (8:Int)).bind fun y10 =>
         some ((y10.1,(y10.2.1.1,y10.2.1.2.1,()),()))
       else
        F.zw.L23 n
         (fun g0 g1 h0 h1 i0 i1 j0 =>
          bif j0==(0:Int) then
           (F.zar n (10:Int) (0:Int)).bind fun y13 =>
            some ((y13.1,(y13.2.1.1,y13.2.1.2.1,()),()))
          else
           some ((j0,((0:Int),(0:Int),()),()))) n x7 (0:Int) g0 g1 h0 h1 y8.1 y8.2.1 (0:Int)) n a0 ((48:Int),(46:Int),()) (0:Int) (0:Int) (0:Int) (0:Int) (0:Int)
noncomputable def F.zb.C30 {X:Type} (n:Nat) (kr:Z0→Z0→Int→Z2→Int→Z4→Int→Int→Int→Option X) (kn:Bool→Z0→Z0→Int→Z2→Int→Z4→Int→Int→Int→Int→Z0→Int→Z2→Int→Z4→Int→Nat→Nat→Nat→Nat→Option X) (c9:Bool) (c19:Int) (c141:Bool) (ab0:Z0) (bb0:Z0) (bb1:Int) (bb2:Z2) (bb3:Int) (bb4:Z4) (bb5:Int) (cb0:Int) (cb1:Int) (db0:Int) (hb0:Z0) (hb1:Int) (hb2:Z2) (hb3:Int) (hb4:Z4) (hb5:Int) (ck0:Nat) (ck1:Nat) (ck2:Nat) (ck3:Nat):Option X:=
 bif c141 then
  (F.zaz n (18:Int) c19).bind fun y24 =>
   kr ab0 y24.1.1 y24.1.2.1 y24.1.2.2.1 y24.1.2.2.2.1 y24.1.2.2.2.2.1 y24.1.2.2.2.2.2.1 y24.2.1.1 y24.2.1.2.1
 else
  kn c9 ab0 bb0 bb1 bb2 bb3 bb4 bb5 cb0 cb1 db0 hb0 hb1 hb2 hb3 hb4 hb5 ck0 ck1 ck2 ck3
noncomputable def F.zb.C31 {X:Type} (n:Nat) (kr:Z0→Z0→Int→Z2→Int→Z4→Int→Int→Int→Option X) (c9:Bool) (ab0:Z0) (bb0:Z0) (bb1:Int) (bb2:Z2) (bb3:Int) (bb4:Z4) (bb5:Int) (cb0:Int) (cb1:Int) (db0:Int) (hb0:Z0) (hb1:Int) (hb2:Z2) (hb3:Int) (hb4:Z4) (hb5:Int) (ck0:Nat) (ck1:Nat) (ck2:Nat) (ck3:Nat):Option X:=
 bif c9 then
  (F.zaz n (11:Int) (IntKind.wrap .i64 (db0 - (1:Int)))).bind fun y28 =>
   kr ab0 y28.1.1 y28.1.2.1 y28.1.2.2.1 y28.1.2.2.2.1 y28.1.2.2.2.2.1 y28.1.2.2.2.2.2.1 y28.2.1.1 y28.2.1.2.1
 else
  kr ab0 hb0 hb1 hb2 hb3 hb4 hb5 (0:Int) (0:Int)
noncomputable def F.zb.C28 {X:Type} (n:Nat) (kr:Z0→Z0→Int→Z2→Int→Z4→Int→Int→Int→Option X) (c9:Bool) (c16:Int) (c18:Z0) (c19:Int) (ab0:Z0) (bb0:Z0) (bb1:Int) (bb2:Z2) (bb3:Int) (bb4:Z4) (bb5:Int) (cb0:Int) (cb1:Int) (db0:Int) (hb0:Z0) (hb1:Int) (hb2:Z2) (hb3:Int) (hb4:Z4) (hb5:Int) (ib0:Bool) (ib1:Int) (ib2:Int) (jb0:Int) (jb1:Int) (ck0:Nat) (ck1:Nat) (ck2:Nat) (ck3:Nat):Option X:=
 (F.zw n c18).bind fun y36 =>
  bif !((y36.2.1.1==(0:Int))&&(y36.2.1.2.1==(0:Int))) then
   F.zb.C30 n
    (fun g0 h0 h1 h2 h3 h4 h5 i0 i1 =>
     kr g0 h0 h1 h2 h3 h4 h5 i0 i1)
    (fun e9 g0 h0 h1 h2 h3 h4 h5 i0 i1 j0 l0 l1 l2 l3 l4 l5 ek0 ek1 ek2 ek3 =>
     F.zb.C31 n
      (fun g0 h0 h1 h2 h3 h4 h5 i0 i1 =>
       kr g0 h0 h1 h2 h3 h4 h5 i0 i1) e9 g0 h0 h1 h2 h3 h4 h5 i0 i1 j0 l0 l1 l2 l3 l4 l5 ek0 ek1 ek2 ek3) c9 c19 true ab0 bb0 bb1 bb2 bb3 bb4 bb5 cb0 cb1 db0 hb0 hb1 hb2 y36.1 hb4 hb5 ck0 ck1 ck2 ck3
  else
  bif c16==(2:Int) then
   F.zb.C30 n
    (fun g0 h0 h1 h2 h3 h4 h5 i0 i1 =>
     kr g0 h0 h1 h2 h3 h4 h5 i0 i1)
    (fun e9 g0 h0 h1 h2 h3 h4 h5 i0 i1 j0 l0 l1 l2 l3 l4 l5 ek0 ek1 ek2 ek3 =>
     F.zb.C31 n
      (fun g0 h0 h1 h2 h3 h4 h5 i0 i1 =>
       kr g0 h0 h1 h2 h3 h4 h5 i0 i1) e9 g0 h0 h1 h2 h3 h4 h5 i0 i1 j0 l0 l1 l2 l3 l4 l5 ek0 ek1 ek2 ek3) c9 c19 (!(y36.1==(1000000:Int))) ab0 bb0 bb1 bb2 bb3 bb4 bb5 cb0 cb1 db0 hb0 hb1 hb2 y36.1 hb4 hb5 ck0 ck1 ck2 ck3
  else
   F.zb.C30 n
    (fun g0 h0 h1 h2 h3 h4 h5 i0 i1 =>
     kr g0 h0 h1 h2 h3 h4 h5 i0 i1)
    (fun e9 g0 h0 h1 h2 h3 h4 h5 i0 i1 j0 l0 l1 l2 l3 l4 l5 ek0 ek1 ek2 ek3 =>
     F.zb.C31 n
      (fun g0 h0 h1 h2 h3 h4 h5 i0 i1 =>
       kr g0 h0 h1 h2 h3 h4 h5 i0 i1) e9 g0 h0 h1 h2 h3 h4 h5 i0 i1 j0 l0 l1 l2 l3 l4 l5 ek0 ek1 ek2 ek3) c9 c19 false ab0 bb0 bb1 bb2 bb3 bb4 bb5 cb0 cb1 db0 hb0 hb1 hb2 y36.1 hb4 hb5 ck0 ck1 ck2 ck3
noncomputable def F.zb.C21 {X:Type} (n:Nat) (kr:Z0→Z0→Int→Z2→Int→Z4→Int→Int→Int→Option X) (c7:Z0) (c9:Bool) (c16:Int) (ab0:Z0) (bb0:Z0) (bb1:Int) (bb2:Z2) (bb3:Int) (bb4:Z4) (bb5:Int) (cb0:Int) (cb1:Int) (db0:Int) (hb0:Z0) (hb1:Int) (hb2:Z2) (hb3:Int) (hb4:Z4) (hb5:Int) (ib0:Bool) (ib1:Int) (ib2:Int) (jb0:Int) (jb1:Int) (ck0:Nat) (ck1:Nat) (ck2:Nat) (ck3:Nat):Option X:=
 bif !c9 then
  kr ab0 c7 c16 ([(ib0,ib1,ib2)]) hb3 hb4 hb5 (0:Int) (0:Int)
 else
  (sub ab0 db0 (ab0.length:Int)).bind fun x48 =>
   (F.zai n x48 ([64])).bind fun y49 =>
    bif !y49 then
     (F.zaz n (11:Int) db0).bind fun y50 =>
      kr ab0 y50.1.1 y50.1.2.1 y50.1.2.2.1 y50.1.2.2.2.1 y50.1.2.2.2.2.1 y50.1.2.2.2.2.2.1 y50.2.1.1 y50.2.1.2.1
    else
     (sub ab0 (IntKind.wrap .i64 (db0+(1:Int))) (ab0.length:Int)).bind fun x51 =>
      (F.zap n x51 ([124])).bind fun y52 =>
       bif y52.2.2.1 then
        F.zb.C28 n
         (fun g0 h0 h1 h2 h3 h4 h5 i0 i1 =>
          kr g0 h0 h1 h2 h3 h4 h5 i0 i1) y52.2.2.1 c16 y52.1 (IntKind.wrap .i64 (db0+(1:Int))) ab0 bb0 bb1 bb2 bb3 bb4 bb5 cb0 cb1 (IntKind.wrap .i64 ((IntKind.wrap .i64 ((IntKind.wrap .i64 (db0+(1:Int)))+(y52.1.length:Int)))+(1:Int))) c7 c16 ([(ib0,ib1,ib2)]) hb3 hb4 hb5 ib0 ib1 ib2 jb0 jb1 ck0 ck1 1 ck3
       else
        F.zb.C28 n
         (fun g0 h0 h1 h2 h3 h4 h5 i0 i1 =>
          kr g0 h0 h1 h2 h3 h4 h5 i0 i1) y52.2.2.1 c16 y52.1 (IntKind.wrap .i64 (db0+(1:Int))) ab0 bb0 bb1 bb2 bb3 bb4 bb5 cb0 cb1 (IntKind.wrap .i64 ((IntKind.wrap .i64 (db0+(1:Int)))+(y52.1.length:Int))) c7 c16 ([(ib0,ib1,ib2)]) hb3 hb4 hb5 ib0 ib1 ib2 jb0 jb1 ck0 ck1 1 ck3
noncomputable def F.zb.C16 {X:Type} (n:Nat) (kr:Z0→Z0→Int→Z2→Int→Z4→Int→Int→Int→Option X) (c7:Z0) (c9:Bool) (c10:Z0) (c11:Int) (c14:Z0) (c15:Int) (ab0:Z0) (bb0:Z0) (bb1:Int) (bb2:Z2) (bb3:Int) (bb4:Z4) (bb5:Int) (cb0:Int) (cb1:Int) (db0:Int) (hb0:Z0) (hb1:Int) (hb2:Z2) (hb3:Int) (hb4:Z4) (hb5:Int) (ib0:Bool) (ib1:Int) (ib2:Int) (jb0:Int) (jb1:Int) (ck0:Nat) (ck1:Nat) (ck2:Nat) (ck3:Nat):Option X:=
 (F.zaf n c14).bind fun y57 =>
  bif !(y57.2.1==(0:Int)) then
   (F.zaz n (16:Int) c15).bind fun y58 =>
    kr ab0 y58.1.1 y58.1.2.1 y58.1.2.2.1 y58.1.2.2.2.1 y58.1.2.2.2.2.1 y58.1.2.2.2.2.2.1 y58.2.1.1 y58.2.1.2.1
  else
  bif y57.1==(2:Int) then
   (F.zai n c10 ([45])).bind fun y59 =>
    bif y59 then
     (F.zaz n (26:Int) c11).bind fun y60 =>
      kr ab0 y60.1.1 y60.1.2.1 y60.1.2.2.1 y60.1.2.2.2.1 y60.1.2.2.2.2.1 y60.1.2.2.2.2.2.1 y60.2.1.1 y60.2.1.2.1
    else
     F.zb.C21 n
      (fun g0 h0 h1 h2 h3 h4 h5 i0 i1 =>
       kr g0 h0 h1 h2 h3 h4 h5 i0 i1) c7 c9 y57.1 ab0 bb0 bb1 bb2 bb3 bb4 bb5 cb0 cb1 db0 hb0 hb1 hb2 hb3 hb4 hb5 ib0 ib1 ib2 jb0 jb1 ck0 ck1 ck2 ck3
  else
   F.zb.C21 n
    (fun g0 h0 h1 h2 h3 h4 h5 i0 i1 =>
     kr g0 h0 h1 h2 h3 h4 h5 i0 i1) c7 c9 y57.1 ab0 bb0 bb1 bb2 bb3 bb4 bb5 cb0 cb1 db0 hb0 hb1 hb2 hb3 hb4 hb5 ib0 ib1 ib2 jb0 jb1 ck0 ck1 ck2 ck3
noncomputable def F.zb.C10 {X:Type} (n:Nat) (kr:Z0→Z0→Int→Z2→Int→Z4→Int→Int→Int→Option X) (c7:Z0) (c9:Bool) (c10:Z0) (c11:Int) (ab0:Z0) (bb0:Z0) (bb1:Int) (bb2:Z2) (bb3:Int) (bb4:Z4) (bb5:Int) (cb0:Int) (cb1:Int) (db0:Int) (hb0:Z0) (hb1:Int) (hb2:Z2) (hb3:Int) (hb4:Z4) (hb5:Int) (ck0:Nat) (ck1:Nat) (ck2:Nat) (ck3:Nat):Option X:=
 (F.zah n c10).bind fun y65 =>
  bif !((y65.2.1.1==(0:Int))&&(y65.2.1.2.1==(0:Int))) then
   (F.zaz n (17:Int) c11).bind fun y66 =>
    kr ab0 y66.1.1 y66.1.2.1 y66.1.2.2.1 y66.1.2.2.2.1 y66.1.2.2.2.2.1 y66.1.2.2.2.2.2.1 y66.2.1.1 y66.2.1.2.1
  else
  bif !c9 then
   (F.zaz n (11:Int) (ab0.length:Int)).bind fun y67 =>
    kr ab0 y67.1.1 y67.1.2.1 y67.1.2.2.1 y67.1.2.2.2.1 y67.1.2.2.2.2.1 y67.1.2.2.2.2.2.1 y67.2.1.1 y67.2.1.2.1
  else
   (sub ab0 db0 (ab0.length:Int)).bind fun x68 =>
    (F.zap n x68 ([124])).bind fun y69 =>
     bif y69.2.2.1 then
      F.zb.C16 n
       (fun g0 h0 h1 h2 h3 h4 h5 i0 i1 =>
        kr g0 h0 h1 h2 h3 h4 h5 i0 i1) c7 y69.2.2.1 c10 c11 y69.1 db0 ab0 bb0 bb1 bb2 bb3 bb4 bb5 cb0 cb1 (IntKind.wrap .i64 ((IntKind.wrap .i64 (db0+(y69.1.length:Int)))+(1:Int))) hb0 hb1 hb2 hb3 hb4 hb5 y65.1.1 y65.1.2.1 y65.1.2.2.1 y65.2.1.1 y65.2.1.2.1 ck0 ck1 ck2 ck3
     else
      F.zb.C16 n
       (fun g0 h0 h1 h2 h3 h4 h5 i0 i1 =>
        kr g0 h0 h1 h2 h3 h4 h5 i0 i1) c7 y69.2.2.1 c10 c11 y69.1 db0 ab0 bb0 bb1 bb2 bb3 bb4 bb5 cb0 cb1 (IntKind.wrap .i64 (db0+(y69.1.length:Int))) hb0 hb1 hb2 hb3 hb4 hb5 y65.1.1 y65.1.2.1 y65.1.2.2.1 y65.2.1.1 y65.2.1.2.1 ck0 ck1 ck2 ck3
noncomputable def F.zb.C5 {X:Type} (n:Nat) (kr:Z0→Z0→Int→Z2→Int→Z4→Int→Int→Int→Option X) (c7:Z0) (c9:Bool) (ab0:Z0) (bb0:Z0) (bb1:Int) (bb2:Z2) (bb3:Int) (bb4:Z4) (bb5:Int) (cb0:Int) (cb1:Int) (db0:Int) (hb0:Z0) (hb1:Int) (hb2:Z2) (hb3:Int) (hb4:Z4) (hb5:Int) (ck0:Nat) (ck1:Nat) (ck2:Nat) (ck3:Nat):Option X:=
 (F.za5 n (1:Int) c7 (1:Int) (200:Int)).bind fun y74 =>
  bif !((y74.1==(0:Int))&&(y74.2.1==(0:Int))) then
   (F.zaz n (15:Int) (0:Int)).bind fun y75 =>
    kr ab0 y75.1.1 y75.1.2.1 y75.1.2.2.1 y75.1.2.2.2.1 y75.1.2.2.2.2.1 y75.1.2.2.2.2.2.1 y75.2.1.1 y75.2.1.2.1
  else
  bif !c9 then
   (F.zaz n (11:Int) (ab0.length:Int)).bind fun y76 =>
    kr ab0 y76.1.1 y76.1.2.1 y76.1.2.2.1 y76.1.2.2.2.1 y76.1.2.2.2.2.1 y76.1.2.2.2.2.2.1 y76.2.1.1 y76.2.1.2.1
  else
   (sub ab0 db0 (ab0.length:Int)).bind fun x77 =>
    (F.zap n x77 ([124])).bind fun y78 =>
     bif y78.2.2.1 then
      F.zb.C10 n
       (fun g0 h0 h1 h2 h3 h4 h5 i0 i1 =>
        kr g0 h0 h1 h2 h3 h4 h5 i0 i1) c7 y78.2.2.1 y78.1 db0 ab0 bb0 bb1 bb2 bb3 bb4 bb5 cb0 cb1 (IntKind.wrap .i64 ((IntKind.wrap .i64 (db0+(y78.1.length:Int)))+(1:Int))) hb0 hb1 hb2 hb3 hb4 hb5 ck0 ck1 ck2 ck3
     else
      F.zb.C10 n
       (fun g0 h0 h1 h2 h3 h4 h5 i0 i1 =>
        kr g0 h0 h1 h2 h3 h4 h5 i0 i1) c7 y78.2.2.1 y78.1 db0 ab0 bb0 bb1 bb2 bb3 bb4 bb5 cb0 cb1 (IntKind.wrap .i64 (db0+(y78.1.length:Int))) hb0 hb1 hb2 hb3 hb4 hb5 ck0 ck1 ck2 ck3
noncomputable def F.zb (n:Nat) (a0:Z0):Option ((Z8)×(Z7)×Unit):=
 (sub a0 (0:Int) (a0.length:Int)).bind fun x1 =>
  (F.zap n x1 ([58])).bind fun y2 =>
   bif y2.2.2.1 then
    F.zb.C5 n
     (fun g0 h0 h1 h2 h3 h4 h5 i0 i1 =>
      some (((h0,h1,h2,h3,h4,h5,()),(i0,i1,()),()))) y2.1 y2.2.2.1 a0 [] (0:Int) [] (0:Int) [] (0:Int) (0:Int) (0:Int) (IntKind.wrap .i64 ((IntKind.wrap .i64 ((0:Int)+(y2.1.length:Int)))+(1:Int))) [] (0:Int) [] (1000000:Int) [] (0:Int) 0 0 0 0
   else
    F.zb.C5 n
     (fun g0 h0 h1 h2 h3 h4 h5 i0 i1 =>
      some (((h0,h1,h2,h3,h4,h5,()),(i0,i1,()),()))) y2.1 y2.2.2.1 a0 [] (0:Int) [] (0:Int) [] (0:Int) (0:Int) (0:Int) (IntKind.wrap .i64 ((0:Int)+(y2.1.length:Int))) [] (0:Int) [] (1000000:Int) [] (0:Int) 0 0 0 0
noncomputable def F.zt (n:Nat) (a0:Z4):Option (Z4):=
 bif (a0.length:Int)==(a0.length:Int) then
  (sub a0 (0:Int) (a0.length:Int)).bind fun x1 =>
   some (x1)
 else
  none
noncomputable def F.zy.L5.step {X:Type} (n:Nat) (rec:Z12→Int→Z12→Int→Int→Z13→Z13→Z13→Option X) (k0:Z12→Int→Z13→Z13→Z13→Option X) (v3:Z12) (v4:Int) (v11:Z12) (v12:Int) (v13:Int) (ab0:Z13) (bb0:Z13) (cb0:Z13):Option X:=
 bif decide (v13<v12) then
  bif decide (0≤v13)&&decide (v13<((v11.2:Nat):Int)) then
   bif Nat.beq v11.1 cb0.1 then
    (idx cb0.2 v13).bind fun x1 =>
     bif v13==(0:Int) then
      bif decide (0≤v4)&&decide (v4<((v3.2:Nat):Int)) then
       bif Nat.beq v3.1 cb0.1 then
        (idx cb0.2 v4).bind fun x2 =>
         rec (v3.1,v3.2) (IntKind.wrap .i64 (v4+(1:Int))) (v11.1,v11.2) v12 (IntKind.wrap .i64 (v13+(1:Int))) (ab0.1,ab0.2) (bb0.1,bb0.2) (v3.1,upd cb0.2 (Int.toNat v4) (x1.1,x1.2))
       else
        none
      else
       none
     else
     bif decide (0≤(IntKind.wrap .i64 (v4 - (1:Int))))&&decide ((IntKind.wrap .i64 (v4 - (1:Int)))<((v3.2:Nat):Int)) then
      bif Nat.beq v3.1 cb0.1 then
       (idx cb0.2 (IntKind.wrap .i64 (v4 - (1:Int)))).bind fun x3 =>
        bif !((x1.1==x3.1)&&(x1.2==x3.2)) then
         bif decide (0≤v4)&&decide (v4<((v3.2:Nat):Int)) then
          bif Nat.beq v3.1 cb0.1 then
           (idx cb0.2 v4).bind fun x4 =>
            rec (v3.1,v3.2) (IntKind.wrap .i64 (v4+(1:Int))) (v11.1,v11.2) v12 (IntKind.wrap .i64 (v13+(1:Int))) (ab0.1,ab0.2) (bb0.1,bb0.2) (v3.1,upd cb0.2 (Int.toNat v4) (x1.1,x1.2))
          else
           none
         else
          none
        else
         rec (v3.1,v3.2) v4 (v11.1,v11.2) v12 (IntKind.wrap .i64 (v13+(1:Int))) (ab0.1,ab0.2) (bb0.1,bb0.2) (cb0.1,cb0.2)
      else
       none
     else
      none
   else
    none
  else
   none
 else
  k0 (v3.1,v3.2) v4 (ab0.1,ab0.2) (bb0.1,bb0.2) (cb0.1,cb0.2)
noncomputable def F.zy.L5 {X:Type} (n:Nat) (k0:Z12→Int→Z13→Z13→Z13→Option X):Nat→Z12→Int→Z12→Int→Int→Z13→Z13→Z13→Option X
 | 0=>fun _ _ _ _ _ _ _ _=>none
 | m+1=>fun v3 v4 v11 v12 v13 ab0 bb0 cb0=>F.zy.L5.step n (F.zy.L5 n k0 m) k0 v3 v4 v11 v12 v13 ab0 bb0 cb0
noncomputable def F.zy (n:Nat) (a0:Z4):Option (Z4):=
 bif List.isEmpty a0 then
  both
   (
    bif Nat.beq (sortTags []).length 0&&Nat.blt 0 strMax then
     F.zy.L5 n
      (fun e3 e4 g0 h0 i0 =>
       bif Nat.beq e3.1 i0.1 then
        (sub i0.2 (0:Int) e4).bind fun x6 =>
         (F.zt n x6).bind fun y7 =>
          some (y7)
       else
        none) n (1,0) (0:Int) (1,0) (0:Int) (0:Int) (1,[]) (1,[]) (1,sortTags [])
    else
     none)
   (
    bif decide ((0+a0.length)*32≤2 ^ 46)&&decide (0<32∧32≤2 ^ 20) then
     bif Nat.beq (sortTags ([]++a0)).length (([]++a0).length)&&Nat.blt (([]++a0).length) strMax then
      F.zy.L5 n
       (fun e3 e4 g0 h0 i0 =>
        bif Nat.beq e3.1 i0.1 then
         (sub i0.2 (0:Int) e4).bind fun x9 =>
          (F.zt n x9).bind fun y10 =>
           some (y10)
        else
         none) n (2,([]++a0).length) (0:Int) (2,([]++a0).length) ((([]++a0).length:Nat):Int) (0:Int) (1,[]) (1,[]) (2,sortTags ([]++a0))
     else
      none
    else
     none)
 else
 bif decide ((0+a0.length)*32≤2 ^ 46)&&decide (0<32∧32≤2 ^ 20) then
  bif Nat.beq (sortTags ([]++a0)).length (([]++a0).length)&&Nat.blt (([]++a0).length) strMax then
   F.zy.L5 n
    (fun e3 e4 g0 h0 i0 =>
     bif Nat.beq e3.1 i0.1 then
      (sub i0.2 (0:Int) e4).bind fun x12 =>
       (F.zt n x12).bind fun y13 =>
        some (y13)
     else
      none) n (2,([]++a0).length) (0:Int) (2,([]++a0).length) ((([]++a0).length:Nat):Int) (0:Int) (1,[]) (1,[]) (2,sortTags ([]++a0))
  else
   none
 else
  none
noncomputable def F.zcq (n:Nat):Option (Z14):=
 some (([],[99],[103],[109,115],[104],[100],()))
noncomputable def F.zbl.L2.step {X:Type} (n:Nat) (rec:Z0→Z14→Int→Option X) (k0:Unit→Option X) (kr:Int→Int→Option X) (v0:Z0) (v6:Z14) (v7:Int):Option X:=
 bif decide (v7<(6:Int)) then
  bif v7==(0:Int) then
   bif !(v6.1==[]) then
    bif v6.1==v0 then
     kr v7 (0:Int)
    else
     rec v0 (v6.1,v6.2.1,v6.2.2.1,v6.2.2.2.1,v6.2.2.2.2.1,v6.2.2.2.2.2.1,()) (IntKind.wrap .i64 (v7+(1:Int)))
   else
    rec v0 (v6.1,v6.2.1,v6.2.2.1,v6.2.2.2.1,v6.2.2.2.2.1,v6.2.2.2.2.2.1,()) (IntKind.wrap .i64 (v7+(1:Int)))
  else
  bif v7==(1:Int) then
   bif !(v6.2.1==[]) then
    bif v6.2.1==v0 then
     kr v7 (0:Int)
    else
     rec v0 (v6.1,v6.2.1,v6.2.2.1,v6.2.2.2.1,v6.2.2.2.2.1,v6.2.2.2.2.2.1,()) (IntKind.wrap .i64 (v7+(1:Int)))
   else
    rec v0 (v6.1,v6.2.1,v6.2.2.1,v6.2.2.2.1,v6.2.2.2.2.1,v6.2.2.2.2.2.1,()) (IntKind.wrap .i64 (v7+(1:Int)))
  else
  bif v7==(2:Int) then
   bif !(v6.2.2.1==[]) then
    bif v6.2.2.1==v0 then
     kr v7 (0:Int)
    else
     rec v0 (v6.1,v6.2.1,v6.2.2.1,v6.2.2.2.1,v6.2.2.2.2.1,v6.2.2.2.2.2.1,()) (IntKind.wrap .i64 (v7+(1:Int)))
   else
    rec v0 (v6.1,v6.2.1,v6.2.2.1,v6.2.2.2.1,v6.2.2.2.2.1,v6.2.2.2.2.2.1,()) (IntKind.wrap .i64 (v7+(1:Int)))
  else
  bif v7==(3:Int) then
   bif !(v6.2.2.2.1==[]) then
    bif v6.2.2.2.1==v0 then
     kr v7 (0:Int)
    else
     rec v0 (v6.1,v6.2.1,v6.2.2.1,v6.2.2.2.1,v6.2.2.2.2.1,v6.2.2.2.2.2.1,()) (IntKind.wrap .i64 (v7+(1:Int)))
   else
    rec v0 (v6.1,v6.2.1,v6.2.2.1,v6.2.2.2.1,v6.2.2.2.2.1,v6.2.2.2.2.2.1,()) (IntKind.wrap .i64 (v7+(1:Int)))
  else
  bif v7==(4:Int) then
   bif !(v6.2.2.2.2.1==[]) then
    bif v6.2.2.2.2.1==v0 then
     kr v7 (0:Int)
    else
     rec v0 (v6.1,v6.2.1,v6.2.2.1,v6.2.2.2.1,v6.2.2.2.2.1,v6.2.2.2.2.2.1,()) (IntKind.wrap .i64 (v7+(1:Int)))
   else
    rec v0 (v6.1,v6.2.1,v6.2.2.1,v6.2.2.2.1,v6.2.2.2.2.1,v6.2.2.2.2.2.1,()) (IntKind.wrap .i64 (v7+(1:Int)))
  else
  bif v7==(5:Int) then
   bif !(v6.2.2.2.2.2.1==[]) then
    bif v6.2.2.2.2.2.1==v0 then
     kr v7 (0:Int)
    else
     rec v0 (v6.1,v6.2.1,v6.2.2.1,v6.2.2.2.1,v6.2.2.2.2.1,v6.2.2.2.2.2.1,()) (IntKind.wrap .i64 (v7+(1:Int)))
   else
    rec v0 (v6.1,v6.2.1,v6.2.2.1,v6.2.2.2.1,v6.2.2.2.2.1,v6.2.2.2.2.2.1,()) (IntKind.wrap .i64 (v7+(1:Int)))
  else
   none
 else
  k0 ()
noncomputable def F.zbl.L2 {X:Type} (n:Nat) (k0:Unit→Option X) (kr:Int→Int→Option X):Nat→Z0→Z14→Int→Option X
 | 0=>fun _ _ _=>none
 | m+1=>fun v0 v6 v7=>F.zbl.L2.step n (F.zbl.L2 n k0 kr m) k0 kr v0 v6 v7
noncomputable def F.zbl (n:Nat) (a0:Z0):Option ((Int)×(Int)×Unit):=
 (F.zcq n ).bind fun y1 =>
  F.zbl.L2 n
   (fun (_:Unit) =>
    some (((0:Int),(16:Int),())))
   (fun e2 e3 =>
    some ((e2,e3,()))) n a0 (y1.1,y1.2.1,y1.2.2.1,y1.2.2.2.1,y1.2.2.2.2.1,y1.2.2.2.2.2.1,()) (0:Int)
noncomputable def F.zcr (n:Nat) (a0:Z0) (a1:Int) (a2:Int):Option ((Int)×(Z7)×Unit):=
 (F.za5 n (4:Int) a0 (1:Int) (IntKind.wrap .i64 ((a0.length:Int)+(1:Int)))).bind fun y1 =>
  bif !((y1.1==(0:Int))&&(y1.2.1==(0:Int))) then
   (F.zar n y1.1 y1.2.1).bind fun y2 =>
    some ((y2.1,(y2.2.1.1,y2.2.1.2.1,()),()))
  else
   (idx a0 (0:Int)).bind fun x3 =>
    bif ((x3).toNat)==(48:Int) then
     bif decide ((a0.length:Int)>(1:Int)) then
      (F.zar n (11:Int) (0:Int)).bind fun y4 =>
       some ((y4.1,(y4.2.1.1,y4.2.1.2.1,()),()))
     else
      (O.atoi n a0).bind fun y5 =>
       bif y5.2.1 then
        (F.zar n (10:Int) (0:Int)).bind fun y6 =>
         some ((y6.1,(y6.2.1.1,y6.2.1.2.1,()),()))
       else
       bif decide (y5.1<a1) then
        (F.zar n (10:Int) (0:Int)).bind fun y7 =>
         some ((y7.1,(y7.2.1.1,y7.2.1.2.1,()),()))
       else
       bif decide (y5.1>a2) then
        (F.zar n (10:Int) (0:Int)).bind fun y8 =>
         some ((y8.1,(y8.2.1.1,y8.2.1.2.1,()),()))
       else
        some ((y5.1,((0:Int),(0:Int),()),()))
    else
     (O.atoi n a0).bind fun y9 =>
      bif y9.2.1 then
       (F.zar n (10:Int) (0:Int)).bind fun y10 =>
        some ((y10.1,(y10.2.1.1,y10.2.1.2.1,()),()))
      else
      bif decide (y9.1<a1) then
       (F.zar n (10:Int) (0:Int)).bind fun y11 =>
        some ((y11.1,(y11.2.1.1,y11.2.1.2.1,()),()))
      else
      bif decide (y9.1>a2) then
       (F.zar n (10:Int) (0:Int)).bind fun y12 =>
        some ((y12.1,(y12.2.1.1,y12.2.1.2.1,()),()))
      else
       some ((y9.1,((0:Int),(0:Int),()),()))
noncomputable def F.zcm (n:Nat) (a0:Z0):Option ((Int)×(Z7)×Unit):=
 (F.zcr n a0 (1:Int) (1099511627776:Int)).bind fun y1 =>
  some ((y1.1,(y1.2.1.1,y1.2.1.2.1,()),()))
noncomputable def F.zb2 (n:Nat) (a0:Z15):Option (Int):=
 (F.za5 n (2:Int) a0.1 (1:Int) (64:Int)).bind fun y1 =>
  bif !((y1.1==(0:Int))&&(y1.2.1==(0:Int))) then
   some ((19:Int))
  else
   (F.za5 n (3:Int) a0.2.1 (0:Int) (100:Int)).bind fun y2 =>
    bif !((y2.1==(0:Int))&&(y2.2.1==(0:Int))) then
     some ((19:Int))
    else
     some ((0:Int))
noncomputable def F.zax.L4.step {X:Type} (n:Nat) (rec:Z4→Int→Z10→Int→Int→Int→Int→Nat→Option X) (k0:Z4→Int→Int→Nat→Option X) (kr:Z4→Int→Int→Nat→Option X) (v4:Z4) (v5:Int) (v13:Z10) (v14:Int) (v15:Int) (ab0:Int) (ab1:Int) (vk0:Nat):Option X:=
 bif decide (v15<v14) then
  (idx v13 v15).bind fun x2 =>
   (F.zap n x2 ([58])).bind fun y3 =>
    (F.zb2 n (y3.1,y3.2.1,())).bind fun y4 =>
     bif !(y4==(0:Int)) then
      kr [] (19:Int) v5 0
     else
     bif y3.2.2.1 then
      bif y3.2.1==[] then
       kr [] (19:Int) v5 0
      else
      bif decide ((v4.length+1)*32≤2 ^ 46)&&decide (0<32∧32≤2 ^ 20) then
       bif Nat.beq vk0 v4.length then
        rec (v4++([(y3.1,y3.2.1)])) (IntKind.wrap .i64 (v5+(IntKind.wrap .i64 ((x2.length:Int)+(1:Int))))) v13 v14 (IntKind.wrap .i64 (v15+(1:Int))) ab0 ab1 ((v4++([(y3.1,y3.2.1)])).length)
       else
        none
      else
       none
     else
     bif decide ((v4.length+1)*32≤2 ^ 46)&&decide (0<32∧32≤2 ^ 20) then
      bif Nat.beq vk0 v4.length then
       rec (v4++([(y3.1,y3.2.1)])) (IntKind.wrap .i64 (v5+(IntKind.wrap .i64 ((x2.length:Int)+(1:Int))))) v13 v14 (IntKind.wrap .i64 (v15+(1:Int))) ab0 ab1 ((v4++([(y3.1,y3.2.1)])).length)
      else
       none
     else
      none
 else
  k0 v4 ab0 ab1 vk0
noncomputable def F.zax.L4 {X:Type} (n:Nat) (k0:Z4→Int→Int→Nat→Option X) (kr:Z4→Int→Int→Nat→Option X):Nat→Z4→Int→Z10→Int→Int→Int→Int→Nat→Option X
 | 0=>fun _ _ _ _ _ _ _ _=>none
 | m+1=>fun v4 v5 v13 v14 v15 ab0 ab1 vk0=>F.zax.L4.step n (F.zax.L4 n k0 kr m) k0 kr v4 v5 v13 v14 v15 ab0 ab1 vk0
noncomputable def F.zax (n:Nat) (a0:Z0):Option ((Z4)×(Z7)×Unit):=
 (O.split1 n a0 ([44])).bind fun y1 =>
  F.zax.L4 n
   (fun e4 g0 g1 ek0 =>
    some ((e4,((0:Int),(0:Int),()),())))
   (fun e2 g0 g1 ek0 =>
    some ((e2,(g0,g1,()),()))) n [] (0:Int) y1 (y1.length:Int) (0:Int) (0:Int) (0:Int) 0
noncomputable def F.ze.L9_dog_reader_first.step {X:Type} (n:Nat) (rec:Int→Z10→Int→Int→Z0→Int→Z2→Int→Z4→Int→Int→Int→Z0→Int→Z2→Int→Z4→Int→Int→Int→Int→Int→Int→Int→Nat→Nat→Nat→Option X) (k1:Z0→Int→Z2→Int→Z4→Int→Int→Int→Z0→Int→Z2→Int→Z4→Int→Int→Int→Int→Int→Int→Int→Nat→Nat→Nat→Option X) (kr:Z0→Int→Z2→Int→Z4→Int→Int→Int→Z0→Int→Z2→Int→Z4→Int→Int→Int→Int→Int→Int→Int→Nat→Nat→Nat→Option X) (v8:Int) (v42:Z10) (v43:Int) (v44:Int) (ab0:Z0) (ab1:Int) (ab2:Z2) (ab3:Int) (ab4:Z4) (ab5:Int) (bb0:Int) (bb1:Int) (cb0:Z0) (cb1:Int) (cb2:Z2) (cb3:Int) (cb4:Z4) (cb5:Int) (cb6:Int) (cb7:Int) (db0:Int) (db1:Int) (hb0:Int) (hb1:Int) (vk0:Nat) (vk1:Nat) (vk2:Nat):Option X:=
 bif decide (v44<v43) then
  (idx v42 v44).bind fun x6 =>
   (F.zah n x6).bind fun y7 =>
    bif !((y7.2.1.1==(0:Int))&&(y7.2.1.2.1==(0:Int))) then
     kr ab0 ab1 ab2 ab3 ab4 ab5 bb0 bb1 cb0 cb1 cb2 cb3 cb4 cb5 cb6 cb7 db0 db1 (17:Int) (IntKind.wrap .i64 (cb6+v8)) vk0 vk1 vk2
    else
    bif (cb2.length:Int)==(64:Int) then
     kr ab0 ab1 ab2 ab3 ab4 ab5 bb0 bb1 cb0 cb1 cb2 cb3 cb4 cb5 cb6 cb7 db0 db1 (17:Int) (IntKind.wrap .i64 (cb6+v8)) vk0 vk1 vk2
    else
    bif decide ((cb2.length+1)*24≤2 ^ 46)&&decide (0<24∧24≤2 ^ 20) then
     bif Nat.beq vk2 cb2.length then
      rec (IntKind.wrap .i64 (v8+(IntKind.wrap .i64 ((x6.length:Int)+(1:Int))))) v42 v43 (IntKind.wrap .i64 (v44+(1:Int))) ab0 ab1 ab2 ab3 ab4 ab5 bb0 bb1 cb0 cb1 (cb2++([(y7.1.1,y7.1.2.1,y7.1.2.2.1)])) cb3 cb4 cb5 cb6 cb7 db0 db1 hb0 hb1 vk0 vk1 ((cb2++([(y7.1.1,y7.1.2.1,y7.1.2.2.1)])).length)
     else
      none
    else
     none
 else
  k1 ab0 ab1 ab2 ab3 ab4 ab5 bb0 bb1 cb0 cb1 cb2 cb3 cb4 cb5 cb6 cb7 db0 db1 hb0 hb1 vk0 vk1 vk2
noncomputable def F.ze.L9_dog_reader_first {X:Type} (n:Nat) (k1:Z0→Int→Z2→Int→Z4→Int→Int→Int→Z0→Int→Z2→Int→Z4→Int→Int→Int→Int→Int→Int→Int→Nat→Nat→Nat→Option X) (kr:Z0→Int→Z2→Int→Z4→Int→Int→Int→Z0→Int→Z2→Int→Z4→Int→Int→Int→Int→Int→Int→Int→Nat→Nat→Nat→Option X):Nat→Int→Z10→Int→Int→Z0→Int→Z2→Int→Z4→Int→Int→Int→Z0→Int→Z2→Int→Z4→Int→Int→Int→Int→Int→Int→Int→Nat→Nat→Nat→Option X
 | 0=>fun _ _ _ _ _ _ _ _ _ _ _ _ _ _ _ _ _ _ _ _ _ _ _ _ _ _ _=>none
 | m+1=>fun v8 v42 v43 v44 ab0 ab1 ab2 ab3 ab4 ab5 bb0 bb1 cb0 cb1 cb2 cb3 cb4 cb5 cb6 cb7 db0 db1 hb0 hb1 vk0 vk1 vk2=>F.ze.L9_dog_reader_first.step n (F.ze.L9_dog_reader_first n k1 kr m) k1 kr v8 v42 v43 v44 ab0 ab1 ab2 ab3 ab4 ab5 bb0 bb1 cb0 cb1 cb2 cb3 cb4 cb5 cb6 cb7 db0 db1 hb0 hb1 vk0 vk1 vk2
noncomputable def F.ze.L2_dog_reader_more.step {X:Type} (n:Nat) (rec:Z0→Z11→Int→Z0→Int→Z2→Int→Z4→Int→Int→Int→Z0→Int→Z2→Int→Z4→Int→Int→Int→Int→Int→Int→Int→Nat→Nat→Nat→Option X) (k0:Z0→Int→Z2→Int→Z4→Int→Int→Int→Z0→Int→Z2→Int→Z4→Int→Int→Int→Int→Int→Int→Int→Nat→Nat→Nat→Option X) (kr:Z0→Int→Z2→Int→Z4→Int→Int→Int→Z0→Int→Z2→Int→Z4→Int→Int→Int→Int→Int→Int→Int→Nat→Nat→Nat→Option X) (v1:Z0) (v19:Z11) (v20:Int) (ab0:Z0) (ab1:Int) (ab2:Z2) (ab3:Int) (ab4:Z4) (ab5:Int) (bb0:Int) (bb1:Int) (cb0:Z0) (cb1:Int) (cb2:Z2) (cb3:Int) (cb4:Z4) (cb5:Int) (cb6:Int) (cb7:Int) (db0:Int) (db1:Int) (hb0:Int) (hb1:Int) (vk0:Nat) (vk1:Nat) (vk2:Nat):Option X:=
 bif decide (v20<(3:Int)) then
  bif v20==(0:Int) then
   (F.zaj n v1 v19.1).bind fun y11 =>
    bif !y11.2.1 then
     rec v1 (v19.1,(),v19.2.2.1,(),v19.2.2.2.2.1,(),()) (IntKind.wrap .i64 (v20+(1:Int))) ab0 ab1 ab2 ab3 ab4 ab5 bb0 bb1 cb0 cb1 cb2 cb3 cb4 cb5 cb6 cb7 db0 db1 hb0 hb1 vk0 vk1 vk2
    else
    bif decide (v20<cb7) then
     k0 ab0 ab1 ab2 ab3 ab4 ab5 bb0 bb1 cb0 cb1 cb2 cb3 cb4 cb5 cb6 cb7 db0 db1 hb0 hb1 vk0 vk1 vk2
    else
     (F.zw n y11.1).bind fun y12 =>
      bif !((y12.2.1.1==(0:Int))&&(y12.2.1.2.1==(0:Int))) then
       kr ab0 ab1 ab2 ab3 ab4 ab5 bb0 bb1 cb0 cb1 cb2 cb3 cb4 cb5 cb6 (IntKind.wrap .i64 (v20+(1:Int))) db0 db1 (18:Int) (IntKind.wrap .i64 (cb6+(0:Int))) vk0 vk1 vk2
      else
      bif cb1==(2:Int) then
       bif !(y12.1==(1000000:Int)) then
        kr ab0 ab1 ab2 ab3 ab4 ab5 bb0 bb1 cb0 cb1 cb2 cb3 cb4 cb5 cb6 (IntKind.wrap .i64 (v20+(1:Int))) db0 db1 (18:Int) (IntKind.wrap .i64 (cb6+(0:Int))) vk0 vk1 vk2
       else
        kr ab0 ab1 ab2 ab3 ab4 ab5 bb0 bb1 cb0 cb1 cb2 y12.1 cb4 cb5 cb6 (IntKind.wrap .i64 (v20+(1:Int))) db0 db1 (0:Int) (0:Int) vk0 vk1 vk2
      else
       kr ab0 ab1 ab2 ab3 ab4 ab5 bb0 bb1 cb0 cb1 cb2 y12.1 cb4 cb5 cb6 (IntKind.wrap .i64 (v20+(1:Int))) db0 db1 (0:Int) (0:Int) vk0 vk1 vk2
  else
  bif v20==(1:Int) then
   (F.zaj n v1 v19.2.2.1).bind fun y13 =>
    bif !y13.2.1 then
     rec v1 (v19.1,(),v19.2.2.1,(),v19.2.2.2.2.1,(),()) (IntKind.wrap .i64 (v20+(1:Int))) ab0 ab1 ab2 ab3 ab4 ab5 bb0 bb1 cb0 cb1 cb2 cb3 cb4 cb5 cb6 cb7 db0 db1 hb0 hb1 vk0 vk1 vk2
    else
    bif decide (v20<cb7) then
     k0 ab0 ab1 ab2 ab3 ab4 ab5 bb0 bb1 cb0 cb1 cb2 cb3 cb4 cb5 cb6 cb7 db0 db1 hb0 hb1 vk0 vk1 vk2
    else
     (F.zax n y13.1).bind fun y14 =>
      bif !((y14.2.1.1==(0:Int))&&(y14.2.1.2.1==(0:Int))) then
       kr ab0 ab1 ab2 ab3 ab4 ab5 bb0 bb1 cb0 cb1 cb2 cb3 cb4 cb5 cb6 (IntKind.wrap .i64 (v20+(1:Int))) db0 db1 (19:Int) (IntKind.wrap .i64 (cb6+(0:Int))) vk0 vk1 vk2
      else
      bif decide ((y14.1.length:Int)>(32:Int)) then
       kr ab0 ab1 ab2 ab3 ab4 ab5 bb0 bb1 cb0 cb1 cb2 cb3 cb4 cb5 cb6 (IntKind.wrap .i64 (v20+(1:Int))) db0 db1 (19:Int) (IntKind.wrap .i64 (cb6+(0:Int))) vk0 vk1 vk2
      else
       (F.zy n y14.1).bind fun y15 =>
        kr ab0 ab1 ab2 ab3 ab4 ab5 bb0 bb1 cb0 cb1 cb2 cb3 y15 cb5 cb6 (IntKind.wrap .i64 (v20+(1:Int))) db0 db1 (0:Int) (0:Int) vk0 vk1 vk2
  else
  bif v20==(2:Int) then
   (F.zaj n v1 v19.2.2.2.2.1).bind fun y16 =>
    bif !y16.2.1 then
     rec v1 (v19.1,(),v19.2.2.1,(),v19.2.2.2.2.1,(),()) (IntKind.wrap .i64 (v20+(1:Int))) ab0 ab1 ab2 ab3 ab4 ab5 bb0 bb1 cb0 cb1 cb2 cb3 cb4 cb5 cb6 cb7 db0 db1 hb0 hb1 vk0 vk1 vk2
    else
    bif decide (v20<cb7) then
     k0 ab0 ab1 ab2 ab3 ab4 ab5 bb0 bb1 cb0 cb1 cb2 cb3 cb4 cb5 cb6 cb7 db0 db1 hb0 hb1 vk0 vk1 vk2
    else
     (F.zcm n y16.1).bind fun y17 =>
      bif !((y17.2.1.1==(0:Int))&&(y17.2.1.2.1==(0:Int))) then
       kr ab0 ab1 ab2 ab3 ab4 ab5 bb0 bb1 cb0 cb1 cb2 cb3 cb4 cb5 cb6 (IntKind.wrap .i64 (v20+(1:Int))) db0 db1 (20:Int) (IntKind.wrap .i64 (cb6+(0:Int))) vk0 vk1 vk2
      else
       kr ab0 ab1 ab2 ab3 ab4 ab5 bb0 bb1 cb0 cb1 cb2 cb3 cb4 y17.1 cb6 (IntKind.wrap .i64 (v20+(1:Int))) db0 db1 (0:Int) (0:Int) vk0 vk1 vk2
  else
   none
 else
  k0 ab0 ab1 ab2 ab3 ab4 ab5 bb0 bb1 cb0 cb1 cb2 cb3 cb4 cb5 cb6 cb7 db0 db1 hb0 hb1 vk0 vk1 vk2
noncomputable def F.ze.L2_dog_reader_more {X:Type} (n:Nat) (k0:Z0→Int→Z2→Int→Z4→Int→Int→Int→Z0→Int→Z2→Int→Z4→Int→Int→Int→Int→Int→Int→Int→Nat→Nat→Nat→Option X) (kr:Z0→Int→Z2→Int→Z4→Int→Int→Int→Z0→Int→Z2→Int→Z4→Int→Int→Int→Int→Int→Int→Int→Nat→Nat→Nat→Option X):Nat→Z0→Z11→Int→Z0→Int→Z2→Int→Z4→Int→Int→Int→Z0→Int→Z2→Int→Z4→Int→Int→Int→Int→Int→Int→Int→Nat→Nat→Nat→Option X
 | 0=>fun _ _ _ _ _ _ _ _ _ _ _ _ _ _ _ _ _ _ _ _ _ _ _ _ _ _=>none
 | m+1=>fun v1 v19 v20 ab0 ab1 ab2 ab3 ab4 ab5 bb0 bb1 cb0 cb1 cb2 cb3 cb4 cb5 cb6 cb7 db0 db1 hb0 hb1 vk0 vk1 vk2=>F.ze.L2_dog_reader_more.step n (F.ze.L2_dog_reader_more n k0 kr m) k0 kr v1 v19 v20 ab0 ab1 ab2 ab3 ab4 ab5 bb0 bb1 cb0 cb1 cb2 cb3 cb4 cb5 cb6 cb7 db0 db1 hb0 hb1 vk0 vk1 vk2
noncomputable def F.ze.L8.step {X:Type} (n:Nat) (rec:Z0→Z10→Z10→Int→Int→Z0→Int→Z2→Int→Z4→Int→Int→Int→Z0→Int→Z2→Int→Z4→Int→Int→Int→Int→Int→Nat→Nat→Nat→Option X) (k0:Z0→Z10→Z0→Int→Z2→Int→Z4→Int→Int→Int→Z0→Int→Z2→Int→Z4→Int→Int→Int→Int→Int→Nat→Nat→Nat→Option X) (v0:Z0) (v5:Z10) (v26:Z10) (v27:Int) (v28:Int) (ab0:Z0) (ab1:Int) (ab2:Z2) (ab3:Int) (ab4:Z4) (ab5:Int) (bb0:Int) (bb1:Int) (cb0:Z0) (cb1:Int) (cb2:Z2) (cb3:Int) (cb4:Z4) (cb5:Int) (cb6:Int) (cb7:Int) (db0:Int) (db1:Int) (vk0:Nat) (vk1:Nat) (vk2:Nat):Option X:=
 bif decide (v28<v27) then
  (idx v26 v28).bind fun x2 =>
   bif decide (v28<(2:Int)) then
    bif v28 == (0:Int) then
     (F.zap n x2 ([58])).bind fun y3 =>
      (F.za5 n (1:Int) y3.1 (1:Int) (200:Int)).bind fun y4 =>
       bif !((y4.1==(0:Int))&&(y4.2.1==(0:Int))) then
        bif !(false&&((IntKind.wrap .i64 (cb6+(0:Int)))==(0:Int))) then
         k0 v0 v5 ab0 ab1 ab2 ab3 ab4 ab5 bb0 bb1 cb0 cb1 cb2 cb3 cb4 cb5 cb6 cb7 (15:Int) (IntKind.wrap .i64 (cb6+(0:Int))) vk0 vk1 vk2
        else
         rec v0 v5 v26 v27 (IntKind.wrap .i64 (v28+(1:Int))) ab0 ab1 ab2 ab3 ab4 ab5 bb0 bb1 cb0 cb1 cb2 cb3 cb4 cb5 (IntKind.wrap .i64 (cb6+(IntKind.wrap .i64 ((x2.length:Int)+(1:Int))))) cb7 (15:Int) (IntKind.wrap .i64 (cb6+(0:Int))) vk0 vk1 vk2
       else
       bif !y3.2.2.1 then
        bif !(false&&((IntKind.wrap .i64 (cb6+(x2.length:Int)))==(0:Int))) then
         k0 v0 v5 ab0 ab1 ab2 ab3 ab4 ab5 bb0 bb1 cb0 cb1 cb2 cb3 cb4 cb5 cb6 cb7 (11:Int) (IntKind.wrap .i64 (cb6+(x2.length:Int))) vk0 vk1 vk2
        else
         rec v0 v5 v26 v27 (IntKind.wrap .i64 (v28+(1:Int))) ab0 ab1 ab2 ab3 ab4 ab5 bb0 bb1 cb0 cb1 cb2 cb3 cb4 cb5 (IntKind.wrap .i64 (cb6+(IntKind.wrap .i64 ((x2.length:Int)+(1:Int))))) cb7 (11:Int) (IntKind.wrap .i64 (cb6+(x2.length:Int))) vk0 vk1 vk2
       else
        (O.split1 n y3.2.1 ([58])).bind fun y5 =>
         F.ze.L9_dog_reader_first n
          (fun g0 g1 g2 g3 g4 g5 h0 h1 i0 i1 i2 i3 i4 i5 i6 i7 j0 j1 l0 l1 ek0 ek1 ek2 =>
           bif !(true&&true) then
            k0 v0 v5 g0 g1 g2 g3 g4 g5 h0 h1 i0 i1 i2 i3 i4 i5 i6 i7 (0:Int) (0:Int) ek0 ek1 ek2
           else
            rec v0 v5 v26 v27 (IntKind.wrap .i64 (v28+(1:Int))) g0 g1 g2 g3 g4 g5 h0 h1 i0 i1 i2 i3 i4 i5 (IntKind.wrap .i64 (i6+(IntKind.wrap .i64 ((x2.length:Int)+(1:Int))))) i7 (0:Int) (0:Int) ek0 ek1 ek2)
          (fun g0 g1 g2 g3 g4 g5 h0 h1 i0 i1 i2 i3 i4 i5 i6 i7 j0 j1 l0 l1 ek0 ek1 ek2 =>
           bif !((l0==(0:Int))&&(l1==(0:Int))) then
            k0 v0 v5 g0 g1 g2 g3 g4 g5 h0 h1 i0 i1 i2 i3 i4 i5 i6 i7 l0 l1 ek0 ek1 ek2
           else
            rec v0 v5 v26 v27 (IntKind.wrap .i64 (v28+(1:Int))) g0 g1 g2 g3 g4 g5 h0 h1 i0 i1 i2 i3 i4 i5 (IntKind.wrap .i64 (i6+(IntKind.wrap .i64 ((x2.length:Int)+(1:Int))))) i7 l0 l1 ek0 ek1 ek2) n (IntKind.wrap .i64 ((y3.1.length:Int)+(1:Int))) y5 (y5.length:Int) (0:Int) ab0 ab1 ab2 ab3 ab4 ab5 bb0 bb1 y3.1 cb1 cb2 cb3 cb4 cb5 cb6 cb7 db0 db1 (0:Int) (0:Int) vk0 vk1 vk2
    else
    bif v28==(1:Int) then
     (F.zbl n x2).bind fun y10 =>
      bif !(y10.2.1==(0:Int)) then
       bif !((y10.2.1==(0:Int))&&((IntKind.wrap .i64 (cb6+(0:Int)))==(0:Int))) then
        k0 v0 v5 ab0 ab1 ab2 ab3 ab4 ab5 bb0 bb1 cb0 cb1 cb2 cb3 cb4 cb5 cb6 cb7 y10.2.1 (IntKind.wrap .i64 (cb6+(0:Int))) vk0 vk1 vk2
       else
        rec v0 v5 v26 v27 (IntKind.wrap .i64 (v28+(1:Int))) ab0 ab1 ab2 ab3 ab4 ab5 bb0 bb1 cb0 cb1 cb2 cb3 cb4 cb5 (IntKind.wrap .i64 (cb6+(IntKind.wrap .i64 ((x2.length:Int)+(1:Int))))) cb7 y10.2.1 (IntKind.wrap .i64 (cb6+(0:Int))) vk0 vk1 vk2
      else
      bif !(true&&true) then
       k0 v0 v5 ab0 ab1 ab2 ab3 ab4 ab5 bb0 bb1 cb0 y10.1 cb2 cb3 cb4 cb5 cb6 cb7 (0:Int) (0:Int) vk0 vk1 vk2
      else
       rec v0 v5 v26 v27 (IntKind.wrap .i64 (v28+(1:Int))) ab0 ab1 ab2 ab3 ab4 ab5 bb0 bb1 cb0 y10.1 cb2 cb3 cb4 cb5 (IntKind.wrap .i64 (cb6+(IntKind.wrap .i64 ((x2.length:Int)+(1:Int))))) cb7 (0:Int) (0:Int) vk0 vk1 vk2
    else
     none
   else
    F.ze.L2_dog_reader_more n
     (fun g0 g1 g2 g3 g4 g5 h0 h1 i0 i1 i2 i3 i4 i5 i6 i7 j0 j1 l0 l1 ek0 ek1 ek2 =>
      bif !(false&&((IntKind.wrap .i64 (i6+(0:Int)))==(0:Int))) then
       k0 v0 v5 g0 g1 g2 g3 g4 g5 h0 h1 i0 i1 i2 i3 i4 i5 i6 i7 (11:Int) (IntKind.wrap .i64 (i6+(0:Int))) ek0 ek1 ek2
      else
       rec v0 v5 v26 v27 (IntKind.wrap .i64 (v28+(1:Int))) g0 g1 g2 g3 g4 g5 h0 h1 i0 i1 i2 i3 i4 i5 (IntKind.wrap .i64 (i6+(IntKind.wrap .i64 ((x2.length:Int)+(1:Int))))) i7 (11:Int) (IntKind.wrap .i64 (i6+(0:Int))) ek0 ek1 ek2)
     (fun g0 g1 g2 g3 g4 g5 h0 h1 i0 i1 i2 i3 i4 i5 i6 i7 j0 j1 l0 l1 ek0 ek1 ek2 =>
      bif !((l0==(0:Int))&&(l1==(0:Int))) then
       k0 v0 v5 g0 g1 g2 g3 g4 g5 h0 h1 i0 i1 i2 i3 i4 i5 i6 i7 l0 l1 ek0 ek1 ek2
      else
       rec v0 v5 v26 v27 (IntKind.wrap .i64 (v28+(1:Int))) g0 g1 g2 g3 g4 g5 h0 h1 i0 i1 i2 i3 i4 i5 (IntKind.wrap .i64 (i6+(IntKind.wrap .i64 ((x2.length:Int)+(1:Int))))) i7 l0 l1 ek0 ek1 ek2) n x2 ([64],(),[35],(),[84],(),()) (0:Int) ab0 ab1 ab2 ab3 ab4 ab5 bb0 bb1 cb0 cb1 cb2 cb3 cb4 cb5 cb6 cb7 db0 db1 (0:Int) (0:Int) vk0 vk1 vk2
 else
  k0 v0 v5 ab0 ab1 ab2 ab3 ab4 ab5 bb0 bb1 cb0 cb1 cb2 cb3 cb4 cb5 cb6 cb7 db0 db1 vk0 vk1 vk2
noncomputable def F.ze.L8 {X:Type} (n:Nat) (k0:Z0→Z10→Z0→Int→Z2→Int→Z4→Int→Int→Int→Z0→Int→Z2→Int→Z4→Int→Int→Int→Int→Int→Nat→Nat→Nat→Option X):Nat→Z0→Z10→Z10→Int→Int→Z0→Int→Z2→Int→Z4→Int→Int→Int→Z0→Int→Z2→Int→Z4→Int→Int→Int→Int→Int→Nat→Nat→Nat→Option X
 | 0=>fun _ _ _ _ _ _ _ _ _ _ _ _ _ _ _ _ _ _ _ _ _ _ _ _ _ _=>none
 | m+1=>fun v0 v5 v26 v27 v28 ab0 ab1 ab2 ab3 ab4 ab5 bb0 bb1 cb0 cb1 cb2 cb3 cb4 cb5 cb6 cb7 db0 db1 vk0 vk1 vk2=>F.ze.L8.step n (F.ze.L8 n k0 m) k0 v0 v5 v26 v27 v28 ab0 ab1 ab2 ab3 ab4 ab5 bb0 bb1 cb0 cb1 cb2 cb3 cb4 cb5 cb6 cb7 db0 db1 vk0 vk1 vk2
noncomputable def F.ze (n:Nat) (a0:Z0):Option ((Z8)×(Z7)×Unit):=
 bif decide ((a0.length:Int)>(8192:Int)) then
  some ((([],(0:Int),[],(0:Int),[],(0:Int),()),((12:Int),(0:Int),()),()))
 else
  (O.split1 n a0 ([124])).bind fun y1 =>
   F.ze.L8 n
    (fun e0 e5 g0 g1 g2 g3 g4 g5 h0 h1 i0 i1 i2 i3 i4 i5 i6 i7 j0 j1 ek0 ek1 ek2 =>
     bif (j0==(0:Int))&&(j1==(0:Int)) then
      bif decide ((e5.length:Int)<(2:Int)) then
       bif !(false&&((e0.length:Int)==(0:Int))) then
        some ((([],(0:Int),[],(0:Int),[],(0:Int),()),((11:Int),(e0.length:Int),()),()))
       else
        some (((i0,i1,i2,i3,i4,i5,()),((11:Int),(e0.length:Int),()),()))
      else
      bif !((j0==(0:Int))&&(j1==(0:Int))) then
       some ((([],(0:Int),[],(0:Int),[],(0:Int),()),(j0,j1,()),()))
      else
       some (((i0,i1,i2,i3,i4,i5,()),(j0,j1,()),()))
     else
     bif !((j0==(0:Int))&&(j1==(0:Int))) then
      some ((([],(0:Int),[],(0:Int),[],(0:Int),()),(j0,j1,()),()))
     else
      some (((i0,i1,i2,i3,i4,i5,()),(j0,j1,()),()))) n a0 y1 y1 (y1.length:Int) (0:Int) [] (0:Int) [] (0:Int) [] (0:Int) (0:Int) (0:Int) [] (0:Int) [] (1000000:Int) [] (0:Int) (0:Int) (0:Int) (0:Int) (0:Int) 0 0 0
noncomputable def F.zo.L2_graphite_cut_1.step {X:Type} (n:Nat) (rec:Int→Int→Bool→Z0→Int→Z2→Int→Z4→Int→Int→Int→Z0→Int→Z2→Int→Z4→Int→Int→Int→Z0→Nat→Nat→Nat→Nat→Option X) (k0:Z0→Int→Z2→Int→Z4→Int→Int→Int→Z0→Int→Z2→Int→Z4→Int→Int→Int→Z0→Nat→Nat→Nat→Nat→Option X) (kr:Z0→Int→Z2→Int→Z4→Int→Int→Int→Z0→Int→Z2→Int→Z4→Int→Int→Int→Z0→Nat→Nat→Nat→Nat→Option X) (v3:Int) (v4:Int) (v5:Bool) (ab0:Z0) (ab1:Int) (ab2:Z2) (ab3:Int) (ab4:Z4) (ab5:Int) (bb0:Int) (bb1:Int) (cb0:Z0) (cb1:Int) (cb2:Z2) (cb3:Int) (cb4:Z4) (cb5:Int) (db0:Int) (db1:Int) (hb0:Z0) (vk0:Nat) (vk1:Nat) (vk2:Nat) (vk3:Nat):Option X:=
 bif v5 then
  (sub hb0 v3 (hb0.length:Int)).bind fun x1 =>
   (F.zap n x1 ([32])).bind fun y2 =>
    bif v4==(0:Int) then
     (F.za5 n (1:Int) y2.1 (1:Int) (200:Int)).bind fun y3 =>
      bif !((y3.1==(0:Int))&&(y3.2.1==(0:Int))) then
       kr ab0 ab1 ab2 ab3 ab4 ab5 bb0 bb1 y2.1 cb1 cb2 cb3 cb4 cb5 (15:Int) v3 hb0 vk0 vk1 vk2 vk3
      else
      bif !(y2.2.2.1==(decide (v4<(2:Int)))) then
       kr ab0 ab1 ab2 ab3 ab4 ab5 bb0 bb1 y2.1 cb1 cb2 cb3 cb4 cb5 (11:Int) (IntKind.wrap .i64 (v3+(y2.1.length:Int))) hb0 vk0 vk1 vk2 vk3
      else
       rec (IntKind.wrap .i64 (v3+(IntKind.wrap .i64 ((y2.1.length:Int)+(1:Int))))) (IntKind.wrap .i64 (v4+(1:Int))) y2.2.2.1 ab0 ab1 ab2 ab3 ab4 ab5 bb0 bb1 y2.1 cb1 cb2 cb3 cb4 cb5 db0 db1 hb0 vk0 vk1 vk2 vk3
    else
    bif v4==(1:Int) then
     (F.zah n y2.1).bind fun y4 =>
      bif !((y4.2.1.1==(0:Int))&&(y4.2.1.2.1==(0:Int))) then
       kr ab0 ab1 ab2 ab3 ab4 ab5 bb0 bb1 cb0 cb1 cb2 cb3 cb4 cb5 (17:Int) v3 hb0 vk0 vk1 vk2 vk3
      else
      bif !(y2.2.2.1==(decide (v4<(2:Int)))) then
       kr ab0 ab1 ab2 ab3 ab4 ab5 bb0 bb1 cb0 cb1 ([(y4.1.1,y4.1.2.1,y4.1.2.2.1)]) cb3 cb4 cb5 (11:Int) (IntKind.wrap .i64 (v3+(y2.1.length:Int))) hb0 vk0 vk1 1 vk3
      else
       rec (IntKind.wrap .i64 (v3+(IntKind.wrap .i64 ((y2.1.length:Int)+(1:Int))))) (IntKind.wrap .i64 (v4+(1:Int))) y2.2.2.1 ab0 ab1 ab2 ab3 ab4 ab5 bb0 bb1 cb0 cb1 ([(y4.1.1,y4.1.2.1,y4.1.2.2.1)]) cb3 cb4 cb5 db0 db1 hb0 vk0 vk1 1 vk3
    else
     (F.zcm n y2.1).bind fun y5 =>
      bif !((y5.2.1.1==(0:Int))&&(y5.2.1.2.1==(0:Int))) then
       kr ab0 ab1 ab2 ab3 ab4 ab5 bb0 bb1 cb0 cb1 cb2 cb3 cb4 cb5 (20:Int) v3 hb0 vk0 vk1 vk2 vk3
      else
      bif !(y2.2.2.1==(decide (v4<(2:Int)))) then
       kr ab0 ab1 ab2 ab3 ab4 ab5 bb0 bb1 cb0 cb1 cb2 cb3 cb4 y5.1 (11:Int) (IntKind.wrap .i64 (v3+(y2.1.length:Int))) hb0 vk0 vk1 vk2 vk3
      else
       rec (IntKind.wrap .i64 (v3+(IntKind.wrap .i64 ((y2.1.length:Int)+(1:Int))))) (IntKind.wrap .i64 (v4+(1:Int))) y2.2.2.1 ab0 ab1 ab2 ab3 ab4 ab5 bb0 bb1 cb0 cb1 cb2 cb3 cb4 y5.1 db0 db1 hb0 vk0 vk1 vk2 vk3
 else
  k0 ab0 ab1 ab2 ab3 ab4 ab5 bb0 bb1 cb0 cb1 cb2 cb3 cb4 cb5 db0 db1 hb0 vk0 vk1 vk2 vk3
noncomputable def F.zo.L2_graphite_cut_1 {X:Type} (n:Nat) (k0:Z0→Int→Z2→Int→Z4→Int→Int→Int→Z0→Int→Z2→Int→Z4→Int→Int→Int→Z0→Nat→Nat→Nat→Nat→Option X) (kr:Z0→Int→Z2→Int→Z4→Int→Int→Int→Z0→Int→Z2→Int→Z4→Int→Int→Int→Z0→Nat→Nat→Nat→Nat→Option X):Nat→Int→Int→Bool→Z0→Int→Z2→Int→Z4→Int→Int→Int→Z0→Int→Z2→Int→Z4→Int→Int→Int→Z0→Nat→Nat→Nat→Nat→Option X
 | 0=>fun _ _ _ _ _ _ _ _ _ _ _ _ _ _ _ _ _ _ _ _ _ _ _ _=>none
 | m+1=>fun v3 v4 v5 ab0 ab1 ab2 ab3 ab4 ab5 bb0 bb1 cb0 cb1 cb2 cb3 cb4 cb5 db0 db1 hb0 vk0 vk1 vk2 vk3=>F.zo.L2_graphite_cut_1.step n (F.zo.L2_graphite_cut_1 n k0 kr m) k0 kr v3 v4 v5 ab0 ab1 ab2 ab3 ab4 ab5 bb0 bb1 cb0 cb1 cb2 cb3 cb4 cb5 db0 db1 hb0 vk0 vk1 vk2 vk3
noncomputable def F.zo (n:Nat) (a0:Z0):Option ((Z8)×(Z7)×Unit):=
 F.zo.L2_graphite_cut_1 n
  (fun g0 g1 g2 g3 g4 g5 h0 h1 i0 i1 i2 i3 i4 i5 j0 j1 l0 ek0 ek1 ek2 ek3 =>
   bif !((j0==(0:Int))&&(j1==(0:Int))) then
    some ((([],(0:Int),[],(0:Int),[],(0:Int),()),(j0,j1,()),()))
   else
    some (((i0,i1,i2,i3,i4,i5,()),(j0,j1,()),())))
  (fun g0 g1 g2 g3 g4 g5 h0 h1 i0 i1 i2 i3 i4 i5 j0 j1 l0 ek0 ek1 ek2 ek3 =>
   bif !((j0==(0:Int))&&(j1==(0:Int))) then
    some ((([],(0:Int),[],(0:Int),[],(0:Int),()),(j0,j1,()),()))
   else
    some (((i0,i1,i2,i3,i4,i5,()),(j0,j1,()),()))) n (0:Int) (0:Int) true [] (0:Int) [] (0:Int) [] (0:Int) (0:Int) (0:Int) [] (2:Int) [] (1000000:Int) [] (0:Int) (0:Int) (0:Int) a0 0 0 0 0
noncomputable def F.zbv (n:Nat) (a0:Z0) (a1:Int):Option ((Z8)×(Z7)×Unit):=
 bif a1==(1:Int) then
  bif decide ((a0.length:Int)>(8192:Int)) then
   some ((([],(0:Int),[],(0:Int),[],(0:Int),()),((12:Int),(0:Int),()),()))
  else
   (F.zb n a0).bind fun y1 =>
    some (((y1.1.1,y1.1.2.1,y1.1.2.2.1,y1.1.2.2.2.1,y1.1.2.2.2.2.1,y1.1.2.2.2.2.2.1,()),(y1.2.1.1,y1.2.1.2.1,()),()))
 else
 bif a1==(2:Int) then
  bif decide ((a0.length:Int)>(8192:Int)) then
   some ((([],(0:Int),[],(0:Int),[],(0:Int),()),((12:Int),(0:Int),()),()))
  else
   (F.ze n a0).bind fun y2 =>
    some (((y2.1.1,y2.1.2.1,y2.1.2.2.1,y2.1.2.2.2.1,y2.1.2.2.2.2.1,y2.1.2.2.2.2.2.1,()),(y2.2.1.1,y2.2.1.2.1,()),()))
 else
 bif a1==(3:Int) then
  bif decide ((a0.length:Int)>(8192:Int)) then
   some ((([],(0:Int),[],(0:Int),[],(0:Int),()),((12:Int),(0:Int),()),()))
  else
   (F.zo n a0).bind fun y3 =>
    some (((y3.1.1,y3.1.2.1,y3.1.2.2.1,y3.1.2.2.2.1,y3.1.2.2.2.2.1,y3.1.2.2.2.2.2.1,()),(y3.2.1.1,y3.2.1.2.1,()),()))
 else
  some ((([],(0:Int),[],(0:Int),[],(0:Int),()),((29:Int),(0:Int),()),()))
noncomputable def F.za8 (n:Nat) (a0:Z0) (a1:Z0):Option (Bool):=
 bif decide ((a0.length:Int)≥(a1.length:Int)) then
  (sub a0 (IntKind.wrap .i64 ((a0.length:Int) - (a1.length:Int))) (a0.length:Int)).bind fun x1 =>
   some (x1==a1)
 else
  some (false)
noncomputable def F.za9 (n:Nat) (a0:Z0) (a1:Z0):Option ((Z0)×(Bool)×Unit):=
 (F.za8 n a0 a1).bind fun y1 =>
  bif !y1 then
   some ((a0,false,()))
  else
   (sub a0 (0:Int) (IntKind.wrap .i64 ((a0.length:Int) - (a1.length:Int)))).bind fun x2 =>
    some ((x2,true,()))
noncomputable def F.zay (n:Nat) (a0:Z0) (a1:Z0):Option ((Z0)×(Bool)×Unit):=
 (F.za9 n a0 a1).bind fun y1 =>
  some ((y1.1,y1.2.1,()))
noncomputable def F.zbs (n:Nat) (a0:Z0) (a1:Int):Option (Int):=
 (O.indexB n a0 a1).bind fun y1 =>
  some (y1)
noncomputable def F.zx.L0_strings_Lines_1.step {X:Type} (n:Nat) (rec:Int→Z6→Int→Int→Z6→Int→Z0→Nat→Nat→Option X) (k0:Int→Z6→Int→Int→Z6→Int→Z0→Nat→Nat→Option X) (kr:Int→Z6→Int→Int→Z6→Int→Z0→Nat→Nat→Option X) (ab0:Int) (bb0:Z6) (cb0:Int) (cb1:Int) (ib0:Z6) (jb0:Int) (lb0:Z0) (vk0:Nat) (vk1:Nat):Option X:=
 bif decide ((lb0.length:Int)>(0:Int)) then
  (F.zbs n lb0 (10:Int)).bind fun y1 =>
   bif decide (y1≥(0:Int)) then
    (sub lb0 (0:Int) (IntKind.wrap .i64 (y1+(1:Int)))).bind fun x2 =>
     (sub lb0 (IntKind.wrap .i64 (y1+(1:Int))) (lb0.length:Int)).bind fun x3 =>
      (F.zay n x2 ([10])).bind fun y4 =>
       bif (ib0.length:Int)==(1000:Int) then
        bif !(false&&true) then
         kr ab0 [] (12:Int) (IntKind.wrap .i64 (jb0+(0:Int))) ib0 jb0 x3 0 vk1
        else
        bif decide ((ib0.length+1)*88≤2 ^ 46)&&decide (0<88∧88≤2 ^ 20) then
         bif Nat.beq vk1 ib0.length then
          rec ab0 bb0 cb0 cb1 (ib0++([([],0,[],0,[],0)])) (IntKind.wrap .i64 (jb0+(x2.length:Int))) x3 vk0 ((ib0++([([],0,[],0,[],0)])).length)
         else
          none
        else
         none
       else
       bif !y4.2.1 then
        bif !(false&&true) then
         kr ab0 [] (30:Int) (IntKind.wrap .i64 (jb0+(0:Int))) ib0 jb0 x3 0 vk1
        else
        bif decide ((ib0.length+1)*88≤2 ^ 46)&&decide (0<88∧88≤2 ^ 20) then
         bif Nat.beq vk1 ib0.length then
          rec ab0 bb0 cb0 cb1 (ib0++([([],0,[],0,[],0)])) (IntKind.wrap .i64 (jb0+(x2.length:Int))) x3 vk0 ((ib0++([([],0,[],0,[],0)])).length)
         else
          none
        else
         none
       else
        (F.zbv n y4.1 ab0).bind fun y5 =>
         bif !((y5.2.1.1==(0:Int))&&(y5.2.1.2.1==(0:Int))) then
          kr ab0 [] y5.2.1.1 (IntKind.wrap .i64 (jb0+y5.2.1.2.1)) ib0 jb0 x3 0 vk1
         else
         bif decide ((ib0.length+1)*88≤2 ^ 46)&&decide (0<88∧88≤2 ^ 20) then
          bif Nat.beq vk1 ib0.length then
           rec ab0 bb0 cb0 cb1 (ib0++([(y5.1.1,y5.1.2.1,y5.1.2.2.1,y5.1.2.2.2.1,y5.1.2.2.2.2.1,y5.1.2.2.2.2.2.1)])) (IntKind.wrap .i64 (jb0+(x2.length:Int))) x3 vk0 ((ib0++([(y5.1.1,y5.1.2.1,y5.1.2.2.1,y5.1.2.2.2.1,y5.1.2.2.2.2.1,y5.1.2.2.2.2.2.1)])).length)
          else
           none
         else
          none
   else
    (F.zay n lb0 ([10])).bind fun y6 =>
     bif (ib0.length:Int)==(1000:Int) then
      bif !(false&&true) then
       kr ab0 [] (12:Int) (IntKind.wrap .i64 (jb0+(0:Int))) ib0 jb0 [] 0 vk1
      else
      bif decide ((ib0.length+1)*88≤2 ^ 46)&&decide (0<88∧88≤2 ^ 20) then
       bif Nat.beq vk1 ib0.length then
        rec ab0 bb0 cb0 cb1 (ib0++([([],0,[],0,[],0)])) (IntKind.wrap .i64 (jb0+(lb0.length:Int))) [] vk0 ((ib0++([([],0,[],0,[],0)])).length)
       else
        none
      else
       none
     else
     bif !y6.2.1 then
      bif !(false&&true) then
       kr ab0 [] (30:Int) (IntKind.wrap .i64 (jb0+(0:Int))) ib0 jb0 [] 0 vk1
      else
      bif decide ((ib0.length+1)*88≤2 ^ 46)&&decide (0<88∧88≤2 ^ 20) then
       bif Nat.beq vk1 ib0.length then
        rec ab0 bb0 cb0 cb1 (ib0++([([],0,[],0,[],0)])) (IntKind.wrap .i64 (jb0+(lb0.length:Int))) [] vk0 ((ib0++([([],0,[],0,[],0)])).length)
       else
        none
      else
       none
     else
      (F.zbv n y6.1 ab0).bind fun y7 =>
       bif !((y7.2.1.1==(0:Int))&&(y7.2.1.2.1==(0:Int))) then
        kr ab0 [] y7.2.1.1 (IntKind.wrap .i64 (jb0+y7.2.1.2.1)) ib0 jb0 [] 0 vk1
       else
       bif decide ((ib0.length+1)*88≤2 ^ 46)&&decide (0<88∧88≤2 ^ 20) then
        bif Nat.beq vk1 ib0.length then
         rec ab0 bb0 cb0 cb1 (ib0++([(y7.1.1,y7.1.2.1,y7.1.2.2.1,y7.1.2.2.2.1,y7.1.2.2.2.2.1,y7.1.2.2.2.2.2.1)])) (IntKind.wrap .i64 (jb0+(lb0.length:Int))) [] vk0 ((ib0++([(y7.1.1,y7.1.2.1,y7.1.2.2.1,y7.1.2.2.2.1,y7.1.2.2.2.2.1,y7.1.2.2.2.2.2.1)])).length)
        else
         none
       else
        none
 else
  k0 ab0 bb0 cb0 cb1 ib0 jb0 lb0 vk0 vk1
noncomputable def F.zx.L0_strings_Lines_1 {X:Type} (n:Nat) (k0:Int→Z6→Int→Int→Z6→Int→Z0→Nat→Nat→Option X) (kr:Int→Z6→Int→Int→Z6→Int→Z0→Nat→Nat→Option X):Nat→Int→Z6→Int→Int→Z6→Int→Z0→Nat→Nat→Option X
 | 0=>fun _ _ _ _ _ _ _ _ _=>none
 | m+1=>fun ab0 bb0 cb0 cb1 ib0 jb0 lb0 vk0 vk1=>F.zx.L0_strings_Lines_1.step n (F.zx.L0_strings_Lines_1 n k0 kr m) k0 kr ab0 bb0 cb0 cb1 ib0 jb0 lb0 vk0 vk1
noncomputable def F.zx (n:Nat) (a0:Z16) (a1:Int):Option ((Z6)×(Z7)×Unit):=
 bif a1==(1:Int) then
  F.zx.L0_strings_Lines_1 n
   (fun g0 h0 i0 i1 o0 p0 q0 ek0 ek1 =>
    some ((o0,((0:Int),(0:Int),()),())))
   (fun g0 h0 i0 i1 o0 p0 q0 ek0 ek1 =>
    some ((h0,(i0,i1,()),()))) n a1 [] (0:Int) (0:Int) [] (0:Int) a0 0 0
 else
 bif a1==(2:Int) then
  F.zx.L0_strings_Lines_1 n
   (fun g0 h0 i0 i1 o0 p0 q0 ek0 ek1 =>
    some ((o0,((0:Int),(0:Int),()),())))
   (fun g0 h0 i0 i1 o0 p0 q0 ek0 ek1 =>
    some ((h0,(i0,i1,()),()))) n a1 [] (0:Int) (0:Int) [] (0:Int) a0 0 0
 else
 bif a1==(3:Int) then
  F.zx.L0_strings_Lines_1 n
   (fun g0 h0 i0 i1 o0 p0 q0 ek0 ek1 =>
    some ((o0,((0:Int),(0:Int),()),())))
   (fun g0 h0 i0 i1 o0 p0 q0 ek0 ek1 =>
    some ((h0,(i0,i1,()),()))) n a1 [] (0:Int) (0:Int) [] (0:Int) a0 0 0
 else
  some (([],((29:Int),(0:Int),()),()))
noncomputable def F.za4 (n:Nat):Option (Bool):=
 (F.zx n ([UInt8.ofNat ((97:Int)).toNat,UInt8.ofNat ((58:Int)).toNat,UInt8.ofNat ((49:Int)).toNat,UInt8.ofNat ((124:Int)).toNat,UInt8.ofNat ((99:Int)).toNat,UInt8.ofNat ((10:Int)).toNat,UInt8.ofNat ((98:Int)).toNat,UInt8.ofNat ((58:Int)).toNat,UInt8.ofNat ((50:Int)).toNat,UInt8.ofNat ((124:Int)).toNat,UInt8.ofNat ((103:Int)).toNat,UInt8.ofNat ((10:Int)).toNat]) (1:Int)).bind fun y1 =>
  (F.zx n ([UInt8.ofNat ((97:Int)).toNat,UInt8.ofNat ((58:Int)).toNat,UInt8.ofNat ((49:Int)).toNat,UInt8.ofNat ((124:Int)).toNat,UInt8.ofNat ((99:Int)).toNat,UInt8.ofNat ((10:Int)).toNat,UInt8.ofNat ((98:Int)).toNat,UInt8.ofNat ((58:Int)).toNat,UInt8.ofNat ((120:Int)).toNat,UInt8.ofNat ((124:Int)).toNat,UInt8.ofNat ((103:Int)).toNat,UInt8.ofNat ((10:Int)).toNat]) (1:Int)).bind fun y2 =>
   (F.zx n ([UInt8.ofNat ((97:Int)).toNat,UInt8.ofNat ((58:Int)).toNat,UInt8.ofNat ((49:Int)).toNat,UInt8.ofNat ((124:Int)).toNat,UInt8.ofNat ((99:Int)).toNat]) (1:Int)).bind fun y3 =>
    (F.zx n ([UInt8.ofNat ((97:Int)).toNat,UInt8.ofNat ((58:Int)).toNat,UInt8.ofNat ((49:Int)).toNat,UInt8.ofNat ((124:Int)).toNat,UInt8.ofNat ((99:Int)).toNat,UInt8.ofNat ((10:Int)).toNat,UInt8.ofNat ((10:Int)).toNat]) (1:Int)).bind fun y4 =>
     bif (y1.2.1.1==(0:Int))&&(y1.2.1.2.1==(0:Int)) then
      bif (y1.1.length:Int)==(2:Int) then
       (idx y1.1 (0:Int)).bind fun x5 =>
        bif x5.1==([97]) then
         (idx y1.1 (1:Int)).bind fun x6 =>
          bif x6.1==([98]) then
           bif (y2.2.1.1==(17:Int))&&(y2.2.1.2.1==(8:Int)) then
            bif (y3.2.1.1==(30:Int))&&(y3.2.1.2.1==(0:Int)) then
             some ((y4.2.1.1==(15:Int))&&(y4.2.1.2.1==(6:Int)))
            else
             some (false)
           else
            some (false)
          else
           some (false)
        else
         some (false)
      else
       some (false)
     else
      some (false)
noncomputable def F.zcn (n:Nat) (a0:Int):Option (Bool):=
 bif decide (a0≥(1:Int)) then
  some (decide (a0≤(3:Int)))
 else
  some (false)
noncomputable def F.zu.L2.step {X:Type} (n:Nat) (rec:Z0→Int→Int→Option X) (k0:Z0→Option X) (kr:Int→Option X) (v0:Z0) (v2:Int) (v7:Int):Option X:=
 bif decide (v7<(v0.length:Int)) then
  (idx v0 v7).bind fun x1 =>
   bif ((x1).toNat)==v2 then
    kr v7
   else
    rec v0 v2 (IntKind.wrap .i64 (v7+(1:Int)))
 else
  k0 v0
noncomputable def F.zu.L2 {X:Type} (n:Nat) (k0:Z0→Option X) (kr:Int→Option X):Nat→Z0→Int→Int→Option X
 | 0=>fun _ _ _=>none
 | m+1=>fun v0 v2 v7=>F.zu.L2.step n (F.zu.L2 n k0 kr m) k0 kr v0 v2 v7
noncomputable def F.zu (n:Nat) (a0:Z0) (a1:Int) (a2:Int):Option (Int):=
 F.zu.L2 n
  (fun e0 =>
   some ((e0.length:Int)))
  (fun e6 =>
   some (e6)) n a0 a2 a1
noncomputable def F.zcb (n:Nat) (a0:Int):Option (Z0):=
 bif decide (52+10≤strMax) then
  bif decide (((([65,66,67,68,69,70,71,72,73,74,75,76,77,78,79,80,81,82,83,84,85,86,87,88,89,90,97,98,99,100,101,102,103,104,105,106,107,108,109,110,111,112,113,114,115,116,117,118,119,120,121,122])++([48,49,50,51,52,53,54,55,56,57])).length)+3≤strMax) then
   bif a0==(1:Int) then
    some ((([65,66,67,68,69,70,71,72,73,74,75,76,77,78,79,80,81,82,83,84,85,86,87,88,89,90,97,98,99,100,101,102,103,104,105,106,107,108,109,110,111,112,113,114,115,116,117,118,119,120,121,122])++([48,49,50,51,52,53,54,55,56,57]))++([95,46,45]))
   else
   bif a0==(2:Int) then
    bif decide ((((([65,66,67,68,69,70,71,72,73,74,75,76,77,78,79,80,81,82,83,84,85,86,87,88,89,90,97,98,99,100,101,102,103,104,105,106,107,108,109,110,111,112,113,114,115,116,117,118,119,120,121,122])++([48,49,50,51,52,53,54,55,56,57]))++([95,46,45])).length)+1≤strMax) then
     some (((([65,66,67,68,69,70,71,72,73,74,75,76,77,78,79,80,81,82,83,84,85,86,87,88,89,90,97,98,99,100,101,102,103,104,105,106,107,108,109,110,111,112,113,114,115,116,117,118,119,120,121,122])++([48,49,50,51,52,53,54,55,56,57]))++([95,46,45]))++([47]))
    else
     none
   else
   bif a0==(3:Int) then
    bif decide ((((([65,66,67,68,69,70,71,72,73,74,75,76,77,78,79,80,81,82,83,84,85,86,87,88,89,90,97,98,99,100,101,102,103,104,105,106,107,108,109,110,111,112,113,114,115,116,117,118,119,120,121,122])++([48,49,50,51,52,53,54,55,56,57]))++([95,46,45])).length)+27≤strMax) then
     some (((([65,66,67,68,69,70,71,72,73,74,75,76,77,78,79,80,81,82,83,84,85,86,87,88,89,90,97,98,99,100,101,102,103,104,105,106,107,108,109,110,111,112,113,114,115,116,117,118,119,120,121,122])++([48,49,50,51,52,53,54,55,56,57]))++([95,46,45]))++([47,33,34,35,36,37,38,39,40,41,42,43,58,59,60,61,62,63,64,91,92,93,94,96,123,125,126]))
    else
     none
   else
   bif a0==(4:Int) then
    some ([48,49,50,51,52,53,54,55,56,57])
   else
    some ([])
  else
   none
 else
  none
noncomputable def F.za0.L3.step {X:Type} (n:Nat) (rec:Int→Z0→Int→Option X) (k0:Unit→Option X) (kr:Bool→Option X) (v1:Int) (v5:Z0) (v6:Int):Option X:=
 bif decide (v6<(v5.length:Int)) then
  (idx v5 v6).bind fun x2 =>
   bif ((x2).toNat)==v1 then
    kr true
   else
    rec v1 v5 (IntKind.wrap .i64 (v6+(1:Int)))
 else
  k0 ()
noncomputable def F.za0.L3 {X:Type} (n:Nat) (k0:Unit→Option X) (kr:Bool→Option X):Nat→Int→Z0→Int→Option X
 | 0=>fun _ _ _=>none
 | m+1=>fun v1 v5 v6=>F.za0.L3.step n (F.za0.L3 n k0 kr m) k0 kr v1 v5 v6
noncomputable def F.za0 (n:Nat) (a0:Int) (a1:Int):Option (Bool):=
 (F.zcb n a0).bind fun y1 =>
  F.za0.L3 n
   (fun (_:Unit) =>
    some (false))
   (fun e4 =>
    some (e4)) n a1 y1 (0:Int)
noncomputable def F.zas.L2.step {X:Type} (n:Nat) (rec:Int→Z0→Int→Option X) (k0:Unit→Option X) (kr:Int→Option X) (v0:Int) (v1:Z0) (v5:Int):Option X:=
 bif decide (v5<(v1.length:Int)) then
  (idx v1 v5).bind fun x1 =>
   (F.za0 n v0 ((x1).toNat)).bind fun y2 =>
    bif !y2 then
     kr v5
    else
     rec v0 v1 (IntKind.wrap .i64 (v5+(1:Int)))
 else
  k0 ()
noncomputable def F.zas.L2 {X:Type} (n:Nat) (k0:Unit→Option X) (kr:Int→Option X):Nat→Int→Z0→Int→Option X
 | 0=>fun _ _ _=>none
 | m+1=>fun v0 v1 v5=>F.zas.L2.step n (F.zas.L2 n k0 kr m) k0 kr v0 v1 v5
noncomputable def F.zas (n:Nat) (a0:Int) (a1:Z0):Option (Int):=
 F.zas.L2 n
  (fun (_:Unit) =>
   some ((-1:Int)))
  (fun e4 =>
   some (e4)) n a0 a1 (0:Int)
noncomputable def F.zbw (n:Nat) (a0:Int) (a1:Z0) (a2:Int) (a3:Int):Option (Z7):=
 bif decide ((a1.length:Int)<a2) then
  some (((13:Int),(a1.length:Int),()))
 else
 bif decide ((a1.length:Int)>a3) then
  some (((12:Int),a3,()))
 else
  (F.zas n a0 a1).bind fun y1 =>
   bif decide (y1≥(0:Int)) then
    some (((14:Int),y1,()))
   else
    some (((0:Int),(0:Int),()))
noncomputable def F.zb5 (n:Nat) (a0:Z0):Option (Bool):=
 (F.zbw n (1:Int) a0 (1:Int) (200:Int)).bind fun y1 =>
  some ((y1.1==(0:Int))&&(y1.2.1==(0:Int)))
noncomputable def F.za1 (n:Nat) (a0:Int) (a1:Int):Option ((Z8)×(Z7)×Unit):=
 some ((([],(0:Int),[],(0:Int),[],(0:Int),()),(a0,a1,()),()))
noncomputable def F.zbx (n:Nat) (a0:Z0):Option (Bool):=
 bif decide ((a0.length:Int)<(20:Int)) then
  some (true)
 else
 bif (a0.length:Int)==(20:Int) then
  some (Op.bytesLess a0 ([49,56,52,52,54,55,52,52,48,55,51,55,48,57,53,53,49,54,49,53])||a0==([49,56,52,52,54,55,52,52,48,55,51,55,48,57,53,53,49,54,49,53]))
 else
  some (false)
noncomputable def F.zag.L3.step {X:Type} (n:Nat) (rec:Z0→Int→Int→Option X) (k0:Int→Option X) (v0:Z0) (v3:Int) (v4:Int):Option X:=
 bif decide (v4<(v0.length:Int)) then
  (idx v0 v4).bind fun x1 =>
   rec v0 (IntKind.wrap .u64 ((IntKind.wrap .u64 ((10:Int)*v3))+(IntKind.wrap .u64 (IntKind.wrap .u8 (((x1).toNat) - (48:Int)))))) (IntKind.wrap .i64 (v4+(1:Int)))
 else
  k0 v3
noncomputable def F.zag.L3 {X:Type} (n:Nat) (k0:Int→Option X):Nat→Z0→Int→Int→Option X
 | 0=>fun _ _ _=>none
 | m+1=>fun v0 v3 v4=>F.zag.L3.step n (F.zag.L3 n k0 m) k0 v0 v3 v4
noncomputable def F.zag (n:Nat) (a0:Z0):Option (Int):=
 F.zag.L3 n
  (fun e3 =>
   some (e3)) n a0 (0:Int) (0:Int)
noncomputable def F.zd.L1.step {X:Type} (n:Nat) (rec:Bool→Z0→Int→Bool→Int→Int→Option X) (k0:Bool→Z0→Int→Bool→Int→Int→Option X) (v0:Bool) (v1:Z0) (v2:Int) (ab0:Bool) (ab1:Int) (ab2:Int):Option X:=
 bif decide ((v1.length:Int)>(0:Int)) then
  (idx v1 (0:Int)).bind fun x1 =>
   bif ((x1).toNat)==(48:Int) then
    (sub v1 (1:Int) (v1.length:Int)).bind fun x2 =>
     rec v0 x2 v2 ab0 ab1 ab2
   else
    k0 v0 v1 v2 ab0 ab1 ab2
 else
  k0 v0 v1 v2 ab0 ab1 ab2
noncomputable def F.zd.L1 {X:Type} (n:Nat) (k0:Bool→Z0→Int→Bool→Int→Int→Option X):Nat→Bool→Z0→Int→Bool→Int→Int→Option X
 | 0=>fun _ _ _ _ _ _=>none
 | m+1=>fun v0 v1 v2 ab0 ab1 ab2=>F.zd.L1.step n (F.zd.L1 n k0 m) k0 v0 v1 v2 ab0 ab1 ab2
noncomputable def F.zd.L7.step {X:Type} (n:Nat) (rec:Bool→Z0→Int→Bool→Int→Int→Option X) (k2:Bool→Z0→Int→Bool→Int→Int→Option X) (v0:Bool) (v1:Z0) (v2:Int) (ab0:Bool) (ab1:Int) (ab2:Int):Option X:=
 bif decide (v2<(18:Int)) then
  (idx v1 (IntKind.wrap .i64 ((v1.length:Int) - (1:Int)))).bind fun x4 =>
   bif ((x4).toNat)==(48:Int) then
    (sub v1 (0:Int) (IntKind.wrap .i64 ((v1.length:Int) - (1:Int)))).bind fun x5 =>
     rec v0 x5 (IntKind.wrap .i64 (v2+(1:Int))) ab0 ab1 ab2
   else
    k2 v0 v1 v2 ab0 ab1 ab2
 else
  k2 v0 v1 v2 ab0 ab1 ab2
noncomputable def F.zd.L7 {X:Type} (n:Nat) (k2:Bool→Z0→Int→Bool→Int→Int→Option X):Nat→Bool→Z0→Int→Bool→Int→Int→Option X
 | 0=>fun _ _ _ _ _ _=>none
 | m+1=>fun v0 v1 v2 ab0 ab1 ab2=>F.zd.L7.step n (F.zd.L7 n k2 m) k2 v0 v1 v2 ab0 ab1 ab2
noncomputable def F.zd.L10.step {X:Type} (n:Nat) (rec:Bool→Z0→Int→Bool→Int→Int→Option X) (k4:Bool→Z0→Int→Bool→Int→Int→Option X) (v0:Bool) (v1:Z0) (v2:Int) (ab0:Bool) (ab1:Int) (ab2:Int):Option X:=
 bif decide (v2>(18:Int)) then
  bif decide (v1.length+1≤strMax) then
   rec v0 (v1++([48])) (IntKind.wrap .i64 (v2 - (1:Int))) ab0 ab1 ab2
  else
   none
 else
  k4 v0 v1 v2 ab0 ab1 ab2
noncomputable def F.zd.L10 {X:Type} (n:Nat) (k4:Bool→Z0→Int→Bool→Int→Int→Option X):Nat→Bool→Z0→Int→Bool→Int→Int→Option X
 | 0=>fun _ _ _ _ _ _=>none
 | m+1=>fun v0 v1 v2 ab0 ab1 ab2=>F.zd.L10.step n (F.zd.L10 n k4 m) k4 v0 v1 v2 ab0 ab1 ab2
noncomputable def F.zd (n:Nat) (a0:Bool) (a1:Z0) (a2:Int):Option ((Z9)×(Bool)×Unit):=
 F.zd.L1 n
  (fun e0 e1 e2 g0 g1 g2 =>
   bif e1==[] then
    some (((false,(0:Int),(0:Int),()),true,()))
   else
   bif decide (e2>(1000:Int)) then
    some (((false,(0:Int),(0:Int),()),false,()))
   else
   bif decide (e2<(-1000000:Int)) then
    some (((false,(0:Int),(0:Int),()),false,()))
   else
    F.zd.L7 n
     (fun e0 e1 e2 g0 g1 g2 =>
      F.zd.L10 n
       (fun e0 e1 e2 g0 g1 g2 =>
        bif decide (e2<(-18:Int)) then
         some (((false,(0:Int),(0:Int),()),false,()))
        else
         (F.zbx n e1).bind fun y8 =>
          bif !y8 then
           some (((false,(0:Int),(0:Int),()),false,()))
          else
           (F.zag n e1).bind fun y9 =>
            some (((e0,y9,e2,()),true,()))) n e0 e1 e2 g0 g1 g2) n e0 e1 e2 g0 g1 g2) n a0 a1 a2 false (0:Int) (0:Int)
noncomputable def F.zcc (n:Nat) (a0:Int):Option (Bool):=
 bif decide (a0≥(48:Int)) then
  some (decide (a0≤(57:Int)))
 else
  some (false)
noncomputable def F.zp.L8.step {X:Type} (n:Nat) (rec:Z0→Bool→Int→Z0→Int→Bool→Bool→Int→Int→Int→Int→Option X) (k0:Z0→Bool→Z0→Int→Bool→Bool→Int→Int→Int→Int→Option X) (kr:Bool→Int→Int→Int→Int→Option X) (v0:Z0) (v4:Bool) (v5:Int) (v6:Z0) (v7:Int) (v8:Bool) (ab0:Bool) (ab1:Int) (ab2:Int) (bb0:Int) (bb1:Int):Option X:=
 bif decide (v5<(v0.length:Int)) then
  (idx v0 v5).bind fun x2 =>
   (F.zcc n ((x2).toNat)).bind fun y3 =>
    bif y3 then
     (sub v0 v5 (IntKind.wrap .i64 (v5+(1:Int)))).bind fun x4 =>
      bif decide (v6.length+x4.length≤strMax) then
       rec v0 v4 (IntKind.wrap .i64 (v5+(1:Int))) (v6++x4) v7 false ab0 ab1 ab2 bb0 bb1
      else
       none
    else
     (idx v0 v5).bind fun x5 =>
      bif ((x5).toNat)==(46:Int) then
       bif decide (v7<(0:Int)) then
        bif !v8 then
         rec v0 v4 (IntKind.wrap .i64 (v5+(1:Int))) v6 (v6.length:Int) true ab0 ab1 ab2 bb0 bb1
        else
         kr false (0:Int) (0:Int) (14:Int) v5
       else
        kr false (0:Int) (0:Int) (14:Int) v5
      else
       kr false (0:Int) (0:Int) (14:Int) v5
 else
  k0 v0 v4 v6 v7 v8 ab0 ab1 ab2 bb0 bb1
noncomputable def F.zp.L8 {X:Type} (n:Nat) (k0:Z0→Bool→Z0→Int→Bool→Bool→Int→Int→Int→Int→Option X) (kr:Bool→Int→Int→Int→Int→Option X):Nat→Z0→Bool→Int→Z0→Int→Bool→Bool→Int→Int→Int→Int→Option X
 | 0=>fun _ _ _ _ _ _ _ _ _ _ _=>none
 | m+1=>fun v0 v4 v5 v6 v7 v8 ab0 ab1 ab2 bb0 bb1=>F.zp.L8.step n (F.zp.L8 n k0 kr m) k0 kr v0 v4 v5 v6 v7 v8 ab0 ab1 ab2 bb0 bb1
noncomputable def F.zp (n:Nat) (a0:Z0):Option ((Z9)×(Z7)×Unit):=
 bif decide ((a0.length:Int)>(0:Int)) then
  (idx a0 (0:Int)).bind fun x1 =>
   bif ((x1).toNat)==(45:Int) then
    F.zp.L8 n
     (fun e0 e4 e6 e7 e8 g0 g1 g2 h0 h1 =>
      bif e8 then
       some (((false,(0:Int),(0:Int),()),((11:Int),(e0.length:Int),()),()))
      else
      bif decide (e7≥(0:Int)) then
       (F.zd n e4 e6 (IntKind.wrap .i64 (e7 - (e6.length:Int)))).bind fun y7 =>
        bif !y7.2.1 then
         some (((false,(0:Int),(0:Int),()),((10:Int),(0:Int),()),()))
        else
         some (((y7.1.1,y7.1.2.1,y7.1.2.2.1,()),((0:Int),(0:Int),()),()))
      else
       (F.zd n e4 e6 (0:Int)).bind fun y8 =>
        bif !y8.2.1 then
         some (((false,(0:Int),(0:Int),()),((10:Int),(0:Int),()),()))
        else
         some (((y8.1.1,y8.1.2.1,y8.1.2.2.1,()),((0:Int),(0:Int),()),())))
     (fun g0 g1 g2 h0 h1 =>
      some (((g0,g1,g2,()),(h0,h1,()),()))) n a0 (((x1).toNat)==(45:Int)) (1:Int) [] (-1:Int) true false (0:Int) (0:Int) (0:Int) (0:Int)
   else
    F.zp.L8 n
     (fun e0 e4 e6 e7 e8 g0 g1 g2 h0 h1 =>
      bif e8 then
       some (((false,(0:Int),(0:Int),()),((11:Int),(e0.length:Int),()),()))
      else
      bif decide (e7≥(0:Int)) then
       (F.zd n e4 e6 (IntKind.wrap .i64 (e7 - (e6.length:Int)))).bind fun y11 =>
        bif !y11.2.1 then
         some (((false,(0:Int),(0:Int),()),((10:Int),(0:Int),()),()))
        else
         some (((y11.1.1,y11.1.2.1,y11.1.2.2.1,()),((0:Int),(0:Int),()),()))
      else
       (F.zd n e4 e6 (0:Int)).bind fun y12 =>
        bif !y12.2.1 then
         some (((false,(0:Int),(0:Int),()),((10:Int),(0:Int),()),()))
        else
         some (((y12.1.1,y12.1.2.1,y12.1.2.2.1,()),((0:Int),(0:Int),()),())))
     (fun g0 g1 g2 h0 h1 =>
      some (((g0,g1,g2,()),(h0,h1,()),()))) n a0 (((x1).toNat)==(45:Int)) (0:Int) [] (-1:Int) true false (0:Int) (0:Int) (0:Int) (0:Int)
 else
  F.zp.L8 n
   (fun e0 e4 e6 e7 e8 g0 g1 g2 h0 h1 =>
    bif e8 then
     some (((false,(0:Int),(0:Int),()),((11:Int),(e0.length:Int),()),()))
    else
    bif decide (e7≥(0:Int)) then
     (F.zd n e4 e6 (IntKind.wrap .i64 (e7 - (e6.length:Int)))).bind fun y15 =>
      bif !y15.2.1 then
       some (((false,(0:Int),(0:Int),()),((10:Int),(0:Int),()),()))
      else
       some (((y15.1.1,y15.1.2.1,y15.1.2.2.1,()),((0:Int),(0:Int),()),()))
    else
     (F.zd n e4 e6 (0:Int)).bind fun y16 =>
      bif !y16.2.1 then
       some (((false,(0:Int),(0:Int),()),((10:Int),(0:Int),()),()))
      else
       some (((y16.1.1,y16.1.2.1,y16.1.2.2.1,()),((0:Int),(0:Int),()),())))
   (fun g0 g1 g2 h0 h1 =>
    some (((g0,g1,g2,()),(h0,h1,()),()))) n a0 false (0:Int) [] (-1:Int) true false (0:Int) (0:Int) (0:Int) (0:Int)
noncomputable def F.zb6 (n:Nat) (a0:Int):Option (Z0):=
 bif a0==(1:Int) then
  some ([99])
 else
 bif a0==(2:Int) then
  some ([103])
 else
 bif a0==(3:Int) then
  some ([109,115])
 else
 bif a0==(4:Int) then
  some ([104])
 else
  some ([])
noncomputable def F.zan.L2.step {X:Type} (n:Nat) (rec:Z0→Int→Option X) (k0:Unit→Option X) (kr:Int→Option X) (v0:Z0) (v3:Int):Option X:=
 bif decide (v3≤(4:Int)) then
  (F.zb6 n v3).bind fun y1 =>
   bif y1==v0 then
    kr v3
   else
    rec v0 (IntKind.wrap .i64 (v3+(1:Int)))
 else
  k0 ()
noncomputable def F.zan.L2 {X:Type} (n:Nat) (k0:Unit→Option X) (kr:Int→Option X):Nat→Z0→Int→Option X
 | 0=>fun _ _=>none
 | m+1=>fun v0 v3=>F.zan.L2.step n (F.zan.L2 n k0 kr m) k0 kr v0 v3
noncomputable def F.zan (n:Nat) (a0:Z0):Option (Int):=
 F.zan.L2 n
  (fun (_:Unit) =>
   some ((0:Int)))
  (fun e2 =>
   some (e2)) n a0 (1:Int)
noncomputable def F.z7.L3.step {X:Type} (n:Nat) (rec:Z0→Int→Int→Option X) (k0:Int→Option X) (kr:Int→Bool→Option X) (v0:Z0) (v4:Int) (v5:Int):Option X:=
 bif decide (v5<(v0.length:Int)) then
  (idx v0 v5).bind fun x1 =>
   bif decide (v4>(IntKind.wrap .i64 ((IntKind.wrap .i64 ((9223372036854775807:Int) - (IntKind.wrap .i64 (IntKind.wrap .u8 (((x1).toNat) - (48:Int)))))).tdiv (10:Int)))) then
    kr (0:Int) false
   else
    rec v0 (IntKind.wrap .i64 ((IntKind.wrap .i64 ((10:Int)*v4))+(IntKind.wrap .i64 (IntKind.wrap .u8 (((x1).toNat) - (48:Int)))))) (IntKind.wrap .i64 (v5+(1:Int)))
 else
  k0 v4
noncomputable def F.z7.L3 {X:Type} (n:Nat) (k0:Int→Option X) (kr:Int→Bool→Option X):Nat→Z0→Int→Int→Option X
 | 0=>fun _ _ _=>none
 | m+1=>fun v0 v4 v5=>F.z7.L3.step n (F.z7.L3 n k0 kr m) k0 kr v0 v4 v5
noncomputable def F.z7 (n:Nat) (a0:Z0):Option ((Int)×(Bool)×Unit):=
 F.z7.L3 n
  (fun e4 =>
   some ((e4,true,())))
  (fun e2 e3 =>
   some ((e2,e3,()))) n a0 (0:Int) (0:Int)
noncomputable def F.zak.L17.step {X:Type} (n:Nat) (rec:Z0→Int→Int→Option X) (k0:Z0→Int→Int→Option X) (v4:Z0) (ab0:Int) (ab1:Int):Option X:=
 bif decide ((v4.length:Int)<(6:Int)) then
  bif decide (v4.length+1≤strMax) then
   rec (v4++([48])) ab0 ab1
  else
   none
 else
  k0 v4 ab0 ab1
noncomputable def F.zak.L17 {X:Type} (n:Nat) (k0:Z0→Int→Int→Option X):Nat→Z0→Int→Int→Option X
 | 0=>fun _ _ _=>none
 | m+1=>fun v4 ab0 ab1=>F.zak.L17.step n (F.zak.L17 n k0 m) k0 v4 ab0 ab1
noncomputable def F.zak (n:Nat) (a0:Z0):Option ((Int)×(Z7)×Unit):=
 bif a0==([49]) then
  some (((1000000:Int),((0:Int),(0:Int),()),()))
 else
 bif a0==[] then
  some (((0:Int),((13:Int),(0:Int),()),()))
 else
  (idx a0 (0 : Int)).bind fun x1 =>
   bif !(((x1).toNat)==(48:Int)) then
    some (((0:Int),((11:Int),(0:Int),()),()))
   else
   bif decide ((a0.length:Int)<(2:Int)) then
    some (((0:Int),((11:Int),(1:Int),()),()))
   else
    (idx a0 (1:Int)).bind fun x2 =>
     bif !(((x2).toNat)==(46:Int)) then
      some (((0:Int),((11:Int),(1:Int),()),()))
     else
      (sub a0 (2:Int) (a0.length:Int)).bind fun x3 =>
       bif x3==[] then
        some (((0:Int),((13:Int),(2:Int),()),()))
       else
        (F.zas n (4:Int) x3).bind fun y4 =>
         bif decide (y4≥(0:Int)) then
          some (((0:Int),((14:Int),(IntKind.wrap .i64 ((2:Int)+y4)),()),()))
         else
         bif decide ((x3.length:Int)>(6:Int)) then
          some (((0:Int),((12:Int),(8:Int),()),()))
         else
          F.zak.L17 n
           (fun e4 g0 g1 =>
            (F.z7 n e4).bind fun y6 =>
             bif y6.1==(0:Int) then
              some (((0:Int),((10:Int),(0:Int),()),()))
             else
              some ((y6.1,((0:Int),(0:Int),()),()))) n x3 (0:Int) (0:Int)
noncomputable def F.zr.C26 {X:Type} (n:Nat) (kr:Z0→Int→Z2→Int→Z4→Int→Int→Int→Option X) (kn:Z0→Int→Int→Z0→Int→Z2→Int→Z4→Int→Int→Int→Bool→Int→Int→Z0→Int→Z2→Int→Z4→Int→Nat→Nat→Nat→Nat→Option X) (c0:Z0) (c8:Int) (c11:Int) (c12:Int) (c145:Bool) (ab0:Z0) (ab1:Int) (ab2:Z2) (ab3:Int) (ab4:Z4) (ab5:Int) (bb0:Int) (bb1:Int) (cb0:Bool) (cb1:Int) (cb2:Int) (db0:Z0) (db1:Int) (db2:Z2) (db3:Int) (db4:Z4) (db5:Int) (ck0:Nat) (ck1:Nat) (ck2:Nat) (ck3:Nat):Option X:=
 bif c145 then
  (F.za1 n (18:Int) (IntKind.wrap .i64 (c8+(2:Int)))).bind fun y25 =>
   kr y25.1.1 y25.1.2.1 y25.1.2.2.1 y25.1.2.2.2.1 y25.1.2.2.2.2.1 y25.1.2.2.2.2.2.1 y25.2.1.1 y25.2.1.2.1
 else
  kn c0 c11 c12 ab0 ab1 ab2 ab3 ab4 ab5 bb0 bb1 cb0 cb1 cb2 db0 db1 db2 db3 db4 db5 ck0 ck1 ck2 ck3
noncomputable def F.zr.C27 {X:Type} (n:Nat) (kr:Z0→Int→Z2→Int→Z4→Int→Int→Int→Option X) (c0:Z0) (c11:Int) (c12:Int) (ab0:Z0) (ab1:Int) (ab2:Z2) (ab3:Int) (ab4:Z4) (ab5:Int) (bb0:Int) (bb1:Int) (cb0:Bool) (cb1:Int) (cb2:Int) (db0:Z0) (db1:Int) (db2:Z2) (db3:Int) (db4:Z4) (db5:Int) (ck0:Nat) (ck1:Nat) (ck2:Nat) (ck3:Nat):Option X:=
 bif decide (c11<(c0.length:Int)) then
  (F.za1 n (11:Int) c11).bind fun y29 =>
   kr y29.1.1 y29.1.2.1 y29.1.2.2.1 y29.1.2.2.2.1 y29.1.2.2.2.2.1 y29.1.2.2.2.2.2.1 y29.2.1.1 y29.2.1.2.1
 else
  kr db0 db1 db2 c12 db4 db5 (0:Int) (0:Int)
noncomputable def F.zr.C18 {X:Type} (n:Nat) (kr:Z0→Int→Z2→Int→Z4→Int→Int→Int→Option X) (c0:Z0) (c4:Int) (c8:Int) (c9:Int) (ab0:Z0) (ab1:Int) (ab2:Z2) (ab3:Int) (ab4:Z4) (ab5:Int) (bb0:Int) (bb1:Int) (cb0:Bool) (cb1:Int) (cb2:Int) (ck0:Nat) (ck1:Nat):Option X:=
 (sub c0 (0 : Int) c4).bind fun x37 =>
  bif c8==(c0.length:Int) then
   kr x37 c9 ([(cb0,cb1,cb2)]) (1000000:Int) [] (0:Int) (0:Int) (0:Int)
  else
  bif (IntKind.wrap .i64 (c8+(1:Int)))==(c0.length:Int) then
   (F.za1 n (11:Int) (IntKind.wrap .i64 (c8+(1:Int)))).bind fun y38 =>
    kr y38.1.1 y38.1.2.1 y38.1.2.2.1 y38.1.2.2.2.1 y38.1.2.2.2.2.1 y38.1.2.2.2.2.2.1 y38.2.1.1 y38.2.1.2.1
  else
   (idx c0 (IntKind.wrap .i64 (c8+(1:Int)))).bind fun x39 =>
    bif !(((x39).toNat)==(64:Int)) then
     (F.za1 n (11:Int) (IntKind.wrap .i64 (c8+(1:Int)))).bind fun y40 =>
      kr y40.1.1 y40.1.2.1 y40.1.2.2.1 y40.1.2.2.2.1 y40.1.2.2.2.2.1 y40.1.2.2.2.2.2.1 y40.2.1.1 y40.2.1.2.1
    else
     (F.zu n c0 (IntKind.wrap .i64 (c8+(2:Int))) (124:Int)).bind fun y41 =>
      (sub c0 (IntKind.wrap .i64 (c8+(2:Int))) y41).bind fun x42 =>
       (F.zak n x42).bind fun y43 =>
        bif !(y43.2.1.1==(0:Int)) then
         F.zr.C26 n
          (fun g0 g1 g2 g3 g4 g5 h0 h1 =>
           kr g0 g1 g2 g3 g4 g5 h0 h1)
          (fun e0 e11 e12 g0 g1 g2 g3 g4 g5 h0 h1 i0 i1 i2 j0 j1 j2 j3 j4 j5 ek0 ek1 ek2 ek3 =>
           F.zr.C27 n
            (fun g0 g1 g2 g3 g4 g5 h0 h1 =>
             kr g0 g1 g2 g3 g4 g5 h0 h1) e0 e11 e12 g0 g1 g2 g3 g4 g5 h0 h1 i0 i1 i2 j0 j1 j2 j3 j4 j5 ek0 ek1 ek2 ek3) c0 c8 y41 y43.1 true ab0 ab1 ab2 ab3 ab4 ab5 bb0 bb1 cb0 cb1 cb2 x37 c9 ([(cb0,cb1,cb2)]) (1000000:Int) [] (0:Int) ck0 ck1 1 0
        else
        bif c9==(2:Int) then
         F.zr.C26 n
          (fun g0 g1 g2 g3 g4 g5 h0 h1 =>
           kr g0 g1 g2 g3 g4 g5 h0 h1)
          (fun e0 e11 e12 g0 g1 g2 g3 g4 g5 h0 h1 i0 i1 i2 j0 j1 j2 j3 j4 j5 ek0 ek1 ek2 ek3 =>
           F.zr.C27 n
            (fun g0 g1 g2 g3 g4 g5 h0 h1 =>
             kr g0 g1 g2 g3 g4 g5 h0 h1) e0 e11 e12 g0 g1 g2 g3 g4 g5 h0 h1 i0 i1 i2 j0 j1 j2 j3 j4 j5 ek0 ek1 ek2 ek3) c0 c8 y41 y43.1 (!(y43.1==(1000000:Int))) ab0 ab1 ab2 ab3 ab4 ab5 bb0 bb1 cb0 cb1 cb2 x37 c9 ([(cb0,cb1,cb2)]) (1000000:Int) [] (0:Int) ck0 ck1 1 0
        else
         F.zr.C26 n
          (fun g0 g1 g2 g3 g4 g5 h0 h1 =>
           kr g0 g1 g2 g3 g4 g5 h0 h1)
          (fun e0 e11 e12 g0 g1 g2 g3 g4 g5 h0 h1 i0 i1 i2 j0 j1 j2 j3 j4 j5 ek0 ek1 ek2 ek3 =>
           F.zr.C27 n
            (fun g0 g1 g2 g3 g4 g5 h0 h1 =>
             kr g0 g1 g2 g3 g4 g5 h0 h1) e0 e11 e12 g0 g1 g2 g3 g4 g5 h0 h1 i0 i1 i2 j0 j1 j2 j3 j4 j5 ek0 ek1 ek2 ek3) c0 c8 y41 y43.1 false ab0 ab1 ab2 ab3 ab4 ab5 bb0 bb1 cb0 cb1 cb2 x37 c9 ([(cb0,cb1,cb2)]) (1000000:Int) [] (0:Int) ck0 ck1 1 0
noncomputable def F.zr (n:Nat) (a0:Z0):Option ((Z8)×(Z7)×Unit):=
 (F.zu n a0 (0 : Int) (58:Int)).bind fun y1 =>
  (sub a0 (0 : Int) y1).bind fun x2 =>
   (F.zb5 n x2).bind fun y3 =>
    bif !y3 then
     (F.za1 n (15:Int) (0:Int)).bind fun y4 =>
      some (((y4.1.1,y4.1.2.1,y4.1.2.2.1,y4.1.2.2.2.1,y4.1.2.2.2.2.1,y4.1.2.2.2.2.2.1,()),(y4.2.1.1,y4.2.1.2.1,()),()))
    else
    bif y1==(a0.length:Int) then
     (F.za1 n (11:Int) y1).bind fun y5 =>
      some (((y5.1.1,y5.1.2.1,y5.1.2.2.1,y5.1.2.2.2.1,y5.1.2.2.2.2.1,y5.1.2.2.2.2.2.1,()),(y5.2.1.1,y5.2.1.2.1,()),()))
    else
     (F.zu n a0 (IntKind.wrap .i64 (y1+(1:Int))) (124:Int)).bind fun y6 =>
      (sub a0 (IntKind.wrap .i64 (y1+(1:Int))) y6).bind fun x7 =>
       (F.zp n x7).bind fun y8 =>
        bif !(y8.2.1.1==(0:Int)) then
         (F.za1 n (17:Int) (IntKind.wrap .i64 (y1+(1:Int)))).bind fun y9 =>
          some (((y9.1.1,y9.1.2.1,y9.1.2.2.1,y9.1.2.2.2.1,y9.1.2.2.2.2.1,y9.1.2.2.2.2.2.1,()),(y9.2.1.1,y9.2.1.2.1,()),()))
        else
        bif y6==(a0.length:Int) then
         (F.za1 n (11:Int) y6).bind fun y10 =>
          some (((y10.1.1,y10.1.2.1,y10.1.2.2.1,y10.1.2.2.2.1,y10.1.2.2.2.2.1,y10.1.2.2.2.2.2.1,()),(y10.2.1.1,y10.2.1.2.1,()),()))
        else
         (F.zu n a0 (IntKind.wrap .i64 (y6+(1:Int))) (124:Int)).bind fun y11 =>
          (sub a0 (IntKind.wrap .i64 (y6+(1:Int))) y11).bind fun x12 =>
           (F.zan n x12).bind fun y13 =>
            bif y13==(0:Int) then
             (F.za1 n (16:Int) (IntKind.wrap .i64 (y6+(1:Int)))).bind fun y14 =>
              some (((y14.1.1,y14.1.2.1,y14.1.2.2.1,y14.1.2.2.2.1,y14.1.2.2.2.2.1,y14.1.2.2.2.2.2.1,()),(y14.2.1.1,y14.2.1.2.1,()),()))
            else
            bif y13==(2:Int) then
             (idx a0 (IntKind.wrap .i64 (y1+(1:Int)))).bind fun x15 =>
              bif ((x15).toNat)==(45:Int) then
               (F.za1 n (26:Int) (IntKind.wrap .i64 (y1+(1:Int)))).bind fun y16 =>
                some (((y16.1.1,y16.1.2.1,y16.1.2.2.1,y16.1.2.2.2.1,y16.1.2.2.2.2.1,y16.1.2.2.2.2.2.1,()),(y16.2.1.1,y16.2.1.2.1,()),()))
              else
               F.zr.C18 n
                (fun g0 g1 g2 g3 g4 g5 h0 h1 =>
                 some (((g0,g1,g2,g3,g4,g5,()),(h0,h1,()),()))) a0 y1 y11 y13 [] (0:Int) [] (0:Int) [] (0:Int) (0:Int) (0:Int) y8.1.1 y8.1.2.1 y8.1.2.2.1 0 0
            else
             F.zr.C18 n
              (fun g0 g1 g2 g3 g4 g5 h0 h1 =>
               some (((g0,g1,g2,g3,g4,g5,()),(h0,h1,()),()))) a0 y1 y11 y13 [] (0:Int) [] (0:Int) [] (0:Int) (0:Int) (0:Int) y8.1.1 y8.1.2.1 y8.1.2.2.1 0 0
noncomputable def F.z8.L2.step {X:Type} (n:Nat) (rec:Z0→Z0→Int→Option X) (k0:Z0→Z0→Option X) (kr:Bool→Option X) (v0:Z0) (v1:Z0) (v5:Int):Option X:=
 bif decide (v5<(v0.length:Int)) then
  bif decide (v5<(v1.length:Int)) then
   (idx v0 v5).bind fun x1 =>
    (idx v1 v5).bind fun x2 =>
     bif !(((x1).toNat:Int)==((x2).toNat)) then
      (idx v0 v5).bind fun x3 =>
       (idx v1 v5).bind fun x4 =>
        kr (decide (((x3).toNat:Int)<((x4).toNat)))
     else
      rec v0 v1 (IntKind.wrap .i64 (v5+(1:Int)))
  else
   k0 v0 v1
 else
  k0 v0 v1
noncomputable def F.z8.L2 {X:Type} (n:Nat) (k0:Z0→Z0→Option X) (kr:Bool→Option X):Nat→Z0→Z0→Int→Option X
 | 0=>fun _ _ _=>none
 | m+1=>fun v0 v1 v5=>F.z8.L2.step n (F.z8.L2 n k0 kr m) k0 kr v0 v1 v5
noncomputable def F.z8 (n:Nat) (a0:Z0) (a1:Z0):Option (Bool):=
 F.z8.L2 n
  (fun e0 e1 =>
   some (decide ((e0.length:Int)<(e1.length:Int))))
  (fun e4 =>
   some (e4)) n a0 a1 (0:Int)
noncomputable def F.zcl (n:Nat) (a0:Z15) (a1:Z15):Option (Bool):=
 (F.z8 n a0.1 a1.1).bind fun y1 =>
  bif y1 then
   some (true)
  else
  bif a0.1==a1.1 then
   (F.z8 n a0.2.1 a1.2.1).bind fun y2 =>
    some (y2)
  else
   some (false)
noncomputable def F.zh.L8.step {X:Type} (n:Nat) (rec:Z4→Z4→Int→Z4→Bool→Int→Nat→Nat→Option X) (k2:Z4→Int→Z4→Bool→Nat→Option X) (v0:Z4) (v3:Z4) (v4:Int) (v5:Z4) (v6:Bool) (v7:Int) (vk0:Nat) (vk1:Nat):Option X:=
 bif decide (v7 < (v3.length:Int)) then
  bif !v6 then
   (idx v3 v7).bind fun x1 =>
    (idx v0 v4).bind fun x2 =>
     (F.zcl n (x1.1,x1.2,()) (x2.1,x2.2,())).bind fun y3 =>
      bif !y3 then
       (idx v3 v7).bind fun x4 =>
        (idx v0 v4).bind fun x5 =>
         bif !((x4.1==x5.1)&&(x4.2==x5.2)) then
          (idx v0 v4).bind fun x6 =>
           bif decide ((v5.length+1)*32≤2 ^ 46)&&decide (0<32∧32≤2 ^ 20) then
            bif Nat.beq vk1 v5.length then
             (idx v3 v7).bind fun x7 =>
              bif decide ((((v5++([(x6.1,x6.2)])).length)+1)*32≤2 ^ 46)&&decide (0<32∧32≤2 ^ 20) then
               bif Nat.beq ((v5++([(x6.1,x6.2)])).length) ((v5++([(x6.1,x6.2)])).length) then
                rec v0 v3 v4 ((v5++([(x6.1,x6.2)]))++([(x7.1,x7.2)])) true (IntKind.wrap .i64 (v7+(1:Int))) vk0 (((v5++([(x6.1,x6.2)]))++([(x7.1,x7.2)])).length)
               else
                none
              else
               none
            else
             none
           else
            none
         else
          (idx v3 v7).bind fun x8 =>
           bif decide ((v5.length+1)*32≤2 ^ 46)&&decide (0<32∧32≤2 ^ 20) then
            bif Nat.beq vk1 v5.length then
             rec v0 v3 v4 (v5++([(x8.1,x8.2)])) true (IntKind.wrap .i64 (v7+(1:Int))) vk0 ((v5++([(x8.1,x8.2)])).length)
            else
             none
           else
            none
      else
       (idx v3 v7).bind fun x9 =>
        bif decide ((v5.length+1)*32≤2 ^ 46)&&decide (0<32∧32≤2 ^ 20) then
         bif Nat.beq vk1 v5.length then
          rec v0 v3 v4 (v5++([(x9.1,x9.2)])) v6 (IntKind.wrap .i64 (v7+(1:Int))) vk0 ((v5++([(x9.1,x9.2)])).length)
         else
          none
        else
         none
  else
   (idx v3 v7).bind fun x10 =>
    bif decide ((v5.length+1)*32≤2 ^ 46)&&decide (0<32∧32≤2 ^ 20) then
     bif Nat.beq vk1 v5.length then
      rec v0 v3 v4 (v5++([(x10.1,x10.2)])) v6 (IntKind.wrap .i64 (v7+(1:Int))) vk0 ((v5++([(x10.1,x10.2)])).length)
     else
      none
    else
     none
 else
  k2 v0 v4 v5 v6 vk1
noncomputable def F.zh.L8 {X:Type} (n:Nat) (k2:Z4→Int→Z4→Bool→Nat→Option X):Nat→Z4→Z4→Int→Z4→Bool→Int→Nat→Nat→Option X
 | 0=>fun _ _ _ _ _ _ _ _=>none
 | m+1=>fun v0 v3 v4 v5 v6 v7 vk0 vk1=>F.zh.L8.step n (F.zh.L8 n k2 m) k2 v0 v3 v4 v5 v6 v7 vk0 vk1
noncomputable def F.zh.L3.step {X:Type} (n:Nat) (rec:Z4→Z4→Int→Nat→Option X) (k0:Z4→Nat→Option X) (v0:Z4) (v3:Z4) (v4:Int) (vk0:Nat):Option X:=
 bif decide (v4<(v0.length:Int)) then
  F.zh.L8 n
   (fun e0 e4 e5 e6 ek0 =>
    bif !e6 then
     (idx e0 e4).bind fun x12 =>
      bif decide ((e5.length+1)*32≤2 ^ 46)&&decide (0<32∧32≤2 ^ 20) then
       bif Nat.beq ek0 e5.length then
        rec e0 (e5++([(x12.1,x12.2)])) (IntKind.wrap .i64 (e4+(1:Int))) ((e5++([(x12.1,x12.2)])).length)
       else
        none
      else
       none
    else
     rec e0 e5 (IntKind.wrap .i64 (e4+(1:Int))) ek0) n v0 v3 v4 [] false (0:Int) vk0 0
 else
  k0 v3 vk0
noncomputable def F.zh.L3 {X:Type} (n:Nat) (k0:Z4→Nat→Option X):Nat→Z4→Z4→Int→Nat→Option X
 | 0=>fun _ _ _ _=>none
 | m+1=>fun v0 v3 v4 vk0=>F.zh.L3.step n (F.zh.L3 n k0 m) k0 v0 v3 v4 vk0
noncomputable def F.zh (n:Nat) (a0:Z4):Option (Z4):=
 F.zh.L3 n
  (fun e3 ek0 =>
   some (e3)) n a0 [] (0:Int) 0
noncomputable def F.zat.L3.step {X:Type} (n:Nat) (rec:Z0→Int→Int→Z12→Int→Z19→Z19→Option X) (k0:Z12→Z19→Z19→Option X) (v0:Z0) (v1:Int) (v2:Int) (v7:Z12) (v8:Int) (ab0:Z19) (bb0:Z19):Option X:=
 bif decide (v8<(v0.length:Int)) then
  (idx v0 v8).bind fun x1 =>
   bif ((x1).toNat)==v1 then
    bif Nat.beq v7.1 bb0.1 then
     bif decide ((bb0.2.length+1)*24≤2 ^ 46)&&decide (0<24∧24≤2 ^ 20) then
      rec v0 v1 v2 (v7.1+1,(bb0.2++([(IntKind.wrap .i64 ((IntKind.wrap .i64 (v2+v8))+(1:Int)),[])])).length) (IntKind.wrap .i64 (v8+(1:Int))) (ab0.1,ab0.2) (v7.1+1,bb0.2++([(IntKind.wrap .i64 ((IntKind.wrap .i64 (v2+v8))+(1:Int)),[])]))
     else
      none
    else
     none
   else
   bif decide (0≤(IntKind.wrap .i64 (((v7.2:Nat):Int) - (1:Int))))&&decide ((IntKind.wrap .i64 (((v7.2:Nat):Int) - (1:Int)))<((v7.2:Nat):Int)) then
    bif Nat.beq v7.1 bb0.1 then
     (idx bb0.2 (IntKind.wrap .i64 (((v7.2:Nat):Int) - (1:Int)))).bind fun x2 =>
      (sub v0 v8 (IntKind.wrap .i64 (v8+(1:Int)))).bind fun x3 =>
       bif decide (x2.2.length+x3.length≤strMax) then
        bif decide (0≤(IntKind.wrap .i64 (((v7.2:Nat):Int) - (1:Int))))&&decide ((IntKind.wrap .i64 (((v7.2:Nat):Int) - (1:Int)))<((v7.2:Nat):Int)) then
         bif Nat.beq v7.1 bb0.1 then
          (idx bb0.2 (IntKind.wrap .i64 (((v7.2:Nat):Int) - (1:Int)))).bind fun x4 =>
           rec v0 v1 v2 (v7.1,v7.2) (IntKind.wrap .i64 (v8+(1:Int))) (ab0.1,ab0.2) (v7.1,upd bb0.2 (Int.toNat (IntKind.wrap .i64 (((v7.2:Nat):Int) - (1:Int)))) (x4.1,x2.2++x3))
         else
          none
        else
         none
       else
        none
    else
     none
   else
    none
 else
  k0 (v7.1,v7.2) (ab0.1,ab0.2) (bb0.1,bb0.2)
noncomputable def F.zat.L3 {X:Type} (n:Nat) (k0:Z12→Z19→Z19→Option X):Nat→Z0→Int→Int→Z12→Int→Z19→Z19→Option X
 | 0=>fun _ _ _ _ _ _ _=>none
 | m+1=>fun v0 v1 v2 v7 v8 ab0 bb0=>F.zat.L3.step n (F.zat.L3 n k0 m) k0 v0 v1 v2 v7 v8 ab0 bb0
noncomputable def F.zat (n:Nat) (a0:Z0) (a1:Int) (a2:Int):Option (Z18):=
 F.zat.L3 n
  (fun e7 g0 h0 =>
   bif Nat.beq e7.1 h0.1 then
    some (h0.2)
   else
    none) n a0 a1 a2 (1,1) (0:Int) (1,[]) (1,[(a2,[])])
noncomputable def F.zbz (n:Nat):Option (Z10):=
 some ([[99],[103],[109,115],[104],[100]])
noncomputable def F.za6.L3.step {X:Type} (n:Nat) (rec:Z0→Z10→Int→Option X) (k0:Unit→Option X) (kr:Int→Option X) (v0:Z0) (v3:Z10) (v4:Int):Option X:=
 bif decide (v4<(v3.length:Int)) then
  (idx v3 v4).bind fun x2 =>
   bif x2==v0 then
    kr (IntKind.wrap .i64 (v4+(1:Int)))
   else
    rec v0 v3 (IntKind.wrap .i64 (v4+(1:Int)))
 else
  k0 ()
noncomputable def F.za6.L3 {X:Type} (n:Nat) (k0:Unit→Option X) (kr:Int→Option X):Nat→Z0→Z10→Int→Option X
 | 0=>fun _ _ _=>none
 | m+1=>fun v0 v3 v4=>F.za6.L3.step n (F.za6.L3 n k0 kr m) k0 kr v0 v3 v4
noncomputable def F.za6 (n:Nat) (a0:Z0):Option (Int):=
 (F.zbz n ).bind fun y1 =>
  F.za6.L3 n
   (fun (_:Unit) =>
    some ((0:Int)))
   (fun e2 =>
    some (e2)) n a0 y1 (0:Int)
noncomputable def F.zcd (n:Nat) (a0:Z0) (a1:Int) (a2:Int):Option ((Int)×(Z7)×Unit):=
 bif a0==[] then
  some (((0:Int),((13:Int),(0:Int),()),()))
 else
  (F.zas n (4:Int) a0).bind fun y1 =>
   bif decide (y1≥(0:Int)) then
    some (((0:Int),((14:Int),y1,()),()))
   else
    (idx a0 (0:Int)).bind fun x2 =>
     bif ((x2).toNat)==(48:Int) then
      bif decide ((a0.length:Int)>(1:Int)) then
       some (((0:Int),((11:Int),(0:Int),()),()))
      else
       (F.z7 n a0).bind fun y3 =>
        bif !y3.2.1 then
         some (((0:Int),((10:Int),(0:Int),()),()))
        else
        bif decide (y3.1<a1) then
         some (((0:Int),((10:Int),(0:Int),()),()))
        else
        bif decide (y3.1>a2) then
         some (((0:Int),((10:Int),(0:Int),()),()))
        else
         some ((y3.1,((0:Int),(0:Int),()),()))
     else
      (F.z7 n a0).bind fun y4 =>
       bif !y4.2.1 then
        some (((0:Int),((10:Int),(0:Int),()),()))
       else
       bif decide (y4.1<a1) then
        some (((0:Int),((10:Int),(0:Int),()),()))
       else
       bif decide (y4.1>a2) then
        some (((0:Int),((10:Int),(0:Int),()),()))
       else
        some ((y4.1,((0:Int),(0:Int),()),()))
noncomputable def F.zbq (n:Nat) (a0:Z0):Option ((Int)×(Z7)×Unit):=
 (F.zcd n a0 (1:Int) (1099511627776:Int)).bind fun y1 =>
  some ((y1.1,(y1.2.1.1,y1.2.1.2.1,()),()))
noncomputable def F.zae.L2.step {X:Type} (n:Nat) (rec:Z0→Int→Option X) (k0:Z0→Option X) (kr:Bool→Option X) (v0:Z0) (v3:Int):Option X:=
 bif decide (v3<(v0.length:Int)) then
  (idx v0 v3).bind fun x1 =>
   bif decide (((x1).toNat)≥(97:Int)) then
    bif decide (((x1).toNat)≤(122:Int)) then
     rec v0 (IntKind.wrap .i64 (v3+(1:Int)))
    else
    bif decide (((x1).toNat)≥(65:Int)) then
     bif decide (((x1).toNat)≤(90:Int)) then
      rec v0 (IntKind.wrap .i64 (v3+(1:Int)))
     else
     bif decide (((x1).toNat)≥(48:Int)) then
      bif decide (((x1).toNat)≤(57:Int)) then
       rec v0 (IntKind.wrap .i64 (v3+(1:Int)))
      else
      bif ((x1).toNat)==(95:Int) then
       rec v0 (IntKind.wrap .i64 (v3+(1:Int)))
      else
      bif ((x1).toNat)==(46:Int) then
       rec v0 (IntKind.wrap .i64 (v3+(1:Int)))
      else
      bif !(((x1).toNat)==(45:Int)) then
       kr false
      else
       rec v0 (IntKind.wrap .i64 (v3+(1:Int)))
     else
     bif ((x1).toNat)==(95:Int) then
      rec v0 (IntKind.wrap .i64 (v3+(1:Int)))
     else
     bif ((x1).toNat)==(46:Int) then
      rec v0 (IntKind.wrap .i64 (v3+(1:Int)))
     else
     bif !(((x1).toNat)==(45:Int)) then
      kr false
     else
      rec v0 (IntKind.wrap .i64 (v3+(1:Int)))
    else
    bif decide (((x1).toNat)≥(48:Int)) then
     bif decide (((x1).toNat)≤(57:Int)) then
      rec v0 (IntKind.wrap .i64 (v3+(1:Int)))
     else
     bif ((x1).toNat)==(95:Int) then
      rec v0 (IntKind.wrap .i64 (v3+(1:Int)))
     else
     bif ((x1).toNat)==(46:Int) then
      rec v0 (IntKind.wrap .i64 (v3+(1:Int)))
     else
     bif !(((x1).toNat)==(45:Int)) then
      kr false
     else
      rec v0 (IntKind.wrap .i64 (v3+(1:Int)))
    else
    bif ((x1).toNat)==(95:Int) then
     rec v0 (IntKind.wrap .i64 (v3+(1:Int)))
    else
    bif ((x1).toNat)==(46:Int) then
     rec v0 (IntKind.wrap .i64 (v3+(1:Int)))
    else
    bif !(((x1).toNat)==(45:Int)) then
     kr false
    else
     rec v0 (IntKind.wrap .i64 (v3+(1:Int)))
   else
   bif decide (((x1).toNat)≥(65:Int)) then
    bif decide (((x1).toNat)≤(90:Int)) then
     rec v0 (IntKind.wrap .i64 (v3+(1:Int)))
    else
    bif decide (((x1).toNat)≥(48:Int)) then
     bif decide (((x1).toNat)≤(57:Int)) then
      rec v0 (IntKind.wrap .i64 (v3+(1:Int)))
     else
     bif ((x1).toNat)==(95:Int) then
      rec v0 (IntKind.wrap .i64 (v3+(1:Int)))
     else
     bif ((x1).toNat)==(46:Int) then
      rec v0 (IntKind.wrap .i64 (v3+(1:Int)))
     else
     bif !(((x1).toNat)==(45:Int)) then
      kr false
     else
      rec v0 (IntKind.wrap .i64 (v3+(1:Int)))
    else
    bif ((x1).toNat)==(95:Int) then
     rec v0 (IntKind.wrap .i64 (v3+(1:Int)))
    else
    bif ((x1).toNat)==(46:Int) then
     rec v0 (IntKind.wrap .i64 (v3+(1:Int)))
    else
    bif !(((x1).toNat)==(45:Int)) then
     kr false
    else
     rec v0 (IntKind.wrap .i64 (v3+(1:Int)))
   else
   bif decide (((x1).toNat)≥(48:Int)) then
    bif decide (((x1).toNat)≤(57:Int)) then
     rec v0 (IntKind.wrap .i64 (v3+(1:Int)))
    else
    bif ((x1).toNat)==(95:Int) then
     rec v0 (IntKind.wrap .i64 (v3+(1:Int)))
    else
    bif ((x1).toNat)==(46:Int) then
     rec v0 (IntKind.wrap .i64 (v3+(1:Int)))
    else
    bif !(((x1).toNat)==(45:Int)) then
     kr false
    else
     rec v0 (IntKind.wrap .i64 (v3+(1:Int)))
   else
   bif ((x1).toNat)==(95:Int) then
    rec v0 (IntKind.wrap .i64 (v3+(1:Int)))
   else
   bif ((x1).toNat)==(46:Int) then
    rec v0 (IntKind.wrap .i64 (v3+(1:Int)))
   else
   bif !(((x1).toNat)==(45:Int)) then
    kr false
   else
    rec v0 (IntKind.wrap .i64 (v3+(1:Int)))
 else
  k0 v0
noncomputable def F.zae.L2 {X:Type} (n:Nat) (k0:Z0→Option X) (kr:Bool→Option X):Nat→Z0→Int→Option X
 | 0=>fun _ _=>none
 | m+1=>fun v0 v3=>F.zae.L2.step n (F.zae.L2 n k0 kr m) k0 kr v0 v3
noncomputable def F.zae (n:Nat) (a0:Z0):Option (Bool):=
 F.zae.L2 n
  (fun e0 =>
   bif decide ((e0.length:Int)≥(1:Int)) then
    some (decide ((e0.length:Int)≤(200:Int)))
   else
    some (false))
  (fun e2 =>
   some (e2)) n a0 (0:Int)
noncomputable def F.zbd (n:Nat) (a0:Z15):Option (Bool):=
 (F.zbw n (2:Int) a0.1 (1:Int) (64:Int)).bind fun y1 =>
  bif (y1.1==(0:Int))&&(y1.2.1==(0:Int)) then
   (F.zbw n (3:Int) a0.2.1 (0:Int) (100:Int)).bind fun y2 =>
    some ((y2.1==(0:Int))&&(y2.2.1==(0:Int)))
  else
   some (false)
noncomputable def F.zbn (n:Nat) (a0:Z15):Option (Z0):=
 bif a0.2.1==[] then
  some (a0.1)
 else
 bif decide (a0.1.length+1≤strMax) then
  bif decide (((a0.1++([58])).length)+a0.2.1.length≤strMax) then
   some ((a0.1++([58]))++a0.2.1)
  else
   none
 else
  none
noncomputable def F.zk.L10.step {X:Type} (n:Nat) (rec:Z0→Z4→Int→Int→Z0→Int→Int→Int→Z0→Z0→Nat→Option X) (k2:Z0→Z4→Int→Int→Z0→Int→Int→Z0→Z0→Nat→Option X) (v0:Z0) (v4:Z4) (v5:Int) (v6:Int) (v7:Z0) (v9:Int) (ab0:Int) (ab1:Int) (bb0:Z0) (bb1:Z0) (vk0:Nat):Option X:=
 bif decide (v9≥(0:Int)) then
  (idx v7 v9).bind fun x3 =>
   bif ((x3).toNat)==(58:Int) then
    (sub v7 (0:Int) v9).bind fun x4 =>
     (sub v7 (IntKind.wrap .i64 (v9+(1:Int))) (v7.length:Int)).bind fun x5 =>
      rec v0 v4 v5 v6 v7 (IntKind.wrap .i64 (v9 - (1:Int))) ab0 ab1 x4 x5 vk0
   else
    rec v0 v4 v5 v6 v7 (IntKind.wrap .i64 (v9 - (1:Int))) ab0 ab1 bb0 bb1 vk0
 else
  k2 v0 v4 v5 v6 v7 ab0 ab1 bb0 bb1 vk0
noncomputable def F.zk.L10 {X:Type} (n:Nat) (k2:Z0→Z4→Int→Int→Z0→Int→Int→Z0→Z0→Nat→Option X):Nat→Z0→Z4→Int→Int→Z0→Int→Int→Int→Z0→Z0→Nat→Option X
 | 0=>fun _ _ _ _ _ _ _ _ _ _ _=>none
 | m+1=>fun v0 v4 v5 v6 v7 v9 ab0 ab1 bb0 bb1 vk0=>F.zk.L10.step n (F.zk.L10 n k2 m) k2 v0 v4 v5 v6 v7 v9 ab0 ab1 bb0 bb1 vk0
noncomputable def F.zk.L4.step {X:Type} (n:Nat) (rec:Z0→Z4→Int→Int→Int→Int→Nat→Option X) (k0:Z4→Int→Int→Nat→Option X) (kr:Z4→Int→Int→Nat→Option X) (v0:Z0) (v4:Z4) (v5:Int) (v6:Int) (ab0:Int) (ab1:Int) (vk0:Nat):Option X:=
 bif decide (v6≤(v0.length:Int)) then
  bif decide (v6<(v0.length:Int)) then
   (idx v0 v6).bind fun x1 =>
    bif !(((x1).toNat)==(44:Int)) then
     rec v0 v4 v5 (IntKind.wrap .i64 (v6+(1:Int))) ab0 ab1 vk0
    else
     (sub v0 v5 v6).bind fun x2 =>
      F.zk.L10 n
       (fun e0 e4 e5 e6 e7 g0 g1 h0 h1 ek0 =>
        (F.zbd n (h0,h1,())).bind fun y7 =>
         bif !y7 then
          kr [] (19:Int) e5 0
         else
          (F.zbn n (h0,h1,())).bind fun y8 =>
           bif !(y8==e7) then
            kr [] (19:Int) e5 0
           else
           bif decide ((e4.length+1)*32≤2 ^ 46)&&decide (0<32∧32≤2 ^ 20) then
            bif Nat.beq ek0 e4.length then
             rec e0 (e4++([(h0,h1)])) (IntKind.wrap .i64 (e6+(1:Int))) (IntKind.wrap .i64 (e6+(1:Int))) g0 g1 ((e4++([(h0,h1)])).length)
            else
             none
           else
            none) n v0 v4 v5 v6 x2 (IntKind.wrap .i64 ((x2.length:Int) - (1:Int))) ab0 ab1 x2 [] vk0
  else
   (sub v0 v5 v6).bind fun x9 =>
    F.zk.L10 n
     (fun e0 e4 e5 e6 e7 g0 g1 h0 h1 ek0 =>
      (F.zbd n (h0,h1,())).bind fun y11 =>
       bif !y11 then
        kr [] (19:Int) e5 0
       else
        (F.zbn n (h0,h1,())).bind fun y12 =>
         bif !(y12==e7) then
          kr [] (19:Int) e5 0
         else
         bif decide ((e4.length+1)*32≤2 ^ 46)&&decide (0<32∧32≤2 ^ 20) then
          bif Nat.beq ek0 e4.length then
           rec e0 (e4++([(h0,h1)])) (IntKind.wrap .i64 (e6+(1:Int))) (IntKind.wrap .i64 (e6+(1:Int))) g0 g1 ((e4++([(h0,h1)])).length)
          else
           none
         else
          none) n v0 v4 v5 v6 x9 (IntKind.wrap .i64 ((x9.length:Int) - (1:Int))) ab0 ab1 x9 [] vk0
 else
  k0 v4 ab0 ab1 vk0
noncomputable def F.zk.L4 {X:Type} (n:Nat) (k0:Z4→Int→Int→Nat→Option X) (kr:Z4→Int→Int→Nat→Option X):Nat→Z0→Z4→Int→Int→Int→Int→Nat→Option X
 | 0=>fun _ _ _ _ _ _ _=>none
 | m+1=>fun v0 v4 v5 v6 ab0 ab1 vk0=>F.zk.L4.step n (F.zk.L4 n k0 kr m) k0 kr v0 v4 v5 v6 ab0 ab1 vk0
noncomputable def F.zk (n:Nat) (a0:Z0):Option ((Z4)×(Z7)×Unit):=
 F.zk.L4 n
  (fun e4 g0 g1 ek0 =>
   some ((e4,((0:Int),(0:Int),()),())))
  (fun e2 g0 g1 ek0 =>
   some ((e2,(g0,g1,()),()))) n a0 [] (0:Int) (0:Int) (0:Int) (0:Int) 0
noncomputable def F.za.C19 {X:Type} (n:Nat) (kr:Z0→Int→Z2→Int→Z4→Int→Int→Int→Z0→Int→Z2→Int→Z4→Int→Z0→Int→Z2→Int→Z4→Int→Int→Z0→Int→Int→Int→Int→Nat→Nat→Nat→Option X) (kn:Z18→Int→Int→Z0→Int→Z2→Int→Z4→Int→Int→Int→Z0→Int→Z2→Int→Z4→Int→Z0→Int→Z2→Int→Z4→Int→Int→Z0→Int→Int→Int→Int→Nat→Nat→Nat→Nat→Nat→Option X) (c5:Z18) (c8:Int) (c9:Int) (c10:Int) (c11:Int) (ab0:Z0) (ab1:Int) (ab2:Z2) (ab3:Int) (ab4:Z4) (ab5:Int) (bb0:Int) (bb1:Int) (cb0:Z0) (cb1:Int) (cb2:Z2) (cb3:Int) (cb4:Z4) (cb5:Int) (db0:Z0) (db1:Int) (db2:Z2) (db3:Int) (db4:Z4) (db5:Int) (hb0:Int) (hb1:Z0) (ib0:Int) (ib1:Int) (jb0:Int) (jb1:Int) (ck0:Nat) (ck1:Nat) (ck2:Nat) (ck3:Nat) (ck4:Nat):Option X:=
 bif decide (c10≤c8) then
  (idx c5 c9).bind fun x12 =>
   kr cb0 cb1 cb2 cb3 cb4 cb5 (11:Int) x12.1 cb0 cb1 cb2 cb3 cb4 cb5 db0 db1 db2 db3 db4 db5 hb0 hb1 ib0 ib1 jb0 jb1 ck2 ck3 ck4
 else
 bif !(c11==(0:Int)) then
  (idx c5 c9).bind fun x13 =>
   kr cb0 cb1 cb2 cb3 cb4 cb5 c11 x13.1 cb0 cb1 cb2 cb3 cb4 cb5 db0 db1 db2 db3 db4 db5 hb0 hb1 ib0 ib1 jb0 jb1 ck2 ck3 ck4
 else
  kn c5 c10 c9 ab0 ab1 ab2 ab3 ab4 ab5 bb0 bb1 cb0 cb1 cb2 cb3 cb4 cb5 db0 db1 db2 db3 db4 db5 hb0 hb1 ib0 ib1 jb0 jb1 ck0 ck1 ck2 ck3 ck4
noncomputable def F.za.L16.step {X:Type} (n:Nat) (rec:Z18→Int→Int→Z0→Int→Z2→Int→Z4→Int→Int→Int→Z0→Int→Z2→Int→Z4→Int→Z0→Int→Z2→Int→Z4→Int→Int→Z0→Int→Int→Int→Int→Nat→Nat→Nat→Nat→Nat→Option X) (k0:Z0→Int→Z2→Int→Z4→Int→Int→Int→Z0→Int→Z2→Int→Z4→Int→Z0→Int→Z2→Int→Z4→Int→Int→Z0→Int→Int→Int→Int→Nat→Nat→Nat→Nat→Nat→Option X) (kr:Z0→Int→Z2→Int→Z4→Int→Int→Int→Z0→Int→Z2→Int→Z4→Int→Z0→Int→Z2→Int→Z4→Int→Int→Z0→Int→Int→Int→Int→Nat→Nat→Nat→Option X) (v5:Z18) (v8:Int) (v9:Int) (ab0:Z0) (ab1:Int) (ab2:Z2) (ab3:Int) (ab4:Z4) (ab5:Int) (bb0:Int) (bb1:Int) (cb0:Z0) (cb1:Int) (cb2:Z2) (cb3:Int) (cb4:Z4) (cb5:Int) (db0:Z0) (db1:Int) (db2:Z2) (db3:Int) (db4:Z4) (db5:Int) (hb0:Int) (hb1:Z0) (ib0:Int) (ib1:Int) (jb0:Int) (jb1:Int) (vk0:Nat) (vk1:Nat) (vk2:Nat) (vk3:Nat) (vk4:Nat):Option X:=
 bif decide (v9<(v5.length:Int)) then
  (idx v5 v9).bind fun x9 =>
   bif x9.2==[] then
    F.za.C19 n
     (fun g0 g1 g2 g3 g4 g5 h0 h1 i0 i1 i2 i3 i4 i5 j0 j1 j2 j3 j4 j5 l0 l1 o0 o1 p0 p1 ek0 ek1 ek4 =>
      kr g0 g1 g2 g3 g4 g5 h0 h1 i0 i1 i2 i3 i4 i5 j0 j1 j2 j3 j4 j5 l0 l1 o0 o1 p0 p1 ek0 ek1 ek4)
     (fun e5 e8 e9 g0 g1 g2 g3 g4 g5 h0 h1 i0 i1 i2 i3 i4 i5 j0 j1 j2 j3 j4 j5 l0 l1 o0 o1 p0 p1 ek0 ek1 ek2 ek3 ek4 =>
      rec e5 e8 (IntKind.wrap .i64 (e9+(1:Int))) g0 g1 g2 g3 g4 g5 h0 h1 i0 i1 i2 i3 i4 i5 j0 j1 j2 j3 j4 j5 l0 l1 o0 o1 p0 p1 ek0 ek1 ek2 ek3 ek4) v5 v8 v9 (0:Int) (11:Int) ab0 ab1 ab2 ab3 ab4 ab5 bb0 bb1 cb0 cb1 cb2 cb3 cb4 cb5 db0 db1 db2 db3 db4 db5 hb0 hb1 ib0 ib1 jb0 jb1 vk0 vk1 vk2 vk3 vk4
   else
    (sub x9.2 (1:Int) (x9.2.length:Int)).bind fun x16 =>
     (idx x9.2 (0:Int)).bind fun x17 =>
      bif ((x17).toNat)==(64:Int) then
       (F.zak n x16).bind fun y18 =>
        bif !((y18.2.1.1==(0:Int))&&(y18.2.1.2.1==(0:Int))) then
         F.za.C19 n
          (fun g0 g1 g2 g3 g4 g5 h0 h1 i0 i1 i2 i3 i4 i5 j0 j1 j2 j3 j4 j5 l0 l1 o0 o1 p0 p1 ek0 ek1 ek4 =>
           kr g0 g1 g2 g3 g4 g5 h0 h1 i0 i1 i2 i3 i4 i5 j0 j1 j2 j3 j4 j5 l0 l1 o0 o1 p0 p1 ek0 ek1 ek4)
          (fun e5 e8 e9 g0 g1 g2 g3 g4 g5 h0 h1 i0 i1 i2 i3 i4 i5 j0 j1 j2 j3 j4 j5 l0 l1 o0 o1 p0 p1 ek0 ek1 ek2 ek3 ek4 =>
           rec e5 e8 (IntKind.wrap .i64 (e9+(1:Int))) g0 g1 g2 g3 g4 g5 h0 h1 i0 i1 i2 i3 i4 i5 j0 j1 j2 j3 j4 j5 l0 l1 o0 o1 p0 p1 ek0 ek1 ek2 ek3 ek4) v5 v8 v9 (1:Int) (18:Int) ab0 ab1 ab2 ab3 ab4 ab5 bb0 bb1 cb0 cb1 cb2 cb3 cb4 cb5 db0 db1 db2 y18.1 db4 db5 hb0 hb1 ib0 ib1 jb0 jb1 vk0 vk1 vk2 vk3 vk4
        else
        bif db1==(2:Int) then
         bif !(y18.1==(1000000:Int)) then
          F.za.C19 n
           (fun g0 g1 g2 g3 g4 g5 h0 h1 i0 i1 i2 i3 i4 i5 j0 j1 j2 j3 j4 j5 l0 l1 o0 o1 p0 p1 ek0 ek1 ek4 =>
            kr g0 g1 g2 g3 g4 g5 h0 h1 i0 i1 i2 i3 i4 i5 j0 j1 j2 j3 j4 j5 l0 l1 o0 o1 p0 p1 ek0 ek1 ek4)
           (fun e5 e8 e9 g0 g1 g2 g3 g4 g5 h0 h1 i0 i1 i2 i3 i4 i5 j0 j1 j2 j3 j4 j5 l0 l1 o0 o1 p0 p1 ek0 ek1 ek2 ek3 ek4 =>
            rec e5 e8 (IntKind.wrap .i64 (e9+(1:Int))) g0 g1 g2 g3 g4 g5 h0 h1 i0 i1 i2 i3 i4 i5 j0 j1 j2 j3 j4 j5 l0 l1 o0 o1 p0 p1 ek0 ek1 ek2 ek3 ek4) v5 v8 v9 (1:Int) (18:Int) ab0 ab1 ab2 ab3 ab4 ab5 bb0 bb1 cb0 cb1 cb2 cb3 cb4 cb5 db0 db1 db2 y18.1 db4 db5 hb0 hb1 ib0 ib1 jb0 jb1 vk0 vk1 vk2 vk3 vk4
         else
          F.za.C19 n
           (fun g0 g1 g2 g3 g4 g5 h0 h1 i0 i1 i2 i3 i4 i5 j0 j1 j2 j3 j4 j5 l0 l1 o0 o1 p0 p1 ek0 ek1 ek4 =>
            kr g0 g1 g2 g3 g4 g5 h0 h1 i0 i1 i2 i3 i4 i5 j0 j1 j2 j3 j4 j5 l0 l1 o0 o1 p0 p1 ek0 ek1 ek4)
           (fun e5 e8 e9 g0 g1 g2 g3 g4 g5 h0 h1 i0 i1 i2 i3 i4 i5 j0 j1 j2 j3 j4 j5 l0 l1 o0 o1 p0 p1 ek0 ek1 ek2 ek3 ek4 =>
            rec e5 e8 (IntKind.wrap .i64 (e9+(1:Int))) g0 g1 g2 g3 g4 g5 h0 h1 i0 i1 i2 i3 i4 i5 j0 j1 j2 j3 j4 j5 l0 l1 o0 o1 p0 p1 ek0 ek1 ek2 ek3 ek4) v5 v8 v9 (1:Int) (0:Int) ab0 ab1 ab2 ab3 ab4 ab5 bb0 bb1 cb0 cb1 cb2 cb3 cb4 cb5 db0 db1 db2 y18.1 db4 db5 hb0 hb1 ib0 ib1 jb0 jb1 vk0 vk1 vk2 vk3 vk4
        else
         F.za.C19 n
          (fun g0 g1 g2 g3 g4 g5 h0 h1 i0 i1 i2 i3 i4 i5 j0 j1 j2 j3 j4 j5 l0 l1 o0 o1 p0 p1 ek0 ek1 ek4 =>
           kr g0 g1 g2 g3 g4 g5 h0 h1 i0 i1 i2 i3 i4 i5 j0 j1 j2 j3 j4 j5 l0 l1 o0 o1 p0 p1 ek0 ek1 ek4)
          (fun e5 e8 e9 g0 g1 g2 g3 g4 g5 h0 h1 i0 i1 i2 i3 i4 i5 j0 j1 j2 j3 j4 j5 l0 l1 o0 o1 p0 p1 ek0 ek1 ek2 ek3 ek4 =>
           rec e5 e8 (IntKind.wrap .i64 (e9+(1:Int))) g0 g1 g2 g3 g4 g5 h0 h1 i0 i1 i2 i3 i4 i5 j0 j1 j2 j3 j4 j5 l0 l1 o0 o1 p0 p1 ek0 ek1 ek2 ek3 ek4) v5 v8 v9 (1:Int) (0:Int) ab0 ab1 ab2 ab3 ab4 ab5 bb0 bb1 cb0 cb1 cb2 cb3 cb4 cb5 db0 db1 db2 y18.1 db4 db5 hb0 hb1 ib0 ib1 jb0 jb1 vk0 vk1 vk2 vk3 vk4
      else
      bif ((x17).toNat)==(35:Int) then
       (F.zk n x16).bind fun y27 =>
        (F.zh n y27.1).bind fun y28 =>
         bif !((y27.2.1.1==(0:Int))&&(y27.2.1.2.1==(0:Int))) then
          F.za.C19 n
           (fun g0 g1 g2 g3 g4 g5 h0 h1 i0 i1 i2 i3 i4 i5 j0 j1 j2 j3 j4 j5 l0 l1 o0 o1 p0 p1 ek0 ek1 ek4 =>
            kr g0 g1 g2 g3 g4 g5 h0 h1 i0 i1 i2 i3 i4 i5 j0 j1 j2 j3 j4 j5 l0 l1 o0 o1 p0 p1 ek0 ek1 ek4)
           (fun e5 e8 e9 g0 g1 g2 g3 g4 g5 h0 h1 i0 i1 i2 i3 i4 i5 j0 j1 j2 j3 j4 j5 l0 l1 o0 o1 p0 p1 ek0 ek1 ek2 ek3 ek4 =>
            rec e5 e8 (IntKind.wrap .i64 (e9+(1:Int))) g0 g1 g2 g3 g4 g5 h0 h1 i0 i1 i2 i3 i4 i5 j0 j1 j2 j3 j4 j5 l0 l1 o0 o1 p0 p1 ek0 ek1 ek2 ek3 ek4) v5 v8 v9 (2:Int) (19:Int) ab0 ab1 ab2 ab3 ab4 ab5 bb0 bb1 cb0 cb1 cb2 cb3 cb4 cb5 db0 db1 db2 db3 y28 db5 hb0 hb1 ib0 ib1 jb0 jb1 vk0 vk1 vk2 vk3 vk4
         else
         bif decide ((y27.1.length:Int)>(32:Int)) then
          F.za.C19 n
           (fun g0 g1 g2 g3 g4 g5 h0 h1 i0 i1 i2 i3 i4 i5 j0 j1 j2 j3 j4 j5 l0 l1 o0 o1 p0 p1 ek0 ek1 ek4 =>
            kr g0 g1 g2 g3 g4 g5 h0 h1 i0 i1 i2 i3 i4 i5 j0 j1 j2 j3 j4 j5 l0 l1 o0 o1 p0 p1 ek0 ek1 ek4)
           (fun e5 e8 e9 g0 g1 g2 g3 g4 g5 h0 h1 i0 i1 i2 i3 i4 i5 j0 j1 j2 j3 j4 j5 l0 l1 o0 o1 p0 p1 ek0 ek1 ek2 ek3 ek4 =>
            rec e5 e8 (IntKind.wrap .i64 (e9+(1:Int))) g0 g1 g2 g3 g4 g5 h0 h1 i0 i1 i2 i3 i4 i5 j0 j1 j2 j3 j4 j5 l0 l1 o0 o1 p0 p1 ek0 ek1 ek2 ek3 ek4) v5 v8 v9 (2:Int) (19:Int) ab0 ab1 ab2 ab3 ab4 ab5 bb0 bb1 cb0 cb1 cb2 cb3 cb4 cb5 db0 db1 db2 db3 y28 db5 hb0 hb1 ib0 ib1 jb0 jb1 vk0 vk1 vk2 vk3 vk4
         else
          F.za.C19 n
           (fun g0 g1 g2 g3 g4 g5 h0 h1 i0 i1 i2 i3 i4 i5 j0 j1 j2 j3 j4 j5 l0 l1 o0 o1 p0 p1 ek0 ek1 ek4 =>
            kr g0 g1 g2 g3 g4 g5 h0 h1 i0 i1 i2 i3 i4 i5 j0 j1 j2 j3 j4 j5 l0 l1 o0 o1 p0 p1 ek0 ek1 ek4)
           (fun e5 e8 e9 g0 g1 g2 g3 g4 g5 h0 h1 i0 i1 i2 i3 i4 i5 j0 j1 j2 j3 j4 j5 l0 l1 o0 o1 p0 p1 ek0 ek1 ek2 ek3 ek4 =>
            rec e5 e8 (IntKind.wrap .i64 (e9+(1:Int))) g0 g1 g2 g3 g4 g5 h0 h1 i0 i1 i2 i3 i4 i5 j0 j1 j2 j3 j4 j5 l0 l1 o0 o1 p0 p1 ek0 ek1 ek2 ek3 ek4) v5 v8 v9 (2:Int) (0:Int) ab0 ab1 ab2 ab3 ab4 ab5 bb0 bb1 cb0 cb1 cb2 cb3 cb4 cb5 db0 db1 db2 db3 y28 db5 hb0 hb1 ib0 ib1 jb0 jb1 vk0 vk1 vk2 vk3 vk4
      else
      bif ((x17).toNat)==(84:Int) then
       (F.zbq n x16).bind fun y35 =>
        bif !((y35.2.1.1==(0:Int))&&(y35.2.1.2.1==(0:Int))) then
         F.za.C19 n
          (fun g0 g1 g2 g3 g4 g5 h0 h1 i0 i1 i2 i3 i4 i5 j0 j1 j2 j3 j4 j5 l0 l1 o0 o1 p0 p1 ek0 ek1 ek4 =>
           kr g0 g1 g2 g3 g4 g5 h0 h1 i0 i1 i2 i3 i4 i5 j0 j1 j2 j3 j4 j5 l0 l1 o0 o1 p0 p1 ek0 ek1 ek4)
          (fun e5 e8 e9 g0 g1 g2 g3 g4 g5 h0 h1 i0 i1 i2 i3 i4 i5 j0 j1 j2 j3 j4 j5 l0 l1 o0 o1 p0 p1 ek0 ek1 ek2 ek3 ek4 =>
           rec e5 e8 (IntKind.wrap .i64 (e9+(1:Int))) g0 g1 g2 g3 g4 g5 h0 h1 i0 i1 i2 i3 i4 i5 j0 j1 j2 j3 j4 j5 l0 l1 o0 o1 p0 p1 ek0 ek1 ek2 ek3 ek4) v5 v8 v9 (3:Int) (20:Int) ab0 ab1 ab2 ab3 ab4 ab5 bb0 bb1 cb0 cb1 cb2 cb3 cb4 cb5 db0 db1 db2 db3 db4 y35.1 hb0 hb1 ib0 ib1 jb0 jb1 vk0 vk1 vk2 vk3 vk4
        else
         F.za.C19 n
          (fun g0 g1 g2 g3 g4 g5 h0 h1 i0 i1 i2 i3 i4 i5 j0 j1 j2 j3 j4 j5 l0 l1 o0 o1 p0 p1 ek0 ek1 ek4 =>
           kr g0 g1 g2 g3 g4 g5 h0 h1 i0 i1 i2 i3 i4 i5 j0 j1 j2 j3 j4 j5 l0 l1 o0 o1 p0 p1 ek0 ek1 ek4)
          (fun e5 e8 e9 g0 g1 g2 g3 g4 g5 h0 h1 i0 i1 i2 i3 i4 i5 j0 j1 j2 j3 j4 j5 l0 l1 o0 o1 p0 p1 ek0 ek1 ek2 ek3 ek4 =>
           rec e5 e8 (IntKind.wrap .i64 (e9+(1:Int))) g0 g1 g2 g3 g4 g5 h0 h1 i0 i1 i2 i3 i4 i5 j0 j1 j2 j3 j4 j5 l0 l1 o0 o1 p0 p1 ek0 ek1 ek2 ek3 ek4) v5 v8 v9 (3:Int) (0:Int) ab0 ab1 ab2 ab3 ab4 ab5 bb0 bb1 cb0 cb1 cb2 cb3 cb4 cb5 db0 db1 db2 db3 db4 y35.1 hb0 hb1 ib0 ib1 jb0 jb1 vk0 vk1 vk2 vk3 vk4
      else
       F.za.C19 n
        (fun g0 g1 g2 g3 g4 g5 h0 h1 i0 i1 i2 i3 i4 i5 j0 j1 j2 j3 j4 j5 l0 l1 o0 o1 p0 p1 ek0 ek1 ek4 =>
         kr g0 g1 g2 g3 g4 g5 h0 h1 i0 i1 i2 i3 i4 i5 j0 j1 j2 j3 j4 j5 l0 l1 o0 o1 p0 p1 ek0 ek1 ek4)
        (fun e5 e8 e9 g0 g1 g2 g3 g4 g5 h0 h1 i0 i1 i2 i3 i4 i5 j0 j1 j2 j3 j4 j5 l0 l1 o0 o1 p0 p1 ek0 ek1 ek2 ek3 ek4 =>
         rec e5 e8 (IntKind.wrap .i64 (e9+(1:Int))) g0 g1 g2 g3 g4 g5 h0 h1 i0 i1 i2 i3 i4 i5 j0 j1 j2 j3 j4 j5 l0 l1 o0 o1 p0 p1 ek0 ek1 ek2 ek3 ek4) v5 v8 v9 (0:Int) (11:Int) ab0 ab1 ab2 ab3 ab4 ab5 bb0 bb1 cb0 cb1 cb2 cb3 cb4 cb5 db0 db1 db2 db3 db4 db5 hb0 hb1 ib0 ib1 jb0 jb1 vk0 vk1 vk2 vk3 vk4
 else
  k0 ab0 ab1 ab2 ab3 ab4 ab5 bb0 bb1 cb0 cb1 cb2 cb3 cb4 cb5 db0 db1 db2 db3 db4 db5 hb0 hb1 ib0 ib1 jb0 jb1 vk0 vk1 vk2 vk3 vk4
noncomputable def F.za.L16 {X:Type} (n:Nat) (k0:Z0→Int→Z2→Int→Z4→Int→Int→Int→Z0→Int→Z2→Int→Z4→Int→Z0→Int→Z2→Int→Z4→Int→Int→Z0→Int→Int→Int→Int→Nat→Nat→Nat→Nat→Nat→Option X) (kr:Z0→Int→Z2→Int→Z4→Int→Int→Int→Z0→Int→Z2→Int→Z4→Int→Z0→Int→Z2→Int→Z4→Int→Int→Z0→Int→Int→Int→Int→Nat→Nat→Nat→Option X):Nat→Z18→Int→Int→Z0→Int→Z2→Int→Z4→Int→Int→Int→Z0→Int→Z2→Int→Z4→Int→Z0→Int→Z2→Int→Z4→Int→Int→Z0→Int→Int→Int→Int→Nat→Nat→Nat→Nat→Nat→Option X
 | 0=>fun _ _ _ _ _ _ _ _ _ _ _ _ _ _ _ _ _ _ _ _ _ _ _ _ _ _ _ _ _ _ _ _ _ _=>none
 | m+1=>fun v5 v8 v9 ab0 ab1 ab2 ab3 ab4 ab5 bb0 bb1 cb0 cb1 cb2 cb3 cb4 cb5 db0 db1 db2 db3 db4 db5 hb0 hb1 ib0 ib1 jb0 jb1 vk0 vk1 vk2 vk3 vk4=>F.za.L16.step n (F.za.L16 n k0 kr m) k0 kr v5 v8 v9 ab0 ab1 ab2 ab3 ab4 ab5 bb0 bb1 cb0 cb1 cb2 cb3 cb4 cb5 db0 db1 db2 db3 db4 db5 hb0 hb1 ib0 ib1 jb0 jb1 vk0 vk1 vk2 vk3 vk4
noncomputable def F.za.C7 {X:Type} (n:Nat) (kr:Z0→Int→Z2→Int→Z4→Int→Int→Int→Nat→Option X) (c0:Z0) (c5:Z18) (ab0:Z0) (ab1:Int) (ab2:Z2) (ab3:Int) (ab4:Z4) (ab5:Int) (bb0:Int) (bb1:Int) (cb0:Z0) (cb1:Int) (cb2:Z2) (cb3:Int) (cb4:Z4) (cb5:Int) (db0:Z0) (db1:Int) (db2:Z2) (db3:Int) (db4:Z4) (db5:Int) (hb0:Int) (hb1:Z0) (ib0:Int) (ib1:Int) (jb0:Int) (jb1:Int) (ck0:Nat) (ck1:Nat) (ck2:Nat) (ck3:Nat) (ck4:Nat) (ck5:Nat):Option X:=
 bif !((jb0==(0:Int))&&(jb1==(0:Int))) then
  kr cb0 cb1 cb2 cb3 cb4 cb5 jb0 jb1 ck2
 else
 bif (c5.length:Int)==(1:Int) then
  kr cb0 cb1 cb2 cb3 cb4 cb5 (11:Int) (c0.length:Int) ck2
 else
  (idx c5 (1:Int)).bind fun x44 =>
   (F.za6 n x44.2).bind fun y45 =>
    bif y45==(0:Int) then
     (idx c5 (1:Int)).bind fun x46 =>
      kr cb0 cb1 cb2 cb3 cb4 cb5 (16:Int) x46.1 ck2
    else
     F.za.L16 n
      (fun g0 g1 g2 g3 g4 g5 h0 h1 i0 i1 i2 i3 i4 i5 j0 j1 j2 j3 j4 j5 l0 l1 o0 o1 p0 p1 ek0 ek1 ek2 ek3 ek4 =>
       kr j0 j1 j2 j3 j4 j5 (0:Int) (0:Int) ek4)
      (fun g0 g1 g2 g3 g4 g5 h0 h1 i0 i1 i2 i3 i4 i5 j0 j1 j2 j3 j4 j5 l0 l1 o0 o1 p0 p1 ek0 ek1 ek4 =>
       kr g0 g1 g2 g3 g4 g5 h0 h1 ek0) n c5 (0:Int) (2:Int) ab0 ab1 ab2 ab3 ab4 ab5 bb0 bb1 cb0 cb1 cb2 cb3 cb4 cb5 db0 y45 db2 db3 db4 db5 hb0 hb1 ib0 ib1 jb0 jb1 ck0 ck1 ck2 ck3 ck4
noncomputable def F.za.L8_ref11_First.step {X:Type} (n:Nat) (rec:Z18→Int→Z0→Int→Z2→Int→Z4→Int→Int→Int→Z0→Int→Z2→Int→Z4→Int→Z0→Int→Z2→Int→Z4→Int→Int→Z0→Int→Int→Nat→Nat→Nat→Nat→Nat→Nat→Option X) (k0:Z0→Int→Z2→Int→Z4→Int→Int→Int→Z0→Int→Z2→Int→Z4→Int→Z0→Int→Z2→Int→Z4→Int→Int→Z0→Int→Int→Nat→Nat→Nat→Nat→Nat→Nat→Option X) (kr:Z0→Int→Z2→Int→Z4→Int→Int→Int→Z0→Int→Z2→Int→Z4→Int→Z0→Int→Z2→Int→Z4→Int→Int→Z0→Int→Int→Nat→Nat→Nat→Nat→Nat→Nat→Option X) (v5:Z18) (v6:Int) (ab0:Z0) (ab1:Int) (ab2:Z2) (ab3:Int) (ab4:Z4) (ab5:Int) (bb0:Int) (bb1:Int) (cb0:Z0) (cb1:Int) (cb2:Z2) (cb3:Int) (cb4:Z4) (cb5:Int) (db0:Z0) (db1:Int) (db2:Z2) (db3:Int) (db4:Z4) (db5:Int) (hb0:Int) (hb1:Z0) (ib0:Int) (ib1:Int) (vk0:Nat) (vk1:Nat) (vk2:Nat) (vk3:Nat) (vk4:Nat) (vk5:Nat):Option X:=
 bif decide (v6<(v5.length:Int)) then
  (idx v5 v6).bind fun x51 =>
   (F.zp n x51.2).bind fun y52 =>
    bif !((y52.2.1.1==(0:Int))&&(y52.2.1.2.1==(0:Int))) then
     (idx v5 v6).bind fun x53 =>
      kr ab0 ab1 ab2 ab3 ab4 ab5 bb0 bb1 cb0 cb1 cb2 cb3 cb4 cb5 db0 db1 db2 db3 db4 db5 hb0 hb1 (17:Int) x53.1 vk0 vk1 vk2 vk3 vk4 vk5
    else
    bif decide (v6>(64:Int)) then
     (idx v5 v6).bind fun x54 =>
      kr ab0 ab1 ab2 ab3 ab4 ab5 bb0 bb1 cb0 cb1 cb2 cb3 cb4 cb5 db0 db1 db2 db3 db4 db5 hb0 hb1 (17:Int) x54.1 vk0 vk1 vk2 vk3 vk4 vk5
    else
    bif decide ((db2.length+1)*24≤2 ^ 46)&&decide (0<24∧24≤2 ^ 20) then
     bif Nat.beq vk4 db2.length then
      rec v5 (IntKind.wrap .i64 (v6+(1:Int))) ab0 ab1 ab2 ab3 ab4 ab5 bb0 bb1 cb0 cb1 cb2 cb3 cb4 cb5 db0 db1 (db2++([(y52.1.1,y52.1.2.1,y52.1.2.2.1)])) db3 db4 db5 hb0 hb1 ib0 ib1 vk0 vk1 vk2 vk3 ((db2++([(y52.1.1,y52.1.2.1,y52.1.2.2.1)])).length) vk5
     else
      none
    else
     none
 else
  k0 ab0 ab1 ab2 ab3 ab4 ab5 bb0 bb1 cb0 cb1 cb2 cb3 cb4 cb5 db0 db1 db2 db3 db4 db5 hb0 hb1 ib0 ib1 vk0 vk1 vk2 vk3 vk4 vk5
noncomputable def F.za.L8_ref11_First {X:Type} (n:Nat) (k0:Z0→Int→Z2→Int→Z4→Int→Int→Int→Z0→Int→Z2→Int→Z4→Int→Z0→Int→Z2→Int→Z4→Int→Int→Z0→Int→Int→Nat→Nat→Nat→Nat→Nat→Nat→Option X) (kr:Z0→Int→Z2→Int→Z4→Int→Int→Int→Z0→Int→Z2→Int→Z4→Int→Z0→Int→Z2→Int→Z4→Int→Int→Z0→Int→Int→Nat→Nat→Nat→Nat→Nat→Nat→Option X):Nat→Z18→Int→Z0→Int→Z2→Int→Z4→Int→Int→Int→Z0→Int→Z2→Int→Z4→Int→Z0→Int→Z2→Int→Z4→Int→Int→Z0→Int→Int→Nat→Nat→Nat→Nat→Nat→Nat→Option X
 | 0=>fun _ _ _ _ _ _ _ _ _ _ _ _ _ _ _ _ _ _ _ _ _ _ _ _ _ _ _ _ _ _ _ _=>none
 | m+1=>fun v5 v6 ab0 ab1 ab2 ab3 ab4 ab5 bb0 bb1 cb0 cb1 cb2 cb3 cb4 cb5 db0 db1 db2 db3 db4 db5 hb0 hb1 ib0 ib1 vk0 vk1 vk2 vk3 vk4 vk5=>F.za.L8_ref11_First.step n (F.za.L8_ref11_First n k0 kr m) k0 kr v5 v6 ab0 ab1 ab2 ab3 ab4 ab5 bb0 bb1 cb0 cb1 cb2 cb3 cb4 cb5 db0 db1 db2 db3 db4 db5 hb0 hb1 ib0 ib1 vk0 vk1 vk2 vk3 vk4 vk5
noncomputable def F.za (n:Nat) (a0:Z0):Option ((Z8)×(Z7)×Unit):=
 bif decide ((a0.length:Int)>(8192:Int)) then
  some ((([],(0:Int),[],(0:Int),[],(0:Int),()),((12:Int),(0:Int),()),()))
 else
  (F.zat n a0 (124:Int) (0:Int)).bind fun y1 =>
   (idx y1 (0:Int)).bind fun x2 =>
    (F.zat n x2.2 (58:Int) x2.1).bind fun y3 =>
     (idx y3 (0:Int)).bind fun x4 =>
      (F.zae n x4.2).bind fun y5 =>
       bif !y5 then
        F.za.C7 n
         (fun g0 g1 g2 g3 g4 g5 h0 h1 ek0 =>
          some (((g0,g1,g2,g3,g4,g5,()),(h0,h1,()),()))) a0 y1 [] (0:Int) [] (0:Int) [] (0:Int) (0:Int) (0:Int) [] (0:Int) [] (0:Int) [] (0:Int) x4.2 (0:Int) [] (1000000:Int) [] (0:Int) x2.1 x2.2 (15:Int) x2.1 (15:Int) x2.1 0 0 0 0 0 0
       else
       bif (y3.length:Int)==(1:Int) then
        F.za.C7 n
         (fun g0 g1 g2 g3 g4 g5 h0 h1 ek0 =>
          some (((g0,g1,g2,g3,g4,g5,()),(h0,h1,()),()))) a0 y1 [] (0:Int) [] (0:Int) [] (0:Int) (0:Int) (0:Int) [] (0:Int) [] (0:Int) [] (0:Int) x4.2 (0:Int) [] (1000000:Int) [] (0:Int) x2.1 x2.2 (11:Int) (IntKind.wrap .i64 (x2.1+(x2.2.length:Int))) (11:Int) (IntKind.wrap .i64 (x2.1+(x2.2.length:Int))) 0 0 0 0 0 0
       else
        F.za.L8_ref11_First n
         (fun g0 g1 g2 g3 g4 g5 h0 h1 i0 i1 i2 i3 i4 i5 j0 j1 j2 j3 j4 j5 l0 l1 o0 o1 ek0 ek1 ek2 ek3 ek4 ek5 =>
          F.za.C7 n
           (fun g0 g1 g2 g3 g4 g5 h0 h1 ek0 =>
            some (((g0,g1,g2,g3,g4,g5,()),(h0,h1,()),()))) a0 y1 g0 g1 g2 g3 g4 g5 h0 h1 i0 i1 i2 i3 i4 i5 j0 j1 j2 j3 j4 j5 l0 l1 (0:Int) (0:Int) (0:Int) (0:Int) ek0 ek1 ek2 ek3 ek4 ek5)
         (fun g0 g1 g2 g3 g4 g5 h0 h1 i0 i1 i2 i3 i4 i5 j0 j1 j2 j3 j4 j5 l0 l1 o0 o1 ek0 ek1 ek2 ek3 ek4 ek5 =>
          F.za.C7 n
           (fun g0 g1 g2 g3 g4 g5 h0 h1 ek0 =>
            some (((g0,g1,g2,g3,g4,g5,()),(h0,h1,()),()))) a0 y1 g0 g1 g2 g3 g4 g5 h0 h1 i0 i1 i2 i3 i4 i5 j0 j1 j2 j3 j4 j5 l0 l1 o0 o1 o0 o1 ek0 ek1 ek2 ek3 ek4 ek5) n y3 (1:Int) [] (0:Int) [] (0:Int) [] (0:Int) (0:Int) (0:Int) [] (0:Int) [] (0:Int) [] (0:Int) x4.2 (0:Int) [] (1000000:Int) [] (0:Int) x2.1 x2.2 (0:Int) (0:Int) 0 0 0 0 0 0
noncomputable def F.zbj (n:Nat) (a0:Int) (a1:Int):Option ((Z8)×(Z7)×Unit):=
 some ((([],(0:Int),[],(0:Int),[],(0:Int),()),(a0,a1,()),()))
noncomputable def F.zce (n:Nat) (a0:Z0):Option ((Z8)×(Z7)×Unit):=
 (F.zu n a0 (0:Int) (32:Int)).bind fun y1 =>
  (sub a0 (0 : Int) y1).bind fun x2 =>
   (F.zb5 n x2).bind fun y3 =>
    bif !y3 then
     (F.zbj n (15:Int) (0:Int)).bind fun y4 =>
      some (((y4.1.1,y4.1.2.1,y4.1.2.2.1,y4.1.2.2.2.1,y4.1.2.2.2.2.1,y4.1.2.2.2.2.2.1,()),(y4.2.1.1,y4.2.1.2.1,()),()))
    else
    bif y1==(a0.length:Int) then
     (F.zbj n (11:Int) y1).bind fun y5 =>
      some (((y5.1.1,y5.1.2.1,y5.1.2.2.1,y5.1.2.2.2.1,y5.1.2.2.2.2.1,y5.1.2.2.2.2.2.1,()),(y5.2.1.1,y5.2.1.2.1,()),()))
    else
     (F.zu n a0 (IntKind.wrap .i64 (y1+(1:Int))) (32:Int)).bind fun y6 =>
      (sub a0 (IntKind.wrap .i64 (y1+(1:Int))) y6).bind fun x7 =>
       (F.zp n x7).bind fun y8 =>
        bif !(y8.2.1.1==(0:Int)) then
         (F.zbj n (17:Int) (IntKind.wrap .i64 (y1+(1:Int)))).bind fun y9 =>
          some (((y9.1.1,y9.1.2.1,y9.1.2.2.1,y9.1.2.2.2.1,y9.1.2.2.2.2.1,y9.1.2.2.2.2.2.1,()),(y9.2.1.1,y9.2.1.2.1,()),()))
        else
        bif y6==(a0.length:Int) then
         (F.zbj n (11:Int) y6).bind fun y10 =>
          some (((y10.1.1,y10.1.2.1,y10.1.2.2.1,y10.1.2.2.2.1,y10.1.2.2.2.2.1,y10.1.2.2.2.2.2.1,()),(y10.2.1.1,y10.2.1.2.1,()),()))
        else
         (F.zu n a0 (IntKind.wrap .i64 (y6+(1:Int))) (32:Int)).bind fun y11 =>
          (sub a0 (IntKind.wrap .i64 (y6+(1:Int))) y11).bind fun x12 =>
           (F.zbq n x12).bind fun y13 =>
            bif !(y13.2.1.1==(0:Int)) then
             (F.zbj n (20:Int) (IntKind.wrap .i64 (y6+(1:Int)))).bind fun y14 =>
              some (((y14.1.1,y14.1.2.1,y14.1.2.2.1,y14.1.2.2.2.1,y14.1.2.2.2.2.1,y14.1.2.2.2.2.2.1,()),(y14.2.1.1,y14.2.1.2.1,()),()))
            else
            bif decide (y11<(a0.length:Int)) then
             (F.zbj n (11:Int) y11).bind fun y15 =>
              some (((y15.1.1,y15.1.2.1,y15.1.2.2.1,y15.1.2.2.2.1,y15.1.2.2.2.2.1,y15.1.2.2.2.2.2.1,()),(y15.2.1.1,y15.2.1.2.1,()),()))
            else
             (sub a0 (0:Int) y1).bind fun x16 =>
              some (((x16,(2:Int),[(y8.1.1,y8.1.2.1,y8.1.2.2.1)],(1000000:Int),[],y13.1,()),((0:Int),(0:Int),()),()))
noncomputable def F.zcf (n:Nat) (a0:Z0) (a1:Int):Option ((Z8)×(Z7)×Unit):=
 (F.zcn n a1).bind fun y1 =>
  bif !y1 then
   some ((([],(0:Int),[],(0:Int),[],(0:Int),()),((29:Int),(0:Int),()),()))
  else
  bif decide ((a0.length:Int)>(8192:Int)) then
   some ((([],(0:Int),[],(0:Int),[],(0:Int),()),((12:Int),(0:Int),()),()))
  else
  bif a1==(1:Int) then
   (F.zr n a0).bind fun y2 =>
    some (((y2.1.1,y2.1.2.1,y2.1.2.2.1,y2.1.2.2.2.1,y2.1.2.2.2.2.1,y2.1.2.2.2.2.2.1,()),(y2.2.1.1,y2.2.1.2.1,()),()))
  else
  bif a1==(2:Int) then
   (F.za n a0).bind fun y3 =>
    some (((y3.1.1,y3.1.2.1,y3.1.2.2.1,y3.1.2.2.2.1,y3.1.2.2.2.2.1,y3.1.2.2.2.2.2.1,()),(y3.2.1.1,y3.2.1.2.1,()),()))
  else
   (F.zce n a0).bind fun y4 =>
    some (((y4.1.1,y4.1.2.1,y4.1.2.2.1,y4.1.2.2.2.1,y4.1.2.2.2.2.1,y4.1.2.2.2.2.2.1,()),(y4.2.1.1,y4.2.1.2.1,()),()))
noncomputable def F.zj.L4.step {X:Type} (n:Nat) (rec:Int→Z0→Int→Z2→Int→Z4→Int→Z0→Int→Z2→Int→Z4→Int→Option X) (k0:Z0→Int→Z2→Int→Z4→Int→Z0→Int→Z2→Int→Z4→Int→Option X) (kr:Bool→Z0→Int→Z2→Int→Z4→Int→Z0→Int→Z2→Int→Z4→Int→Option X) (v5:Int) (ab0:Z0) (ab1:Int) (ab2:Z2) (ab3:Int) (ab4:Z4) (ab5:Int) (bb0:Z0) (bb1:Int) (bb2:Z2) (bb3:Int) (bb4:Z4) (bb5:Int):Option X:=
 bif decide (v5<(ab2.length:Int)) then
  (idx ab2 v5).bind fun x1 =>
   (idx bb2 v5).bind fun x2 =>
    bif !((x1.1==x2.1)&&((x1.2.1==x2.2.1)&&(x1.2.2==x2.2.2))) then
     kr false ab0 ab1 ab2 ab3 ab4 ab5 bb0 bb1 bb2 bb3 bb4 bb5
    else
     rec (IntKind.wrap .i64 (v5+(1:Int))) ab0 ab1 ab2 ab3 ab4 ab5 bb0 bb1 bb2 bb3 bb4 bb5
 else
  k0 ab0 ab1 ab2 ab3 ab4 ab5 bb0 bb1 bb2 bb3 bb4 bb5
noncomputable def F.zj.L4 {X:Type} (n:Nat) (k0:Z0→Int→Z2→Int→Z4→Int→Z0→Int→Z2→Int→Z4→Int→Option X) (kr:Bool→Z0→Int→Z2→Int→Z4→Int→Z0→Int→Z2→Int→Z4→Int→Option X):Nat→Int→Z0→Int→Z2→Int→Z4→Int→Z0→Int→Z2→Int→Z4→Int→Option X
 | 0=>fun _ _ _ _ _ _ _ _ _ _ _ _ _=>none
 | m+1=>fun v5 ab0 ab1 ab2 ab3 ab4 ab5 bb0 bb1 bb2 bb3 bb4 bb5=>F.zj.L4.step n (F.zj.L4 n k0 kr m) k0 kr v5 ab0 ab1 ab2 ab3 ab4 ab5 bb0 bb1 bb2 bb3 bb4 bb5
noncomputable def F.zj.L9.step {X:Type} (n:Nat) (rec:Int→Z0→Int→Z2→Int→Z4→Int→Z0→Int→Z2→Int→Z4→Int→Option X) (k2:Z0→Int→Z2→Int→Z4→Int→Z0→Int→Z2→Int→Z4→Int→Option X) (kr:Bool→Z0→Int→Z2→Int→Z4→Int→Z0→Int→Z2→Int→Z4→Int→Option X) (v6:Int) (ab0:Z0) (ab1:Int) (ab2:Z2) (ab3:Int) (ab4:Z4) (ab5:Int) (bb0:Z0) (bb1:Int) (bb2:Z2) (bb3:Int) (bb4:Z4) (bb5:Int):Option X:=
 bif decide (v6<(ab4.length:Int)) then
  (idx ab4 v6).bind fun x4 =>
   (idx bb4 v6).bind fun x5 =>
    bif !((x4.1==x5.1)&&(x4.2==x5.2)) then
     kr false ab0 ab1 ab2 ab3 ab4 ab5 bb0 bb1 bb2 bb3 bb4 bb5
    else
     rec (IntKind.wrap .i64 (v6+(1:Int))) ab0 ab1 ab2 ab3 ab4 ab5 bb0 bb1 bb2 bb3 bb4 bb5
 else
  k2 ab0 ab1 ab2 ab3 ab4 ab5 bb0 bb1 bb2 bb3 bb4 bb5
noncomputable def F.zj.L9 {X:Type} (n:Nat) (k2:Z0→Int→Z2→Int→Z4→Int→Z0→Int→Z2→Int→Z4→Int→Option X) (kr:Bool→Z0→Int→Z2→Int→Z4→Int→Z0→Int→Z2→Int→Z4→Int→Option X):Nat→Int→Z0→Int→Z2→Int→Z4→Int→Z0→Int→Z2→Int→Z4→Int→Option X
 | 0=>fun _ _ _ _ _ _ _ _ _ _ _ _ _=>none
 | m+1=>fun v6 ab0 ab1 ab2 ab3 ab4 ab5 bb0 bb1 bb2 bb3 bb4 bb5=>F.zj.L9.step n (F.zj.L9 n k2 kr m) k2 kr v6 ab0 ab1 ab2 ab3 ab4 ab5 bb0 bb1 bb2 bb3 bb4 bb5
noncomputable def F.zj (n:Nat) (a0:Z8) (a1:Z8):Option (Bool):=
 bif !(a0.1==a1.1) then
  some (false)
 else
 bif !(a0.2.1==a1.2.1) then
  some (false)
 else
 bif !(a0.2.2.2.1==a1.2.2.2.1) then
  some (false)
 else
 bif !(a0.2.2.2.2.2.1==a1.2.2.2.2.2.1) then
  some (false)
 else
 bif !((a0.2.2.1.length:Int)==(a1.2.2.1.length:Int)) then
  some (false)
 else
 bif !((a0.2.2.2.2.1.length:Int)==(a1.2.2.2.2.1.length:Int)) then
  some (false)
 else
  F.zj.L4 n
   (fun g0 g1 g2 g3 g4 g5 h0 h1 h2 h3 h4 h5 =>
    F.zj.L9 n
     (fun g0 g1 g2 g3 g4 g5 h0 h1 h2 h3 h4 h5 =>
      some (true))
     (fun e4 g0 g1 g2 g3 g4 g5 h0 h1 h2 h3 h4 h5 =>
      some (e4)) n (0:Int) g0 g1 g2 g3 g4 g5 h0 h1 h2 h3 h4 h5)
   (fun e4 g0 g1 g2 g3 g4 g5 h0 h1 h2 h3 h4 h5 =>
    some (e4)) n (0:Int) a0.1 a0.2.1 a0.2.2.1 a0.2.2.2.1 a0.2.2.2.2.1 a0.2.2.2.2.2.1 a1.1 a1.2.1 a1.2.2.1 a1.2.2.2.1 a1.2.2.2.2.1 a1.2.2.2.2.2.1
noncomputable def F.zaa.L2.step {X:Type} (n:Nat) (rec:Int→Z0→Int→Z2→Int→Z4→Int→Option X) (k0:Z0→Int→Z2→Int→Z4→Int→Option X) (kr:Bool→Z0→Int→Z2→Int→Z4→Int→Option X) (v3:Int) (ab0:Z0) (ab1:Int) (ab2:Z2) (ab3:Int) (ab4:Z4) (ab5:Int):Option X:=
 bif decide (v3<(ab4.length:Int)) then
  bif decide (v3<(51:Int)) then
   (idx ab4 v3).bind fun x1 =>
    bif decide ((x1.1.length:Int)>(200:Int)) then
     kr false ab0 ab1 ab2 ab3 ab4 ab5
    else
     (idx ab4 v3).bind fun x2 =>
      bif decide ((x2.2.length:Int)>(200:Int)) then
       kr false ab0 ab1 ab2 ab3 ab4 ab5
      else
       rec (IntKind.wrap .i64 (v3+(1:Int))) ab0 ab1 ab2 ab3 ab4 ab5
  else
   k0 ab0 ab1 ab2 ab3 ab4 ab5
 else
  k0 ab0 ab1 ab2 ab3 ab4 ab5
noncomputable def F.zaa.L2 {X:Type} (n:Nat) (k0:Z0→Int→Z2→Int→Z4→Int→Option X) (kr:Bool→Z0→Int→Z2→Int→Z4→Int→Option X):Nat→Int→Z0→Int→Z2→Int→Z4→Int→Option X
 | 0=>fun _ _ _ _ _ _ _=>none
 | m+1=>fun v3 ab0 ab1 ab2 ab3 ab4 ab5=>F.zaa.L2.step n (F.zaa.L2 n k0 kr m) k0 kr v3 ab0 ab1 ab2 ab3 ab4 ab5
noncomputable def F.zaa (n:Nat) (a0:Z8):Option (Bool):=
 F.zaa.L2 n
  (fun g0 g1 g2 g3 g4 g5 =>
   bif decide ((g0.length:Int)≤(300:Int)) then
    bif decide ((g2.length:Int)≤(80:Int)) then
     some (decide ((g4.length:Int)≤(50:Int)))
    else
     some (false)
   else
    some (false))
  (fun e2 g0 g1 g2 g3 g4 g5 =>
   some (e2)) n (0:Int) a0.1 a0.2.1 a0.2.2.1 a0.2.2.2.1 a0.2.2.2.2.1 a0.2.2.2.2.2.1
noncomputable def F.zbe (n:Nat) (a0:Z8):Option (Bool):=
 (F.za5 n (1:Int) a0.1 (1:Int) (200:Int)).bind fun y1 =>
  some ((y1.1==(0:Int))&&(y1.2.1==(0:Int)))
noncomputable def F.zba (n:Nat) (a0:Int) (a1:Int) (a2:Int):Option (Bool):=
 bif decide (a0≥a1) then
  some (decide (a0≤a2))
 else
  some (false)
noncomputable def F.zbf (n:Nat) (a0:Z8):Option (Bool):=
 (F.zba n a0.2.1 (1:Int) (5:Int)).bind fun y1 =>
  some (y1)
noncomputable def F.zb3 (n:Nat) (a0:Z9):Option (Int):=
 bif !(a0.2.1==(0:Int)) then
  bif decide (a0.2.2.1<(-18:Int)) then
   some ((10:Int))
  else
  bif decide (a0.2.2.1>(18:Int)) then
   some ((10:Int))
  else
   (F.zf n (a0.1,a0.2.1,a0.2.2.1,())).bind fun y1 =>
    bif !(y1.2.1==(0:Int)) then
     some ((21:Int))
    else
    bif !((y1.1.1==a0.1)&&((y1.1.2.1==a0.2.1)&&(y1.1.2.2.1==a0.2.2.1))) then
     some ((21:Int))
    else
     some ((0:Int))
 else
  (F.zf n (a0.1,a0.2.1,a0.2.2.1,())).bind fun y2 =>
   bif !(y2.2.1==(0:Int)) then
    some ((21:Int))
   else
   bif !((y2.1.1==a0.1)&&((y2.1.2.1==a0.2.1)&&(y2.1.2.2.1==a0.2.2.1))) then
    some ((21:Int))
   else
    some ((0:Int))
noncomputable def F.zbm (n:Nat) (a0:Z9):Option (Bool):=
 (F.zb3 n (a0.1,a0.2.1,a0.2.2.1,())).bind fun y1 =>
  some (!(y1==(0:Int)))
noncomputable def F.zm.L2_slices_IndexFunc_api_Dec_api_Dec.step {X:Type} (n:Nat) (rec:Z2→Int→Int→Z0→Int→Z2→Int→Z4→Int→Option X) (k0:Z0→Int→Z2→Int→Z4→Int→Option X) (kr:Int→Z0→Int→Z2→Int→Z4→Int→Option X) (v0:Z2) (v7:Int) (v8:Int) (ab0:Z0) (ab1:Int) (ab2:Z2) (ab3:Int) (ab4:Z4) (ab5:Int):Option X:=
 bif decide (v8<v7) then
  (idx v0 v8).bind fun x2 =>
   (F.zbm n (x2.1,x2.2.1,x2.2.2,())).bind fun y3 =>
    bif y3 then
     kr v8 ab0 ab1 ab2 ab3 ab4 ab5
    else
     rec v0 v7 (IntKind.wrap .i64 (v8+(1:Int))) ab0 ab1 ab2 ab3 ab4 ab5
 else
  k0 ab0 ab1 ab2 ab3 ab4 ab5
noncomputable def F.zm.L2_slices_IndexFunc_api_Dec_api_Dec {X:Type} (n:Nat) (k0:Z0→Int→Z2→Int→Z4→Int→Option X) (kr:Int→Z0→Int→Z2→Int→Z4→Int→Option X):Nat→Z2→Int→Int→Z0→Int→Z2→Int→Z4→Int→Option X
 | 0=>fun _ _ _ _ _ _ _ _ _=>none
 | m+1=>fun v0 v7 v8 ab0 ab1 ab2 ab3 ab4 ab5=>F.zm.L2_slices_IndexFunc_api_Dec_api_Dec.step n (F.zm.L2_slices_IndexFunc_api_Dec_api_Dec n k0 kr m) k0 kr v0 v7 v8 ab0 ab1 ab2 ab3 ab4 ab5
noncomputable def F.zm (n:Nat) (a0:Z8):Option (Bool):=
 (F.zba n (a0.2.2.1.length:Int) (1:Int) (64:Int)).bind fun y1 =>
  bif y1 then
   F.zm.L2_slices_IndexFunc_api_Dec_api_Dec n
    (fun g0 g1 g2 g3 g4 g5 =>
     some (true))
    (fun e4 g0 g1 g2 g3 g4 g5 =>
     some (!(decide (e4≥(0:Int))))) n a0.2.2.1 (a0.2.2.1.length:Int) (0:Int) a0.1 a0.2.1 a0.2.2.1 a0.2.2.2.1 a0.2.2.2.2.1 a0.2.2.2.2.2.1
  else
   some (false)
noncomputable def F.zbg (n:Nat) (a0:Z8):Option (Bool):=
 (F.zba n a0.2.2.2.1 (1:Int) (1000000:Int)).bind fun y1 =>
  bif y1 then
   bif !(a0.2.1==(2:Int)) then
    some (true)
   else
    some (a0.2.2.2.1==(1000000:Int))
  else
   some (false)
noncomputable def F.zbr (n:Nat) (a0:Z15):Option (Bool):=
 (F.zb2 n (a0.1,a0.2.1,())).bind fun y1 =>
  some (!(y1==(0:Int)))
noncomputable def F.zq.L2_slices_IndexFunc_api_Tag_api_Tag.step {X:Type} (n:Nat) (rec:Z4→Int→Int→Z0→Int→Z2→Int→Z4→Int→Option X) (k0:Z0→Int→Z2→Int→Z4→Int→Option X) (kr:Int→Z0→Int→Z2→Int→Z4→Int→Option X) (v0:Z4) (v7:Int) (v8:Int) (ab0:Z0) (ab1:Int) (ab2:Z2) (ab3:Int) (ab4:Z4) (ab5:Int):Option X:=
 bif decide (v8<v7) then
  (idx v0 v8).bind fun x1 =>
   (F.zbr n (x1.1,x1.2,())).bind fun y2 =>
    bif y2 then
     kr v8 ab0 ab1 ab2 ab3 ab4 ab5
    else
     rec v0 v7 (IntKind.wrap .i64 (v8+(1:Int))) ab0 ab1 ab2 ab3 ab4 ab5
 else
  k0 ab0 ab1 ab2 ab3 ab4 ab5
noncomputable def F.zq.L2_slices_IndexFunc_api_Tag_api_Tag {X:Type} (n:Nat) (k0:Z0→Int→Z2→Int→Z4→Int→Option X) (kr:Int→Z0→Int→Z2→Int→Z4→Int→Option X):Nat→Z4→Int→Int→Z0→Int→Z2→Int→Z4→Int→Option X
 | 0=>fun _ _ _ _ _ _ _ _ _=>none
 | m+1=>fun v0 v7 v8 ab0 ab1 ab2 ab3 ab4 ab5=>F.zq.L2_slices_IndexFunc_api_Tag_api_Tag.step n (F.zq.L2_slices_IndexFunc_api_Tag_api_Tag n k0 kr m) k0 kr v0 v7 v8 ab0 ab1 ab2 ab3 ab4 ab5
noncomputable def F.zq (n:Nat) (a0:Z8):Option (Bool):=
 bif decide ((a0.2.2.2.2.1.length:Int)≤(32:Int)) then
  F.zq.L2_slices_IndexFunc_api_Tag_api_Tag n
   (fun g0 g1 g2 g3 g4 g5 =>
    some (true))
   (fun e4 g0 g1 g2 g3 g4 g5 =>
    some (!(decide (e4≥(0:Int))))) n a0.2.2.2.2.1 (a0.2.2.2.2.1.length:Int) (0:Int) a0.1 a0.2.1 a0.2.2.1 a0.2.2.2.1 a0.2.2.2.2.1 a0.2.2.2.2.2.1
 else
  some (false)
noncomputable def F.zbh (n:Nat) (a0:Z8):Option (Bool):=
 (F.zba n a0.2.2.2.2.2.1 (0:Int) (1099511627776:Int)).bind fun y1 =>
  some (y1)
noncomputable def F.zv.L3.step {X:Type} (n:Nat) (rec:Z22→Int→Z0→Int→Z2→Int→Z4→Int→Z0→Int→Z2→Int→Z4→Int→Option X) (k0:Z0→Int→Z2→Int→Z4→Int→Z0→Int→Z2→Int→Z4→Int→Option X) (kr:Int→Z0→Int→Z2→Int→Z4→Int→Z0→Int→Z2→Int→Z4→Int→Option X) (v26:Z22) (v27:Int) (ab0:Z0) (ab1:Int) (ab2:Z2) (ab3:Int) (ab4:Z4) (ab5:Int) (bb0:Z0) (bb1:Int) (bb2:Z2) (bb3:Int) (bb4:Z4) (bb5:Int):Option X:=
 bif decide (v27<(6:Int)) then
  bif v27==(0:Int) then
   (F.zbe n (v26.1.1.1.1,v26.1.1.1.2.1,v26.1.1.1.2.2.1,v26.1.1.1.2.2.2.1,v26.1.1.1.2.2.2.2.1,v26.1.1.1.2.2.2.2.2.1,())).bind fun y1 =>
    bif !y1 then
     kr v26.2.1 ab0 ab1 ab2 ab3 ab4 ab5 bb0 bb1 bb2 bb3 bb4 bb5
    else
     rec ((((v26.1.1.1.1,v26.1.1.1.2.1,v26.1.1.1.2.2.1,v26.1.1.1.2.2.2.1,v26.1.1.1.2.2.2.2.1,v26.1.1.1.2.2.2.2.2.1,()),()),(())),v26.2.1,(((v26.2.2.1.1.1.1,v26.2.2.1.1.1.2.1,v26.2.2.1.1.1.2.2.1,v26.2.2.1.1.1.2.2.2.1,v26.2.2.1.1.1.2.2.2.2.1,v26.2.2.1.1.1.2.2.2.2.2.1,()),()),(())),v26.2.2.2.1,(((v26.2.2.2.2.1.1.1.1,v26.2.2.2.2.1.1.1.2.1,v26.2.2.2.2.1.1.1.2.2.1,v26.2.2.2.2.1.1.1.2.2.2.1,v26.2.2.2.2.1.1.1.2.2.2.2.1,v26.2.2.2.2.1.1.1.2.2.2.2.2.1,()),()),(())),v26.2.2.2.2.2.1,(((v26.2.2.2.2.2.2.1.1.1.1,v26.2.2.2.2.2.2.1.1.1.2.1,v26.2.2.2.2.2.2.1.1.1.2.2.1,v26.2.2.2.2.2.2.1.1.1.2.2.2.1,v26.2.2.2.2.2.2.1.1.1.2.2.2.2.1,v26.2.2.2.2.2.2.1.1.1.2.2.2.2.2.1,()),()),(())),v26.2.2.2.2.2.2.2.1,(((v26.2.2.2.2.2.2.2.2.1.1.1.1,v26.2.2.2.2.2.2.2.2.1.1.1.2.1,v26.2.2.2.2.2.2.2.2.1.1.1.2.2.1,v26.2.2.2.2.2.2.2.2.1.1.1.2.2.2.1,v26.2.2.2.2.2.2.2.2.1.1.1.2.2.2.2.1,v26.2.2.2.2.2.2.2.2.1.1.1.2.2.2.2.2.1,()),()),(())),v26.2.2.2.2.2.2.2.2.2.1,(((v26.2.2.2.2.2.2.2.2.2.2.1.1.1.1,v26.2.2.2.2.2.2.2.2.2.2.1.1.1.2.1,v26.2.2.2.2.2.2.2.2.2.2.1.1.1.2.2.1,v26.2.2.2.2.2.2.2.2.2.2.1.1.1.2.2.2.1,v26.2.2.2.2.2.2.2.2.2.2.1.1.1.2.2.2.2.1,v26.2.2.2.2.2.2.2.2.2.2.1.1.1.2.2.2.2.2.1,()),()),(())),v26.2.2.2.2.2.2.2.2.2.2.2.1,()) (IntKind.wrap .i64 (v27+(1:Int))) ab0 ab1 ab2 ab3 ab4 ab5 bb0 bb1 bb2 bb3 bb4 bb5
  else
  bif v27==(1:Int) then
   (F.zbf n (v26.2.2.1.1.1.1,v26.2.2.1.1.1.2.1,v26.2.2.1.1.1.2.2.1,v26.2.2.1.1.1.2.2.2.1,v26.2.2.1.1.1.2.2.2.2.1,v26.2.2.1.1.1.2.2.2.2.2.1,())).bind fun y2 =>
    bif !y2 then
     kr v26.2.2.2.1 ab0 ab1 ab2 ab3 ab4 ab5 bb0 bb1 bb2 bb3 bb4 bb5
    else
     rec ((((v26.1.1.1.1,v26.1.1.1.2.1,v26.1.1.1.2.2.1,v26.1.1.1.2.2.2.1,v26.1.1.1.2.2.2.2.1,v26.1.1.1.2.2.2.2.2.1,()),()),(())),v26.2.1,(((v26.2.2.1.1.1.1,v26.2.2.1.1.1.2.1,v26.2.2.1.1.1.2.2.1,v26.2.2.1.1.1.2.2.2.1,v26.2.2.1.1.1.2.2.2.2.1,v26.2.2.1.1.1.2.2.2.2.2.1,()),()),(())),v26.2.2.2.1,(((v26.2.2.2.2.1.1.1.1,v26.2.2.2.2.1.1.1.2.1,v26.2.2.2.2.1.1.1.2.2.1,v26.2.2.2.2.1.1.1.2.2.2.1,v26.2.2.2.2.1.1.1.2.2.2.2.1,v26.2.2.2.2.1.1.1.2.2.2.2.2.1,()),()),(())),v26.2.2.2.2.2.1,(((v26.2.2.2.2.2.2.1.1.1.1,v26.2.2.2.2.2.2.1.1.1.2.1,v26.2.2.2.2.2.2.1.1.1.2.2.1,v26.2.2.2.2.2.2.1.1.1.2.2.2.1,v26.2.2.2.2.2.2.1.1.1.2.2.2.2.1,v26.2.2.2.2.2.2.1.1.1.2.2.2.2.2.1,()),()),(())),v26.2.2.2.2.2.2.2.1,(((v26.2.2.2.2.2.2.2.2.1.1.1.1,v26.2.2.2.2.2.2.2.2.1.1.1.2.1,v26.2.2.2.2.2.2.2.2.1.1.1.2.2.1,v26.2.2.2.2.2.2.2.2.1.1.1.2.2.2.1,v26.2.2.2.2.2.2.2.2.1.1.1.2.2.2.2.1,v26.2.2.2.2.2.2.2.2.1.1.1.2.2.2.2.2.1,()),()),(())),v26.2.2.2.2.2.2.2.2.2.1,(((v26.2.2.2.2.2.2.2.2.2.2.1.1.1.1,v26.2.2.2.2.2.2.2.2.2.2.1.1.1.2.1,v26.2.2.2.2.2.2.2.2.2.2.1.1.1.2.2.1,v26.2.2.2.2.2.2.2.2.2.2.1.1.1.2.2.2.1,v26.2.2.2.2.2.2.2.2.2.2.1.1.1.2.2.2.2.1,v26.2.2.2.2.2.2.2.2.2.2.1.1.1.2.2.2.2.2.1,()),()),(())),v26.2.2.2.2.2.2.2.2.2.2.2.1,()) (IntKind.wrap .i64 (v27+(1:Int))) ab0 ab1 ab2 ab3 ab4 ab5 bb0 bb1 bb2 bb3 bb4 bb5
  else
  bif v27==(2:Int) then
   (F.zm n (v26.2.2.2.2.1.1.1.1,v26.2.2.2.2.1.1.1.2.1,v26.2.2.2.2.1.1.1.2.2.1,v26.2.2.2.2.1.1.1.2.2.2.1,v26.2.2.2.2.1.1.1.2.2.2.2.1,v26.2.2.2.2.1.1.1.2.2.2.2.2.1,())).bind fun y3 =>
    bif !y3 then
     kr v26.2.2.2.2.2.1 ab0 ab1 ab2 ab3 ab4 ab5 bb0 bb1 bb2 bb3 bb4 bb5
    else
     rec ((((v26.1.1.1.1,v26.1.1.1.2.1,v26.1.1.1.2.2.1,v26.1.1.1.2.2.2.1,v26.1.1.1.2.2.2.2.1,v26.1.1.1.2.2.2.2.2.1,()),()),(())),v26.2.1,(((v26.2.2.1.1.1.1,v26.2.2.1.1.1.2.1,v26.2.2.1.1.1.2.2.1,v26.2.2.1.1.1.2.2.2.1,v26.2.2.1.1.1.2.2.2.2.1,v26.2.2.1.1.1.2.2.2.2.2.1,()),()),(())),v26.2.2.2.1,(((v26.2.2.2.2.1.1.1.1,v26.2.2.2.2.1.1.1.2.1,v26.2.2.2.2.1.1.1.2.2.1,v26.2.2.2.2.1.1.1.2.2.2.1,v26.2.2.2.2.1.1.1.2.2.2.2.1,v26.2.2.2.2.1.1.1.2.2.2.2.2.1,()),()),(())),v26.2.2.2.2.2.1,(((v26.2.2.2.2.2.2.1.1.1.1,v26.2.2.2.2.2.2.1.1.1.2.1,v26.2.2.2.2.2.2.1.1.1.2.2.1,v26.2.2.2.2.2.2.1.1.1.2.2.2.1,v26.2.2.2.2.2.2.1.1.1.2.2.2.2.1,v26.2.2.2.2.2.2.1.1.1.2.2.2.2.2.1,()),()),(())),v26.2.2.2.2.2.2.2.1,(((v26.2.2.2.2.2.2.2.2.1.1.1.1,v26.2.2.2.2.2.2.2.2.1.1.1.2.1,v26.2.2.2.2.2.2.2.2.1.1.1.2.2.1,v26.2.2.2.2.2.2.2.2.1.1.1.2.2.2.1,v26.2.2.2.2.2.2.2.2.1.1.1.2.2.2.2.1,v26.2.2.2.2.2.2.2.2.1.1.1.2.2.2.2.2.1,()),()),(())),v26.2.2.2.2.2.2.2.2.2.1,(((v26.2.2.2.2.2.2.2.2.2.2.1.1.1.1,v26.2.2.2.2.2.2.2.2.2.2.1.1.1.2.1,v26.2.2.2.2.2.2.2.2.2.2.1.1.1.2.2.1,v26.2.2.2.2.2.2.2.2.2.2.1.1.1.2.2.2.1,v26.2.2.2.2.2.2.2.2.2.2.1.1.1.2.2.2.2.1,v26.2.2.2.2.2.2.2.2.2.2.1.1.1.2.2.2.2.2.1,()),()),(())),v26.2.2.2.2.2.2.2.2.2.2.2.1,()) (IntKind.wrap .i64 (v27+(1:Int))) ab0 ab1 ab2 ab3 ab4 ab5 bb0 bb1 bb2 bb3 bb4 bb5
  else
  bif v27==(3:Int) then
   (F.zbg n (v26.2.2.2.2.2.2.1.1.1.1,v26.2.2.2.2.2.2.1.1.1.2.1,v26.2.2.2.2.2.2.1.1.1.2.2.1,v26.2.2.2.2.2.2.1.1.1.2.2.2.1,v26.2.2.2.2.2.2.1.1.1.2.2.2.2.1,v26.2.2.2.2.2.2.1.1.1.2.2.2.2.2.1,())).bind fun y4 =>
    bif !y4 then
     kr v26.2.2.2.2.2.2.2.1 ab0 ab1 ab2 ab3 ab4 ab5 bb0 bb1 bb2 bb3 bb4 bb5
    else
     rec ((((v26.1.1.1.1,v26.1.1.1.2.1,v26.1.1.1.2.2.1,v26.1.1.1.2.2.2.1,v26.1.1.1.2.2.2.2.1,v26.1.1.1.2.2.2.2.2.1,()),()),(())),v26.2.1,(((v26.2.2.1.1.1.1,v26.2.2.1.1.1.2.1,v26.2.2.1.1.1.2.2.1,v26.2.2.1.1.1.2.2.2.1,v26.2.2.1.1.1.2.2.2.2.1,v26.2.2.1.1.1.2.2.2.2.2.1,()),()),(())),v26.2.2.2.1,(((v26.2.2.2.2.1.1.1.1,v26.2.2.2.2.1.1.1.2.1,v26.2.2.2.2.1.1.1.2.2.1,v26.2.2.2.2.1.1.1.2.2.2.1,v26.2.2.2.2.1.1.1.2.2.2.2.1,v26.2.2.2.2.1.1.1.2.2.2.2.2.1,()),()),(())),v26.2.2.2.2.2.1,(((v26.2.2.2.2.2.2.1.1.1.1,v26.2.2.2.2.2.2.1.1.1.2.1,v26.2.2.2.2.2.2.1.1.1.2.2.1,v26.2.2.2.2.2.2.1.1.1.2.2.2.1,v26.2.2.2.2.2.2.1.1.1.2.2.2.2.1,v26.2.2.2.2.2.2.1.1.1.2.2.2.2.2.1,()),()),(())),v26.2.2.2.2.2.2.2.1,(((v26.2.2.2.2.2.2.2.2.1.1.1.1,v26.2.2.2.2.2.2.2.2.1.1.1.2.1,v26.2.2.2.2.2.2.2.2.1.1.1.2.2.1,v26.2.2.2.2.2.2.2.2.1.1.1.2.2.2.1,v26.2.2.2.2.2.2.2.2.1.1.1.2.2.2.2.1,v26.2.2.2.2.2.2.2.2.1.1.1.2.2.2.2.2.1,()),()),(())),v26.2.2.2.2.2.2.2.2.2.1,(((v26.2.2.2.2.2.2.2.2.2.2.1.1.1.1,v26.2.2.2.2.2.2.2.2.2.2.1.1.1.2.1,v26.2.2.2.2.2.2.2.2.2.2.1.1.1.2.2.1,v26.2.2.2.2.2.2.2.2.2.2.1.1.1.2.2.2.1,v26.2.2.2.2.2.2.2.2.2.2.1.1.1.2.2.2.2.1,v26.2.2.2.2.2.2.2.2.2.2.1.1.1.2.2.2.2.2.1,()),()),(())),v26.2.2.2.2.2.2.2.2.2.2.2.1,()) (IntKind.wrap .i64 (v27+(1:Int))) ab0 ab1 ab2 ab3 ab4 ab5 bb0 bb1 bb2 bb3 bb4 bb5
  else
  bif v27==(4:Int) then
   (F.zq n (v26.2.2.2.2.2.2.2.2.1.1.1.1,v26.2.2.2.2.2.2.2.2.1.1.1.2.1,v26.2.2.2.2.2.2.2.2.1.1.1.2.2.1,v26.2.2.2.2.2.2.2.2.1.1.1.2.2.2.1,v26.2.2.2.2.2.2.2.2.1.1.1.2.2.2.2.1,v26.2.2.2.2.2.2.2.2.1.1.1.2.2.2.2.2.1,())).bind fun y5 =>
    bif !y5 then
     kr v26.2.2.2.2.2.2.2.2.2.1 ab0 ab1 ab2 ab3 ab4 ab5 bb0 bb1 bb2 bb3 bb4 bb5
    else
     rec ((((v26.1.1.1.1,v26.1.1.1.2.1,v26.1.1.1.2.2.1,v26.1.1.1.2.2.2.1,v26.1.1.1.2.2.2.2.1,v26.1.1.1.2.2.2.2.2.1,()),()),(())),v26.2.1,(((v26.2.2.1.1.1.1,v26.2.2.1.1.1.2.1,v26.2.2.1.1.1.2.2.1,v26.2.2.1.1.1.2.2.2.1,v26.2.2.1.1.1.2.2.2.2.1,v26.2.2.1.1.1.2.2.2.2.2.1,()),()),(())),v26.2.2.2.1,(((v26.2.2.2.2.1.1.1.1,v26.2.2.2.2.1.1.1.2.1,v26.2.2.2.2.1.1.1.2.2.1,v26.2.2.2.2.1.1.1.2.2.2.1,v26.2.2.2.2.1.1.1.2.2.2.2.1,v26.2.2.2.2.1.1.1.2.2.2.2.2.1,()),()),(())),v26.2.2.2.2.2.1,(((v26.2.2.2.2.2.2.1.1.1.1,v26.2.2.2.2.2.2.1.1.1.2.1,v26.2.2.2.2.2.2.1.1.1.2.2.1,v26.2.2.2.2.2.2.1.1.1.2.2.2.1,v26.2.2.2.2.2.2.1.1.1.2.2.2.2.1,v26.2.2.2.2.2.2.1.1.1.2.2.2.2.2.1,()),()),(())),v26.2.2.2.2.2.2.2.1,(((v26.2.2.2.2.2.2.2.2.1.1.1.1,v26.2.2.2.2.2.2.2.2.1.1.1.2.1,v26.2.2.2.2.2.2.2.2.1.1.1.2.2.1,v26.2.2.2.2.2.2.2.2.1.1.1.2.2.2.1,v26.2.2.2.2.2.2.2.2.1.1.1.2.2.2.2.1,v26.2.2.2.2.2.2.2.2.1.1.1.2.2.2.2.2.1,()),()),(())),v26.2.2.2.2.2.2.2.2.2.1,(((v26.2.2.2.2.2.2.2.2.2.2.1.1.1.1,v26.2.2.2.2.2.2.2.2.2.2.1.1.1.2.1,v26.2.2.2.2.2.2.2.2.2.2.1.1.1.2.2.1,v26.2.2.2.2.2.2.2.2.2.2.1.1.1.2.2.2.1,v26.2.2.2.2.2.2.2.2.2.2.1.1.1.2.2.2.2.1,v26.2.2.2.2.2.2.2.2.2.2.1.1.1.2.2.2.2.2.1,()),()),(())),v26.2.2.2.2.2.2.2.2.2.2.2.1,()) (IntKind.wrap .i64 (v27+(1:Int))) ab0 ab1 ab2 ab3 ab4 ab5 bb0 bb1 bb2 bb3 bb4 bb5
  else
  bif v27==(5:Int) then
   (F.zbh n (v26.2.2.2.2.2.2.2.2.2.2.1.1.1.1,v26.2.2.2.2.2.2.2.2.2.2.1.1.1.2.1,v26.2.2.2.2.2.2.2.2.2.2.1.1.1.2.2.1,v26.2.2.2.2.2.2.2.2.2.2.1.1.1.2.2.2.1,v26.2.2.2.2.2.2.2.2.2.2.1.1.1.2.2.2.2.1,v26.2.2.2.2.2.2.2.2.2.2.1.1.1.2.2.2.2.2.1,())).bind fun y6 =>
    bif !y6 then
     kr v26.2.2.2.2.2.2.2.2.2.2.2.1 ab0 ab1 ab2 ab3 ab4 ab5 bb0 bb1 bb2 bb3 bb4 bb5
    else
     rec ((((v26.1.1.1.1,v26.1.1.1.2.1,v26.1.1.1.2.2.1,v26.1.1.1.2.2.2.1,v26.1.1.1.2.2.2.2.1,v26.1.1.1.2.2.2.2.2.1,()),()),(())),v26.2.1,(((v26.2.2.1.1.1.1,v26.2.2.1.1.1.2.1,v26.2.2.1.1.1.2.2.1,v26.2.2.1.1.1.2.2.2.1,v26.2.2.1.1.1.2.2.2.2.1,v26.2.2.1.1.1.2.2.2.2.2.1,()),()),(())),v26.2.2.2.1,(((v26.2.2.2.2.1.1.1.1,v26.2.2.2.2.1.1.1.2.1,v26.2.2.2.2.1.1.1.2.2.1,v26.2.2.2.2.1.1.1.2.2.2.1,v26.2.2.2.2.1.1.1.2.2.2.2.1,v26.2.2.2.2.1.1.1.2.2.2.2.2.1,()),()),(())),v26.2.2.2.2.2.1,(((v26.2.2.2.2.2.2.1.1.1.1,v26.2.2.2.2.2.2.1.1.1.2.1,v26.2.2.2.2.2.2.1.1.1.2.2.1,v26.2.2.2.2.2.2.1.1.1.2.2.2.1,v26.2.2.2.2.2.2.1.1.1.2.2.2.2.1,v26.2.2.2.2.2.2.1.1.1.2.2.2.2.2.1,()),()),(())),v26.2.2.2.2.2.2.2.1,(((v26.2.2.2.2.2.2.2.2.1.1.1.1,v26.2.2.2.2.2.2.2.2.1.1.1.2.1,v26.2.2.2.2.2.2.2.2.1.1.1.2.2.1,v26.2.2.2.2.2.2.2.2.1.1.1.2.2.2.1,v26.2.2.2.2.2.2.2.2.1.1.1.2.2.2.2.1,v26.2.2.2.2.2.2.2.2.1.1.1.2.2.2.2.2.1,()),()),(())),v26.2.2.2.2.2.2.2.2.2.1,(((v26.2.2.2.2.2.2.2.2.2.2.1.1.1.1,v26.2.2.2.2.2.2.2.2.2.2.1.1.1.2.1,v26.2.2.2.2.2.2.2.2.2.2.1.1.1.2.2.1,v26.2.2.2.2.2.2.2.2.2.2.1.1.1.2.2.2.1,v26.2.2.2.2.2.2.2.2.2.2.1.1.1.2.2.2.2.1,v26.2.2.2.2.2.2.2.2.2.2.1.1.1.2.2.2.2.2.1,()),()),(())),v26.2.2.2.2.2.2.2.2.2.2.2.1,()) (IntKind.wrap .i64 (v27+(1:Int))) ab0 ab1 ab2 ab3 ab4 ab5 bb0 bb1 bb2 bb3 bb4 bb5
  else
   none
 else
  k0 ab0 ab1 ab2 ab3 ab4 ab5 bb0 bb1 bb2 bb3 bb4 bb5
noncomputable def F.zv.L3 {X:Type} (n:Nat) (k0:Z0→Int→Z2→Int→Z4→Int→Z0→Int→Z2→Int→Z4→Int→Option X) (kr:Int→Z0→Int→Z2→Int→Z4→Int→Z0→Int→Z2→Int→Z4→Int→Option X):Nat→Z22→Int→Z0→Int→Z2→Int→Z4→Int→Z0→Int→Z2→Int→Z4→Int→Option X
 | 0=>fun _ _ _ _ _ _ _ _ _ _ _ _ _ _=>none
 | m+1=>fun v26 v27 ab0 ab1 ab2 ab3 ab4 ab5 bb0 bb1 bb2 bb3 bb4 bb5=>F.zv.L3.step n (F.zv.L3 n k0 kr m) k0 kr v26 v27 ab0 ab1 ab2 ab3 ab4 ab5 bb0 bb1 bb2 bb3 bb4 bb5
noncomputable def F.zv (n:Nat) (a0:Z8):Option (Int):=
 F.zv.L3 n
  (fun g0 g1 g2 g3 g4 g5 h0 h1 h2 h3 h4 h5 =>
   some ((0:Int)))
  (fun e2 g0 g1 g2 g3 g4 g5 h0 h1 h2 h3 h4 h5 =>
   some (e2)) n ((((a0.1,a0.2.1,a0.2.2.1,a0.2.2.2.1,a0.2.2.2.2.1,a0.2.2.2.2.2.1,()),()),(())),(15:Int),(((a0.1,a0.2.1,a0.2.2.1,a0.2.2.2.1,a0.2.2.2.2.1,a0.2.2.2.2.2.1,()),()),(())),(16:Int),(((a0.1,a0.2.1,a0.2.2.1,a0.2.2.2.1,a0.2.2.2.2.1,a0.2.2.2.2.2.1,()),()),(())),(17:Int),(((a0.1,a0.2.1,a0.2.2.1,a0.2.2.2.1,a0.2.2.2.2.1,a0.2.2.2.2.2.1,()),()),(())),(18:Int),(((a0.1,a0.2.1,a0.2.2.1,a0.2.2.2.1,a0.2.2.2.2.1,a0.2.2.2.2.2.1,()),()),(())),(19:Int),(((a0.1,a0.2.1,a0.2.2.1,a0.2.2.2.1,a0.2.2.2.2.1,a0.2.2.2.2.2.1,()),()),(())),(20:Int),()) (0:Int) a0.1 a0.2.1 a0.2.2.1 a0.2.2.2.1 a0.2.2.2.2.1 a0.2.2.2.2.2.1 a0.1 a0.2.1 a0.2.2.1 a0.2.2.2.1 a0.2.2.2.2.1 a0.2.2.2.2.2.1
noncomputable def F.zn.L3.step {X:Type} (n:Nat) (rec:Z12→Z12→Int→Int→Z0→Int→Z2→Int→Z4→Int→Z0→Int→Z2→Int→Z4→Int→Z20→Z20→Nat→Nat→Option X) (k0:Z12→Z0→Int→Z2→Int→Z4→Int→Z0→Int→Z2→Int→Z4→Int→Z20→Z20→Nat→Nat→Option X) (v4:Z12) (v13:Z12) (v14:Int) (v15:Int) (ab0:Z0) (ab1:Int) (ab2:Z2) (ab3:Int) (ab4:Z4) (ab5:Int) (bb0:Z0) (bb1:Int) (bb2:Z2) (bb3:Int) (bb4:Z4) (bb5:Int) (cb0:Z20) (db0:Z20) (vk0:Nat) (vk1:Nat):Option X:=
 bif decide (v15<v14) then
  bif decide (0≤v15)&&decide (v15<((v13.2:Nat):Int)) then
   bif Nat.beq v13.1 db0.1 then
    (idx db0.2 v15).bind fun x1 =>
     (F.zf n (x1.1,x1.2.1,x1.2.2,())).bind fun y2 =>
      bif y2.2.1==(0:Int) then
       bif decide (0≤v15)&&decide (v15<((v4.2:Nat):Int)) then
        bif Nat.beq v4.1 db0.1 then
         (idx db0.2 v15).bind fun x3 =>
          rec (v4.1,v4.2) (v13.1,v13.2) v14 (IntKind.wrap .i64 (v15+(1:Int))) ab0 ab1 ab2 ab3 ab4 ab5 bb0 bb1 bb2 bb3 bb4 bb5 (cb0.1,cb0.2) (v4.1,upd db0.2 (Int.toNat v15) (y2.1.1,y2.1.2.1,y2.1.2.2.1)) vk0 vk1
        else
         none
       else
        none
      else
       rec (v4.1,v4.2) (v13.1,v13.2) v14 (IntKind.wrap .i64 (v15+(1:Int))) ab0 ab1 ab2 ab3 ab4 ab5 bb0 bb1 bb2 bb3 bb4 bb5 (cb0.1,cb0.2) (db0.1,db0.2) vk0 vk1
   else
    none
  else
   none
 else
  k0 (v4.1,v4.2) ab0 ab1 ab2 ab3 ab4 ab5 bb0 bb1 bb2 bb3 bb4 bb5 (cb0.1,cb0.2) (db0.1,db0.2) vk0 vk1
noncomputable def F.zn.L3 {X:Type} (n:Nat) (k0:Z12→Z0→Int→Z2→Int→Z4→Int→Z0→Int→Z2→Int→Z4→Int→Z20→Z20→Nat→Nat→Option X):Nat→Z12→Z12→Int→Int→Z0→Int→Z2→Int→Z4→Int→Z0→Int→Z2→Int→Z4→Int→Z20→Z20→Nat→Nat→Option X
 | 0=>fun _ _ _ _ _ _ _ _ _ _ _ _ _ _ _ _ _ _ _ _=>none
 | m+1=>fun v4 v13 v14 v15 ab0 ab1 ab2 ab3 ab4 ab5 bb0 bb1 bb2 bb3 bb4 bb5 cb0 db0 vk0 vk1=>F.zn.L3.step n (F.zn.L3 n k0 m) k0 v4 v13 v14 v15 ab0 ab1 ab2 ab3 ab4 ab5 bb0 bb1 bb2 bb3 bb4 bb5 cb0 db0 vk0 vk1
noncomputable def F.zn (n:Nat) (a0:Z8):Option ((Z8)×(Int)×Unit):=
 bif List.isEmpty a0.2.2.1 then
  both
   (
    F.zn.L3 n
     (fun e4 g0 g1 g2 g3 g4 g5 h0 h1 h2 h3 h4 h5 i0 j0 ek0 ek1 =>
      bif Nat.beq e4.1 j0.1 then
       (F.zv n (g0,g1,j0.2,g3,g4,g5,())).bind fun y5 =>
        bif !(y5==(0:Int)) then
         some ((([],(0:Int),[],(0:Int),[],(0:Int),()),y5,()))
        else
         (F.zy n g4).bind fun y6 =>
          some (((g0,g1,j0.2,g3,y6,g5,()),(0:Int),()))
      else
       none) n (1,0) (1,0) (0:Int) (0:Int) a0.1 a0.2.1 a0.2.2.1 a0.2.2.2.1 a0.2.2.2.2.1 a0.2.2.2.2.2.1 [] (0:Int) [] (0:Int) [] (0:Int) (1,[]) (1,[]) 0 0)
   (
    bif decide ((0+a0.2.2.1.length)*24≤2 ^ 46)&&decide (0<24∧24≤2 ^ 20) then
     F.zn.L3 n
      (fun e4 g0 g1 g2 g3 g4 g5 h0 h1 h2 h3 h4 h5 i0 j0 ek0 ek1 =>
       bif Nat.beq e4.1 j0.1 then
        (F.zv n (g0,g1,j0.2,g3,g4,g5,())).bind fun y8 =>
         bif !(y8==(0:Int)) then
          some ((([],(0:Int),[],(0:Int),[],(0:Int),()),y8,()))
         else
          (F.zy n g4).bind fun y9 =>
           some (((g0,g1,j0.2,g3,y9,g5,()),(0:Int),()))
       else
        none) n (2,([]++a0.2.2.1).length) (2,([]++a0.2.2.1).length) ((([]++a0.2.2.1).length:Nat):Int) (0:Int) a0.1 a0.2.1 a0.2.2.1 a0.2.2.2.1 a0.2.2.2.2.1 a0.2.2.2.2.2.1 [] (0:Int) [] (0:Int) [] (0:Int) (1,[]) (2,[]++a0.2.2.1) 0 0
    else
     none)
 else
 bif decide ((0+a0.2.2.1.length)*24≤2 ^ 46)&&decide (0<24∧24≤2 ^ 20) then
  F.zn.L3 n
   (fun e4 g0 g1 g2 g3 g4 g5 h0 h1 h2 h3 h4 h5 i0 j0 ek0 ek1 =>
    bif Nat.beq e4.1 j0.1 then
     (F.zv n (g0,g1,j0.2,g3,g4,g5,())).bind fun y11 =>
      bif !(y11==(0:Int)) then
       some ((([],(0:Int),[],(0:Int),[],(0:Int),()),y11,()))
      else
       (F.zy n g4).bind fun y12 =>
        some (((g0,g1,j0.2,g3,y12,g5,()),(0:Int),()))
    else
     none) n (2,([]++a0.2.2.1).length) (2,([]++a0.2.2.1).length) ((([]++a0.2.2.1).length:Nat):Int) (0:Int) a0.1 a0.2.1 a0.2.2.1 a0.2.2.2.1 a0.2.2.2.2.1 a0.2.2.2.2.2.1 [] (0:Int) [] (0:Int) [] (0:Int) (1,[]) (2,[]++a0.2.2.1) 0 0
 else
  none
noncomputable def F.zbb (n:Nat) (a0:Z8):Option (Bool):=
 bif (a0.2.2.1.length:Int)==(1:Int) then
  some ((a0.2.2.2.2.1.length:Int)==(0:Int))
 else
  some (false)
noncomputable def F.zbi (n:Nat) (a0:Z8):Option (Bool):=
 (F.zbb n (a0.1,a0.2.1,a0.2.2.1,a0.2.2.2.1,a0.2.2.2.2.1,a0.2.2.2.2.2.1,())).bind fun y1 =>
  bif !y1 then
   some (false)
  else
  bif !(a0.2.2.2.2.2.1==(0:Int)) then
   some (false)
  else
  bif a0.2.1==(5:Int) then
   some (false)
  else
  bif !(a0.2.1==(2:Int)) then
   some (true)
  else
   (idx a0.2.2.1 (0:Int)).bind fun x2 =>
    some (!x2.1)
noncomputable def F.zch (n:Nat) (a0:Z8):Option (Bool):=
 some (true)
noncomputable def F.zbc (n:Nat) (a0:Z8):Option (Bool):=
 (F.zbb n (a0.1,a0.2.1,a0.2.2.1,a0.2.2.2.1,a0.2.2.2.2.1,a0.2.2.2.2.2.1,())).bind fun y1 =>
  bif y1 then
   bif !(a0.2.2.2.2.2.1==(0:Int)) then
    some (a0.2.1==(2:Int))
   else
    some (false)
  else
   some (false)
noncomputable def F.za2 (n:Nat) (a0:Z8) (a1:Int):Option (Int):=
 bif a1==(1:Int) then
  (F.zv n (a0.1,a0.2.1,a0.2.2.1,a0.2.2.2.1,a0.2.2.2.2.1,a0.2.2.2.2.2.1,())).bind fun y1 =>
   bif !(y1==(0:Int)) then
    some (y1)
   else
    (F.zbi n (a0.1,a0.2.1,a0.2.2.1,a0.2.2.2.1,a0.2.2.2.2.1,a0.2.2.2.2.2.1,())).bind fun y2 =>
     bif !y2 then
      some ((26:Int))
     else
      some ((0:Int))
 else
 bif a1==(2:Int) then
  (F.zv n (a0.1,a0.2.1,a0.2.2.1,a0.2.2.2.1,a0.2.2.2.2.1,a0.2.2.2.2.2.1,())).bind fun y3 =>
   bif !(y3==(0:Int)) then
    some (y3)
   else
    (F.zch n (a0.1,a0.2.1,a0.2.2.1,a0.2.2.2.1,a0.2.2.2.2.1,a0.2.2.2.2.2.1,())).bind fun y4 =>
     bif !y4 then
      some ((26:Int))
     else
      some ((0:Int))
 else
 bif a1==(3:Int) then
  (F.zv n (a0.1,a0.2.1,a0.2.2.1,a0.2.2.2.1,a0.2.2.2.2.1,a0.2.2.2.2.2.1,())).bind fun y5 =>
   bif !(y5==(0:Int)) then
    some (y5)
   else
    (F.zbc n (a0.1,a0.2.1,a0.2.2.1,a0.2.2.2.1,a0.2.2.2.2.1,a0.2.2.2.2.2.1,())).bind fun y6 =>
     bif !y6 then
      some ((26:Int))
     else
      some ((0:Int))
 else
 bif a1==(4:Int) then
  (F.zv n (a0.1,a0.2.1,a0.2.2.1,a0.2.2.2.1,a0.2.2.2.2.1,a0.2.2.2.2.2.1,())).bind fun y7 =>
   bif !(y7==(0:Int)) then
    some (y7)
   else
    (F.zch n (a0.1,a0.2.1,a0.2.2.1,a0.2.2.2.1,a0.2.2.2.2.1,a0.2.2.2.2.2.1,())).bind fun y8 =>
     bif !y8 then
      some ((26:Int))
     else
      some ((0:Int))
 else
  some ((29:Int))
noncomputable def F.zby (n:Nat) (a0:Z9):Option ((Z0)×(Int)×Unit):=
 (F.zb3 n (a0.1,a0.2.1,a0.2.2.1,())).bind fun y1 =>
  bif !(y1==(0:Int)) then
   some (([],y1,()))
  else
   (O.futoa n a0.2.1 (10:Int)).bind fun y2 =>
    bif decide (a0.2.2.1≥(0:Int)) then
     (O.repeat' n ([48]) a0.2.2.1).bind fun y3 =>
      bif decide (y2.length+y3.length≤strMax) then
       bif a0.1 then
        bif decide (1+((y2++y3).length)≤strMax) then
         some ((([45])++(y2++y3),(0:Int),()))
        else
         none
       else
        some ((y2++y3,(0:Int),()))
      else
       none
    else
     (O.repeat' n ([48]) (if (IntKind.wrap .i64 ((IntKind.wrap .i64 ((1:Int) - a0.2.2.1)) - (y2.length:Int)))>(0:Int) then (IntKind.wrap .i64 ((IntKind.wrap .i64 ((1:Int) - a0.2.2.1)) - (y2.length:Int))) else (0:Int))).bind fun y4 =>
      bif decide (y4.length+y2.length≤strMax) then
       (sub (y4++y2) (0:Int) (IntKind.wrap .i64 (((y4++y2).length:Int)+a0.2.2.1))).bind fun x5 =>
        bif decide (x5.length+1≤strMax) then
         (sub (y4++y2) (IntKind.wrap .i64 (((y4++y2).length:Int)+a0.2.2.1)) ((y4++y2).length:Int)).bind fun x6 =>
          bif decide (((x5++([46])).length)+x6.length≤strMax) then
           bif a0.1 then
            bif decide (1+(((x5++([46]))++x6).length)≤strMax) then
             some ((([45])++((x5++([46]))++x6),(0:Int),()))
            else
             none
           else
            some (((x5++([46]))++x6,(0:Int),()))
          else
           none
        else
         none
      else
       none
noncomputable def F.zbt (n:Nat) (a0:Int):Option ((Z0)×(Int)×Unit):=
 bif decide (a0<(1:Int)) then
  some (([],(10:Int),()))
 else
 bif decide (a0>(1000000:Int)) then
  some (([],(10:Int),()))
 else
 bif a0==(1000000:Int) then
  some (([49],(0:Int),()))
 else
  (O.itoa n (IntKind.wrap .i64 ((1000000:Int)+a0))).bind fun y1 =>
   (sub y1 (1:Int) (y1.length:Int)).bind fun x2 =>
    (O.trimR n x2 ([48])).bind fun y3 =>
     bif decide (2+y3.length≤strMax) then
      some ((([48,46])++y3,(0:Int),()))
     else
      none
noncomputable def F.zb0 (n:Nat) (a0:Z8):Option ((Z0)×(Int)×Unit):=
 (F.za2 n (a0.1,a0.2.1,a0.2.2.1,a0.2.2.2.1,a0.2.2.2.2.1,a0.2.2.2.2.2.1,()) (1:Int)).bind fun y1 =>
  bif !(y1==(0:Int)) then
   some (([],y1,()))
  else
   (O.word n a0.2.1).bind fun y2 =>
    bif !(y2.2.1==(0:Int)) then
     some (([],y2.2.1,()))
    else
     (idx a0.2.2.1 (0:Int)).bind fun x3 =>
      (F.zby n (x3.1,x3.2.1,x3.2.2,())).bind fun y4 =>
       bif !(y4.2.1==(0:Int)) then
        some (([],y4.2.1,()))
       else
       bif decide (a0.1.length+1≤strMax) then
        bif decide (((a0.1++([58])).length)+y4.1.length≤strMax) then
         bif decide ((((a0.1++([58]))++y4.1).length)+1≤strMax) then
          bif decide (((((a0.1++([58]))++y4.1)++([124])).length)+y2.1.length≤strMax) then
           bif a0.2.2.2.1==(1000000:Int) then
            some (((((a0.1++([58]))++y4.1)++([124]))++y2.1,(0:Int),()))
           else
            (F.zbt n a0.2.2.2.1).bind fun y5 =>
             bif !(y5.2.1==(0:Int)) then
              some (([],y5.2.1,()))
             else
             bif decide ((((((a0.1++([58]))++y4.1)++([124]))++y2.1).length)+1≤strMax) then
              bif decide (((((((a0.1++([58]))++y4.1)++([124]))++y2.1)++([124])).length)+1≤strMax) then
               bif decide ((((((((a0.1++([58]))++y4.1)++([124]))++y2.1)++([124]))++([64])).length)+y5.1.length≤strMax) then
                some ((((((((a0.1++([58]))++y4.1)++([124]))++y2.1)++([124]))++([64]))++y5.1,(0:Int),()))
               else
                none
              else
               none
             else
              none
          else
           none
         else
          none
        else
         none
       else
        none
noncomputable def F.zco (n:Nat) (a0:Int):Option ((Z0)×(Int)×Unit):=
 bif decide (a0<(1:Int)) then
  some (([],(16:Int),()))
 else
 bif decide (a0>(5:Int)) then
  some (([],(16:Int),()))
 else
  (F.zcq n ).bind fun y1 =>
   bif a0==(0:Int) then
    some ((y1.1,(0:Int),()))
   else
   bif a0==(1:Int) then
    some ((y1.2.1,(0:Int),()))
   else
   bif a0==(2:Int) then
    some ((y1.2.2.1,(0:Int),()))
   else
   bif a0==(3:Int) then
    some ((y1.2.2.2.1,(0:Int),()))
   else
   bif a0==(4:Int) then
    some ((y1.2.2.2.2.1,(0:Int),()))
   else
   bif a0==(5:Int) then
    some ((y1.2.2.2.2.2.1,(0:Int),()))
   else
    none
noncomputable def F.za3.L3.step {X:Type} (n:Nat) (rec:Z10→Z4→Int→Int→Nat→Option X) (k0:Z10→Nat→Option X) (kr:Z0→Int→Int→Option X) (v5:Z10) (v10:Z4) (v11:Int) (v12:Int) (vk0:Nat):Option X:=
 bif decide (v12<v11) then
  (idx v10 v12).bind fun x1 =>
   (F.zb2 n (x1.1,x1.2,())).bind fun y2 =>
    bif !(y2==(0:Int)) then
     kr [] v12 y2
    else
    bif !(x1.2==[]) then
     bif decide (1+x1.2.length≤strMax) then
      bif decide (x1.1.length+((([58])++x1.2).length)≤strMax) then
       bif decide ((v5.length+1)*16≤2 ^ 46)&&decide (0<16∧16≤2 ^ 20) then
        bif Nat.beq vk0 v5.length then
         rec (v5++([x1.1++(([58])++x1.2)])) v10 v11 (IntKind.wrap .i64 (v12+(1:Int))) ((v5++([x1.1++(([58])++x1.2)])).length)
        else
         none
       else
        none
      else
       none
     else
      none
    else
    bif decide ((v5.length+1)*16≤2 ^ 46)&&decide (0<16∧16≤2 ^ 20) then
     bif Nat.beq vk0 v5.length then
      rec (v5++([x1.1])) v10 v11 (IntKind.wrap .i64 (v12+(1:Int))) ((v5++([x1.1])).length)
     else
      none
    else
     none
 else
  k0 v5 vk0
noncomputable def F.za3.L3 {X:Type} (n:Nat) (k0:Z10→Nat→Option X) (kr:Z0→Int→Int→Option X):Nat→Z10→Z4→Int→Int→Nat→Option X
 | 0=>fun _ _ _ _ _=>none
 | m+1=>fun v5 v10 v11 v12 vk0=>F.za3.L3.step n (F.za3.L3 n k0 kr m) k0 kr v5 v10 v11 v12 vk0
noncomputable def F.za3 (n:Nat) (a0:Z4):Option ((Z0)×(Int)×(Int)×Unit):=
 F.za3.L3 n
  (fun e5 ek0 =>
   (O.join n e5 ([44])).bind fun y4 =>
    some ((y4,(0:Int),(0:Int),())))
  (fun e2 e3 e4 =>
   some ((e2,e3,e4,()))) n [] a0 (a0.length:Int) (0:Int) 0
noncomputable def F.zci (n:Nat) (a0:Int):Option ((Z0)×(Int)×Unit):=
 bif decide (a0<(0:Int)) then
  some (([],(10:Int),()))
 else
  (O.itoa n a0).bind fun y1 =>
   some ((y1,(0:Int),()))
noncomputable def F.zi.L9.step {X:Type} (n:Nat) (rec:Z2→Int→Int→Z0→Int→Z2→Int→Z4→Int→Z23→Z12→Int→Option X) (k0:Z0→Int→Z2→Int→Z4→Int→Z23→Z12→Int→Option X) (v34:Z2) (v35:Int) (v36:Int) (ab0:Z0) (ab1:Int) (ab2:Z2) (ab3:Int) (ab4:Z4) (ab5:Int) (bb0:Z23) (cb1:Z12) (db0:Int):Option X:=
 bif decide (v36<v35) then
  (idx v34 v36).bind fun x2 =>
   (F.zby n (x2.1,x2.2.1,x2.2.2,())).bind fun y3 =>
    bif db0==(0:Int) then
     bif decide (1+y3.1.length≤strMax) then
      bif Nat.beq cb1.1 bb0.1 then
       bif decide ((bb0.2.length+((([58])++y3.1).length))*1≤2 ^ 46)&&decide (0<1∧1≤2 ^ 20) then
        rec v34 v35 (IntKind.wrap .i64 (v36+(1:Int))) ab0 ab1 ab2 ab3 ab4 ab5 (cb1.1+1,bb0.2++(([58])++y3.1)) (cb1.1+1,(bb0.2++(([58])++y3.1)).length) y3.2.1
       else
        none
      else
       none
     else
      none
    else
    bif decide (1+y3.1.length≤strMax) then
     bif Nat.beq cb1.1 bb0.1 then
      bif decide ((bb0.2.length+((([58])++y3.1).length))*1≤2 ^ 46)&&decide (0<1∧1≤2 ^ 20) then
       rec v34 v35 (IntKind.wrap .i64 (v36+(1:Int))) ab0 ab1 ab2 ab3 ab4 ab5 (cb1.1+1,bb0.2++(([58])++y3.1)) (cb1.1+1,(bb0.2++(([58])++y3.1)).length) db0
      else
       none
     else
      none
    else
     none
 else
  k0 ab0 ab1 ab2 ab3 ab4 ab5 (bb0.1,bb0.2) (cb1.1,cb1.2) db0
noncomputable def F.zi.L9 {X:Type} (n:Nat) (k0:Z0→Int→Z2→Int→Z4→Int→Z23→Z12→Int→Option X):Nat→Z2→Int→Int→Z0→Int→Z2→Int→Z4→Int→Z23→Z12→Int→Option X
 | 0=>fun _ _ _ _ _ _ _ _ _ _ _ _=>none
 | m+1=>fun v34 v35 v36 ab0 ab1 ab2 ab3 ab4 ab5 bb0 cb1 db0=>F.zi.L9.step n (F.zi.L9 n k0 m) k0 v34 v35 v36 ab0 ab1 ab2 ab3 ab4 ab5 bb0 cb1 db0
noncomputable def F.zi.C25 {X:Type} (n:Nat) (kr:Z0→Int→Option X) (ab0:Z0) (ab1:Int) (ab2:Z2) (ab3:Int) (ab4:Z4) (ab5:Int) (bb0:Z23) (cb1:Z12) (db0:Int):Option X:=
 bif !(db0==(0:Int)) then
  kr [] db0
 else
 bif Nat.beq cb1.1 bb0.1 then
  bif List.isEmpty bb0.2 then
   none
  else
   kr bb0.2 (0:Int)
 else
  none
noncomputable def F.zi.C22 {X:Type} (n:Nat) (kr:Z0→Int→Option X) (ab0:Z0) (ab1:Int) (ab2:Z2) (ab3:Int) (ab4:Z4) (ab5:Int) (bb0:Z23) (cb1:Z12) (db0:Int):Option X:=
 bif !(ab5==(0:Int)) then
  (F.zci n ab5).bind fun y12 =>
   bif db0==(0:Int) then
    bif decide (2+y12.1.length≤strMax) then
     bif Nat.beq cb1.1 bb0.1 then
      bif decide ((bb0.2.length+((([124,84])++y12.1).length))*1≤2 ^ 46)&&decide (0<1∧1≤2 ^ 20) then
       F.zi.C25 n
        (fun e2 e3 =>
         kr e2 e3) ab0 ab1 ab2 ab3 ab4 ab5 (cb1.1+1,bb0.2++(([124,84])++y12.1)) (cb1.1+1,(bb0.2++(([124,84])++y12.1)).length) y12.2.1
      else
       none
     else
      none
    else
     none
   else
   bif decide (2+y12.1.length≤strMax) then
    bif Nat.beq cb1.1 bb0.1 then
     bif decide ((bb0.2.length+((([124,84])++y12.1).length))*1≤2 ^ 46)&&decide (0<1∧1≤2 ^ 20) then
      F.zi.C25 n
       (fun e2 e3 =>
        kr e2 e3) ab0 ab1 ab2 ab3 ab4 ab5 (cb1.1+1,bb0.2++(([124,84])++y12.1)) (cb1.1+1,(bb0.2++(([124,84])++y12.1)).length) db0
     else
      none
    else
     none
   else
    none
 else
  F.zi.C25 n
   (fun e2 e3 =>
    kr e2 e3) ab0 ab1 ab2 ab3 ab4 ab5 (bb0.1,bb0.2) (cb1.1,cb1.2) db0
noncomputable def F.zi.C19 {X:Type} (n:Nat) (kr:Z0→Int→Option X) (ab0:Z0) (ab1:Int) (ab2:Z2) (ab3:Int) (ab4:Z4) (ab5:Int) (bb0:Z23) (cb1:Z12) (db0:Int):Option X:=
 bif decide ((ab4.length:Int)>(0:Int)) then
  (F.za3 n ab4).bind fun y19 =>
   bif db0==(0:Int) then
    bif decide (2+y19.1.length≤strMax) then
     bif Nat.beq cb1.1 bb0.1 then
      bif decide ((bb0.2.length+((([124,35])++y19.1).length))*1≤2 ^ 46)&&decide (0<1∧1≤2 ^ 20) then
       F.zi.C22 n
        (fun e2 e3 =>
         kr e2 e3) ab0 ab1 ab2 ab3 ab4 ab5 (cb1.1+1,bb0.2++(([124,35])++y19.1)) (cb1.1+1,(bb0.2++(([124,35])++y19.1)).length) y19.2.2.1
      else
       none
     else
      none
    else
     none
   else
   bif decide (2+y19.1.length≤strMax) then
    bif Nat.beq cb1.1 bb0.1 then
     bif decide ((bb0.2.length+((([124,35])++y19.1).length))*1≤2 ^ 46)&&decide (0<1∧1≤2 ^ 20) then
      F.zi.C22 n
       (fun e2 e3 =>
        kr e2 e3) ab0 ab1 ab2 ab3 ab4 ab5 (cb1.1+1,bb0.2++(([124,35])++y19.1)) (cb1.1+1,(bb0.2++(([124,35])++y19.1)).length) db0
     else
      none
    else
     none
   else
    none
 else
  F.zi.C22 n
   (fun e2 e3 =>
    kr e2 e3) ab0 ab1 ab2 ab3 ab4 ab5 (bb0.1,bb0.2) (cb1.1,cb1.2) db0
noncomputable def F.zi.C16 {X:Type} (n:Nat) (kr:Z0→Int→Option X) (ab0:Z0) (ab1:Int) (ab2:Z2) (ab3:Int) (ab4:Z4) (ab5:Int) (bb0:Z23) (cb1:Z12) (db0:Int):Option X:=
 bif !(ab3==(1000000:Int)) then
  (F.zbt n ab3).bind fun y26 =>
   bif db0==(0:Int) then
    bif decide (2+y26.1.length≤strMax) then
     bif Nat.beq cb1.1 bb0.1 then
      bif decide ((bb0.2.length+((([124,64])++y26.1).length))*1≤2 ^ 46)&&decide (0<1∧1≤2 ^ 20) then
       F.zi.C19 n
        (fun e2 e3 =>
         kr e2 e3) ab0 ab1 ab2 ab3 ab4 ab5 (cb1.1+1,bb0.2++(([124,64])++y26.1)) (cb1.1+1,(bb0.2++(([124,64])++y26.1)).length) y26.2.1
      else
       none
     else
      none
    else
     none
   else
   bif decide (2+y26.1.length≤strMax) then
    bif Nat.beq cb1.1 bb0.1 then
     bif decide ((bb0.2.length+((([124,64])++y26.1).length))*1≤2 ^ 46)&&decide (0<1∧1≤2 ^ 20) then
      F.zi.C19 n
       (fun e2 e3 =>
        kr e2 e3) ab0 ab1 ab2 ab3 ab4 ab5 (cb1.1+1,bb0.2++(([124,64])++y26.1)) (cb1.1+1,(bb0.2++(([124,64])++y26.1)).length) db0
     else
      none
    else
     none
   else
    none
 else
  F.zi.C19 n
   (fun e2 e3 =>
    kr e2 e3) ab0 ab1 ab2 ab3 ab4 ab5 (bb0.1,bb0.2) (cb1.1,cb1.2) db0
noncomputable def F.zi (n:Nat) (a0:Z8):Option ((Z0)×(Int)×Unit):=
 (F.zn n (a0.1,a0.2.1,a0.2.2.1,a0.2.2.2.1,a0.2.2.2.2.1,a0.2.2.2.2.2.1,())).bind fun y1 =>
  bif !(y1.2.1==(0:Int)) then
   some (([],y1.2.1,()))
  else
  bif decide (0+y1.1.1.length≤strMax) then
   bif decide ((0+(([]++y1.1.1).length))*1≤2 ^ 46)&&decide (0<1∧1≤2 ^ 20) then
    F.zi.L9 n
     (fun g0 g1 g2 g3 g4 g5 h0 i1 j0 =>
      (F.zco n g1).bind fun y5 =>
       bif j0==(0:Int) then
        bif decide (1+y5.1.length≤strMax) then
         bif Nat.beq i1.1 h0.1 then
          bif decide ((h0.2.length+((([124])++y5.1).length))*1≤2 ^ 46)&&decide (0<1∧1≤2 ^ 20) then
           F.zi.C16 n
            (fun e2 e3 =>
             some ((e2,e3,()))) g0 g1 g2 g3 g4 g5 (i1.1+1,h0.2++(([124])++y5.1)) (i1.1+1,(h0.2++(([124])++y5.1)).length) y5.2.1
          else
           none
         else
          none
        else
         none
       else
       bif decide (1+y5.1.length≤strMax) then
        bif Nat.beq i1.1 h0.1 then
         bif decide ((h0.2.length+((([124])++y5.1).length))*1≤2 ^ 46)&&decide (0<1∧1≤2 ^ 20) then
          F.zi.C16 n
           (fun e2 e3 =>
            some ((e2,e3,()))) g0 g1 g2 g3 g4 g5 (i1.1+1,h0.2++(([124])++y5.1)) (i1.1+1,(h0.2++(([124])++y5.1)).length) j0
         else
          none
        else
         none
       else
        none) n y1.1.2.2.1 (y1.1.2.2.1.length:Int) (0:Int) y1.1.1 y1.1.2.1 y1.1.2.2.1 y1.1.2.2.2.1 y1.1.2.2.2.2.1 y1.1.2.2.2.2.2.1 (2,[]++([]++y1.1.1)) (2,([]++([]++y1.1.1)).length) (0:Int)
   else
    none
  else
   none
noncomputable def F.zbo (n:Nat) (a0:Z8):Option ((Z0)×(Int)×Unit):=
 (F.za2 n (a0.1,a0.2.1,a0.2.2.1,a0.2.2.2.1,a0.2.2.2.2.1,a0.2.2.2.2.2.1,()) (3:Int)).bind fun y1 =>
  bif !(y1==(0:Int)) then
   some (([],y1,()))
  else
   (idx a0.2.2.1 (0:Int)).bind fun x2 =>
    (F.zby n (x2.1,x2.2.1,x2.2.2,())).bind fun y3 =>
     bif !(y3.2.1==(0:Int)) then
      some (([],y3.2.1,()))
     else
      (F.zci n a0.2.2.2.2.2.1).bind fun y4 =>
       bif !(y4.2.1==(0:Int)) then
        some (([],y4.2.1,()))
       else
       bif decide (a0.1.length+1≤strMax) then
        bif decide (((a0.1++([32])).length)+y3.1.length≤strMax) then
         bif decide ((((a0.1++([32]))++y3.1).length)+1≤strMax) then
          bif decide (((((a0.1++([32]))++y3.1)++([32])).length)+y4.1.length≤strMax) then
           some (((((a0.1++([32]))++y3.1)++([32]))++y4.1,(0:Int),()))
          else
           none
         else
          none
        else
         none
       else
        none
noncomputable def F.zck (n:Nat) (a0:Z8) (a1:Int):Option ((Z0)×(Int)×Unit):=
 bif a1==(1:Int) then
  (F.zn n (a0.1,a0.2.1,a0.2.2.1,a0.2.2.2.1,a0.2.2.2.2.1,a0.2.2.2.2.2.1,())).bind fun y1 =>
   bif !(y1.2.1==(0:Int)) then
    some (([],y1.2.1,()))
   else
    (F.za2 n (y1.1.1,y1.1.2.1,y1.1.2.2.1,y1.1.2.2.2.1,y1.1.2.2.2.2.1,y1.1.2.2.2.2.2.1,()) a1).bind fun y2 =>
     bif !(y2==(0:Int)) then
      some (([],y2,()))
     else
      (F.zb0 n (y1.1.1,y1.1.2.1,y1.1.2.2.1,y1.1.2.2.2.1,y1.1.2.2.2.2.1,y1.1.2.2.2.2.2.1,())).bind fun y3 =>
       some ((y3.1,y3.2.1,()))
 else
 bif a1==(2:Int) then
  (F.zn n (a0.1,a0.2.1,a0.2.2.1,a0.2.2.2.1,a0.2.2.2.2.1,a0.2.2.2.2.2.1,())).bind fun y4 =>
   bif !(y4.2.1==(0:Int)) then
    some (([],y4.2.1,()))
   else
    (F.za2 n (y4.1.1,y4.1.2.1,y4.1.2.2.1,y4.1.2.2.2.1,y4.1.2.2.2.2.1,y4.1.2.2.2.2.2.1,()) a1).bind fun y5 =>
     bif !(y5==(0:Int)) then
      some (([],y5,()))
     else
      (F.zi n (y4.1.1,y4.1.2.1,y4.1.2.2.1,y4.1.2.2.2.1,y4.1.2.2.2.2.1,y4.1.2.2.2.2.2.1,())).bind fun y6 =>
       some ((y6.1,y6.2.1,()))
 else
 bif a1==(3:Int) then
  (F.zn n (a0.1,a0.2.1,a0.2.2.1,a0.2.2.2.1,a0.2.2.2.2.1,a0.2.2.2.2.2.1,())).bind fun y7 =>
   bif !(y7.2.1==(0:Int)) then
    some (([],y7.2.1,()))
   else
    (F.za2 n (y7.1.1,y7.1.2.1,y7.1.2.2.1,y7.1.2.2.2.1,y7.1.2.2.2.2.1,y7.1.2.2.2.2.2.1,()) a1).bind fun y8 =>
     bif !(y8==(0:Int)) then
      some (([],y8,()))
     else
      (F.zbo n (y7.1.1,y7.1.2.1,y7.1.2.2.1,y7.1.2.2.2.1,y7.1.2.2.2.2.1,y7.1.2.2.2.2.2.1,())).bind fun y9 =>
       some ((y9.1,y9.2.1,()))
 else
  some (([],(29:Int),()))
noncomputable def F.zal.go (n:Nat):Nat→(Int)→Option (Z0)
 | 0=>fun _=>none
 | m + 1=>fun a0 =>
  bif decide (a0<(10:Int)) then
   (sub ([48,49,50,51,52,53,54,55,56,57]) a0 (IntKind.wrap .u64 (a0+(1:Int)))).bind fun x1 =>
    some (x1)
  else
   (F.zal.go n m (IntKind.wrap .u64 (a0.tdiv (10:Int)))).bind fun y2 =>
    (sub ([48,49,50,51,52,53,54,55,56,57]) (a0.tmod (10:Int)) (IntKind.wrap .u64 ((a0.tmod (10:Int))+(1:Int)))).bind fun x3 =>
     bif decide (y2.length+x3.length≤strMax) then
      some (y2++x3)
     else
      none
noncomputable def F.zal (n:Nat) (a0:Int):Option (Z0):=F.zal.go n n a0
noncomputable def F.zb4 (n:Nat) (a0:Z9):Option ((Z9)×(Int)×Unit):=
 (F.zal n a0.2.1).bind fun y1 =>
  (F.zd n a0.1 y1 a0.2.2.1).bind fun y2 =>
   bif !y2.2.1 then
    some (((false,(0:Int),(0:Int),()),(10:Int),()))
   else
    some (((y2.1.1,y2.1.2.1,y2.1.2.2.1,()),(0:Int),()))
noncomputable def F.zcg (n:Nat) (a0:Z15):Option (Int):=
 (F.zbd n (a0.1,a0.2.1,())).bind fun y1 =>
  bif !y1 then
   some ((19:Int))
  else
   some ((0:Int))
noncomputable def F.z6.L12.step {X:Type} (n:Nat) (rec:Int→Z0→Int→Z2→Int→Z4→Int→Option X) (k0:Z0→Int→Z2→Int→Z4→Int→Option X) (kr:Int→Z0→Int→Z2→Int→Z4→Int→Option X) (v5:Int) (ab0:Z0) (ab1:Int) (ab2:Z2) (ab3:Int) (ab4:Z4) (ab5:Int):Option X:=
 bif decide (v5<(ab4.length:Int)) then
  (idx ab4 v5).bind fun x2 =>
   (F.zcg n (x2.1,x2.2,())).bind fun y3 =>
    bif !(y3==(0:Int)) then
     kr (19:Int) ab0 ab1 ab2 ab3 ab4 ab5
    else
     rec (IntKind.wrap .i64 (v5+(1:Int))) ab0 ab1 ab2 ab3 ab4 ab5
 else
  k0 ab0 ab1 ab2 ab3 ab4 ab5
noncomputable def F.z6.L12 {X:Type} (n:Nat) (k0:Z0→Int→Z2→Int→Z4→Int→Option X) (kr:Int→Z0→Int→Z2→Int→Z4→Int→Option X):Nat→Int→Z0→Int→Z2→Int→Z4→Int→Option X
 | 0=>fun _ _ _ _ _ _ _=>none
 | m+1=>fun v5 ab0 ab1 ab2 ab3 ab4 ab5=>F.z6.L12.step n (F.z6.L12 n k0 kr m) k0 kr v5 ab0 ab1 ab2 ab3 ab4 ab5
noncomputable def F.z6 (n:Nat) (a0:Z8) (a1:Bool):Option (Int):=
 (F.zae n a0.1).bind fun y1 =>
  bif !y1 then
   some ((15:Int))
  else
  bif decide (a0.2.1<(1:Int)) then
   some ((16:Int))
  else
  bif decide (a0.2.1>(5:Int)) then
   some ((16:Int))
  else
  bif !a1 then
   some ((17:Int))
  else
  bif decide ((a0.2.2.1.length:Int)<(1:Int)) then
   some ((17:Int))
  else
  bif decide ((a0.2.2.1.length:Int)>(64:Int)) then
   some ((17:Int))
  else
  bif decide (a0.2.2.2.1<(1:Int)) then
   some ((18:Int))
  else
  bif decide (a0.2.2.2.1>(1000000:Int)) then
   some ((18:Int))
  else
  bif a0.2.1==(2:Int) then
   bif !(a0.2.2.2.1==(1000000:Int)) then
    some ((18:Int))
   else
   bif decide ((a0.2.2.2.2.1.length:Int)>(32:Int)) then
    some ((19:Int))
   else
    F.z6.L12 n
     (fun g0 g1 g2 g3 g4 g5 =>
      bif decide (g5<(0:Int)) then
       some ((20:Int))
      else
      bif decide (g5>(1099511627776:Int)) then
       some ((20:Int))
      else
       some ((0:Int)))
     (fun e4 g0 g1 g2 g3 g4 g5 =>
      some (e4)) n (0:Int) a0.1 a0.2.1 a0.2.2.1 a0.2.2.2.1 a0.2.2.2.2.1 a0.2.2.2.2.2.1
  else
  bif decide ((a0.2.2.2.2.1.length:Int)>(32:Int)) then
   some ((19:Int))
  else
   F.z6.L12 n
    (fun g0 g1 g2 g3 g4 g5 =>
     bif decide (g5<(0:Int)) then
      some ((20:Int))
     else
     bif decide (g5>(1099511627776:Int)) then
      some ((20:Int))
     else
      some ((0:Int)))
    (fun e4 g0 g1 g2 g3 g4 g5 =>
     some (e4)) n (0:Int) a0.1 a0.2.1 a0.2.2.1 a0.2.2.2.1 a0.2.2.2.2.1 a0.2.2.2.2.2.1
noncomputable def F.zad.L4.step {X:Type} (n:Nat) (rec:Bool→Z2→Int→Z0→Int→Z2→Int→Z4→Int→Z0→Int→Z2→Int→Z4→Int→Nat→Nat→Nat→Option X) (k0:Bool→Z2→Z0→Int→Z2→Int→Z4→Int→Z0→Int→Z2→Int→Z4→Int→Nat→Nat→Nat→Option X) (v4:Bool) (v5:Z2) (v6:Int) (ab0:Z0) (ab1:Int) (ab2:Z2) (ab3:Int) (ab4:Z4) (ab5:Int) (bb0:Z0) (bb1:Int) (bb2:Z2) (bb3:Int) (bb4:Z4) (bb5:Int) (vk0:Nat) (vk1:Nat) (vk2:Nat):Option X:=
 bif decide (v6<(ab2.length:Int)) then
  (idx ab2 v6).bind fun x1 =>
   (F.zb4 n (x1.1,x1.2.1,x1.2.2,())).bind fun y2 =>
    bif v4 then
     bif decide ((v5.length+1)*24≤2 ^ 46)&&decide (0<24∧24≤2 ^ 20) then
      bif Nat.beq vk0 v5.length then
       rec (y2.2.1==(0:Int)) (v5++([(y2.1.1,y2.1.2.1,y2.1.2.2.1)])) (IntKind.wrap .i64 (v6+(1:Int))) ab0 ab1 ab2 ab3 ab4 ab5 bb0 bb1 bb2 bb3 bb4 bb5 ((v5++([(y2.1.1,y2.1.2.1,y2.1.2.2.1)])).length) vk1 vk2
      else
       none
     else
      none
    else
    bif decide ((v5.length+1)*24≤2 ^ 46)&&decide (0<24∧24≤2 ^ 20) then
     bif Nat.beq vk0 v5.length then
      rec false (v5++([(y2.1.1,y2.1.2.1,y2.1.2.2.1)])) (IntKind.wrap .i64 (v6+(1:Int))) ab0 ab1 ab2 ab3 ab4 ab5 bb0 bb1 bb2 bb3 bb4 bb5 ((v5++([(y2.1.1,y2.1.2.1,y2.1.2.2.1)])).length) vk1 vk2
     else
      none
    else
     none
 else
  k0 v4 v5 ab0 ab1 ab2 ab3 ab4 ab5 bb0 bb1 bb2 bb3 bb4 bb5 vk0 vk1 vk2
noncomputable def F.zad.L4 {X:Type} (n:Nat) (k0:Bool→Z2→Z0→Int→Z2→Int→Z4→Int→Z0→Int→Z2→Int→Z4→Int→Nat→Nat→Nat→Option X):Nat→Bool→Z2→Int→Z0→Int→Z2→Int→Z4→Int→Z0→Int→Z2→Int→Z4→Int→Nat→Nat→Nat→Option X
 | 0=>fun _ _ _ _ _ _ _ _ _ _ _ _ _ _ _ _ _ _=>none
 | m+1=>fun v4 v5 v6 ab0 ab1 ab2 ab3 ab4 ab5 bb0 bb1 bb2 bb3 bb4 bb5 vk0 vk1 vk2=>F.zad.L4.step n (F.zad.L4 n k0 m) k0 v4 v5 v6 ab0 ab1 ab2 ab3 ab4 ab5 bb0 bb1 bb2 bb3 bb4 bb5 vk0 vk1 vk2
noncomputable def F.zad (n:Nat) (a0:Z8):Option ((Z8)×(Int)×Unit):=
 F.zad.L4 n
  (fun e4 e5 g0 g1 g2 g3 g4 g5 h0 h1 h2 h3 h4 h5 ek0 ek1 ek2 =>
   (F.z6 n (g0,g1,g2,g3,g4,g5,()) e4).bind fun y4 =>
    bif !(y4==(0:Int)) then
     some ((([],(0:Int),[],(0:Int),[],(0:Int),()),y4,()))
    else
     (F.zh n g4).bind fun y5 =>
      some (((g0,g1,e5,g3,y5,g5,()),(0:Int),()))) n true [] (0:Int) a0.1 a0.2.1 a0.2.2.1 a0.2.2.2.1 a0.2.2.2.2.1 a0.2.2.2.2.2.1 [] (0:Int) [] (0:Int) [] (0:Int) 0 0 0
noncomputable def F.zb1 (n:Nat) (a0:Z9):Option (Int):=
 bif !(a0.2.1==(0:Int)) then
  bif decide (a0.2.2.1<(-18:Int)) then
   some ((10:Int))
  else
  bif decide (a0.2.2.1>(18:Int)) then
   some ((10:Int))
  else
   (F.zal n a0.2.1).bind fun y1 =>
    (F.zd n a0.1 y1 a0.2.2.1).bind fun y2 =>
     bif !y2.2.1 then
      some ((21:Int))
     else
     bif !((y2.1.1==a0.1)&&((y2.1.2.1==a0.2.1)&&(y2.1.2.2.1==a0.2.2.1))) then
      some ((21:Int))
     else
      some ((0:Int))
 else
  (F.zal n a0.2.1).bind fun y3 =>
   (F.zd n a0.1 y3 a0.2.2.1).bind fun y4 =>
    bif !y4.2.1 then
     some ((21:Int))
    else
    bif !((y4.1.1==a0.1)&&((y4.1.2.1==a0.2.1)&&(y4.1.2.2.1==a0.2.2.1))) then
     some ((21:Int))
    else
     some ((0:Int))
noncomputable def F.zab.L3.step {X:Type} (n:Nat) (rec:Bool→Int→Z0→Int→Z2→Int→Z4→Int→Option X) (k0:Bool→Z0→Int→Z2→Int→Z4→Int→Option X) (v3:Bool) (v4:Int) (ab0:Z0) (ab1:Int) (ab2:Z2) (ab3:Int) (ab4:Z4) (ab5:Int):Option X:=
 bif decide (v4<(ab2.length:Int)) then
  bif v3 then
   (idx ab2 v4).bind fun x1 =>
    (F.zb1 n (x1.1,x1.2.1,x1.2.2,())).bind fun y2 =>
     rec (y2==(0:Int)) (IntKind.wrap .i64 (v4+(1:Int))) ab0 ab1 ab2 ab3 ab4 ab5
  else
   rec false (IntKind.wrap .i64 (v4+(1:Int))) ab0 ab1 ab2 ab3 ab4 ab5
 else
  k0 v3 ab0 ab1 ab2 ab3 ab4 ab5
noncomputable def F.zab.L3 {X:Type} (n:Nat) (k0:Bool→Z0→Int→Z2→Int→Z4→Int→Option X):Nat→Bool→Int→Z0→Int→Z2→Int→Z4→Int→Option X
 | 0=>fun _ _ _ _ _ _ _ _=>none
 | m+1=>fun v3 v4 ab0 ab1 ab2 ab3 ab4 ab5=>F.zab.L3.step n (F.zab.L3 n k0 m) k0 v3 v4 ab0 ab1 ab2 ab3 ab4 ab5
noncomputable def F.zab (n:Nat) (a0:Z8):Option (Int):=
 F.zab.L3 n
  (fun e3 g0 g1 g2 g3 g4 g5 =>
   (F.z6 n (g0,g1,g2,g3,g4,g5,()) e3).bind fun y4 =>
    some (y4)) n true (0:Int) a0.1 a0.2.1 a0.2.2.1 a0.2.2.2.1 a0.2.2.2.2.1 a0.2.2.2.2.2.1
noncomputable def F.zb7 (n:Nat) (a0:Z8) (a1:Int):Option (Bool):=
 bif (a0.2.2.1.length:Int)==(1:Int) then
  bif a1==(1:Int) then
   bif (a0.2.2.2.2.1.length:Int)==(0:Int) then
    bif a0.2.2.2.2.2.1==(0:Int) then
     bif !(a0.2.1==(5:Int)) then
      bif a0.2.1==(2:Int) then
       (idx a0.2.2.1 (0:Int)).bind fun x1 =>
        some (!x1.1)
      else
       some (true)
     else
      some (false)
    else
     some (false)
   else
    some (false)
  else
  bif a1==(3:Int) then
   bif (a0.2.2.2.2.1.length:Int)==(0:Int) then
    bif !(a0.2.2.2.2.2.1==(0:Int)) then
     some (a0.2.1==(2:Int))
    else
     some (false)
   else
    some (false)
  else
   some (true)
 else
 bif a1==(1:Int) then
  some (false)
 else
 bif a1==(3:Int) then
  some (false)
 else
  some (true)
noncomputable def F.zbu (n:Nat) (a0:Z8) (a1:Int):Option (Int):=
 bif decide (a1<(1:Int)) then
  some ((29:Int))
 else
 bif decide (a1>(4:Int)) then
  some ((29:Int))
 else
  (F.zab n (a0.1,a0.2.1,a0.2.2.1,a0.2.2.2.1,a0.2.2.2.2.1,a0.2.2.2.2.2.1,())).bind fun y1 =>
   bif y1==(0:Int) then
    (F.zb7 n (a0.1,a0.2.1,a0.2.2.1,a0.2.2.2.1,a0.2.2.2.2.1,a0.2.2.2.2.2.1,()) a1).bind fun y2 =>
     bif !y2 then
      some ((26:Int))
     else
      some (y1)
   else
    some (y1)
noncomputable def F.zl.L3.step {X:Type} (n:Nat) (rec:Z0→Int→Bool→Int→Int→Option X) (k0:Z0→Bool→Int→Int→Option X) (v3:Z0) (v4:Int) (ab0:Bool) (ab1:Int) (ab2:Int):Option X:=
 bif decide (v4<ab2) then
  bif decide (v3.length+1≤strMax) then
   rec (v3++([48])) (IntKind.wrap .i64 (v4+(1:Int))) ab0 ab1 ab2
  else
   none
 else
  k0 v3 ab0 ab1 ab2
noncomputable def F.zl.L3 {X:Type} (n:Nat) (k0:Z0→Bool→Int→Int→Option X):Nat→Z0→Int→Bool→Int→Int→Option X
 | 0=>fun _ _ _ _ _=>none
 | m+1=>fun v3 v4 ab0 ab1 ab2=>F.zl.L3.step n (F.zl.L3 n k0 m) k0 v3 v4 ab0 ab1 ab2
noncomputable def F.zl.L7.step {X:Type} (n:Nat) (rec:Z0→Bool→Int→Int→Option X) (k2:Z0→Bool→Int→Int→Option X) (v3:Z0) (ab0:Bool) (ab1:Int) (ab2:Int):Option X:=
 bif decide ((v3.length:Int)≤(IntKind.wrap .i64 (0 - ab2))) then
  bif decide (1+v3.length≤strMax) then
   rec (([48])++v3) ab0 ab1 ab2
  else
   none
 else
  k2 v3 ab0 ab1 ab2
noncomputable def F.zl.L7 {X:Type} (n:Nat) (k2:Z0→Bool→Int→Int→Option X):Nat→Z0→Bool→Int→Int→Option X
 | 0=>fun _ _ _ _=>none
 | m+1=>fun v3 ab0 ab1 ab2=>F.zl.L7.step n (F.zl.L7 n k2 m) k2 v3 ab0 ab1 ab2
noncomputable def F.zl (n:Nat) (a0:Z9):Option (Z0):=
 (F.zal n a0.2.1).bind fun y1 =>
  F.zl.L3 n
   (fun e3 g0 g1 g2 =>
    bif decide (g2<(0:Int)) then
     F.zl.L7 n
      (fun e3 g0 g1 g2 =>
       (sub e3 (0:Int) (IntKind.wrap .i64 ((e3.length:Int)+g2))).bind fun x4 =>
        bif decide (x4.length+1≤strMax) then
         (sub e3 (IntKind.wrap .i64 ((e3.length:Int)+g2)) (e3.length:Int)).bind fun x5 =>
          bif decide (((x4++([46])).length)+x5.length≤strMax) then
           bif g0 then
            bif decide (1+(((x4++([46]))++x5).length)≤strMax) then
             some (([45])++((x4++([46]))++x5))
            else
             none
           else
            some ((x4++([46]))++x5)
          else
           none
        else
         none) n e3 g0 g1 g2
    else
    bif g0 then
     bif decide (1+e3.length≤strMax) then
      some (([45])++e3)
     else
      none
    else
     some (e3)) n y1 (0:Int) a0.1 a0.2.1 a0.2.2.1
noncomputable def F.zam.go (n:Nat):Nat→(Int)→Option (Z0)
 | 0=>fun _=>none
 | m + 1=>fun a0 =>
  bif decide (a0<(10:Int)) then
   (sub ([48,49,50,51,52,53,54,55,56,57]) a0 (IntKind.wrap .u64 (a0+(1:Int)))).bind fun x1 =>
    some (x1)
  else
   (F.zam.go n m (IntKind.wrap .u64 (a0.tdiv (10:Int)))).bind fun y2 =>
    (sub ([48,49,50,51,52,53,54,55,56,57]) (a0.tmod (10:Int)) (IntKind.wrap .u64 ((a0.tmod (10:Int))+(1:Int)))).bind fun x3 =>
     bif decide (y2.length+x3.length≤strMax) then
      some (y2++x3)
     else
      none
noncomputable def F.zam (n:Nat) (a0:Int):Option (Z0):=F.zam.go n n a0
noncomputable def F.zg.L4.step {X:Type} (n:Nat) (rec:Z0→Option X) (k0:Z0→Option X) (v3:Z0):Option X:=
 bif decide ((v3.length:Int)<(6:Int)) then
  bif decide (1+v3.length≤strMax) then
   rec (([48])++v3)
  else
   none
 else
  k0 v3
noncomputable def F.zg.L4 {X:Type} (n:Nat) (k0:Z0→Option X):Nat→Z0→Option X
 | 0=>fun _=>none
 | m+1=>fun v3=>F.zg.L4.step n (F.zg.L4 n k0 m) k0 v3
noncomputable def F.zg.L6.step {X:Type} (n:Nat) (rec:Z0→Option X) (k2:Z0→Option X) (v3:Z0):Option X:=
 (idx v3 (IntKind.wrap .i64 ((v3.length:Int) - (1:Int)))).bind fun x3 =>
  bif ((x3).toNat)==(48:Int) then
   (sub v3 (0:Int) (IntKind.wrap .i64 ((v3.length:Int) - (1:Int)))).bind fun x4 =>
    rec x4
  else
   k2 v3
noncomputable def F.zg.L6 {X:Type} (n:Nat) (k2:Z0→Option X):Nat→Z0→Option X
 | 0=>fun _=>none
 | m+1=>fun v3=>F.zg.L6.step n (F.zg.L6 n k2 m) k2 v3
noncomputable def F.zg (n:Nat) (a0:Int):Option (Z0):=
 bif a0==(1000000:Int) then
  some ([49])
 else
  (F.zam n (IntKind.wrap .u64 (a0))).bind fun y1 =>
   F.zg.L4 n
    (fun e3 =>
     F.zg.L6 n
      (fun e3 =>
       bif decide (2+e3.length≤strMax) then
        some (([48,46])++e3)
       else
        none) n e3) n y1
noncomputable def F.zb8 (n:Nat) (a0:Z8):Option (Z0):=
 bif decide (a0.1.length+1≤strMax) then
  (idx a0.2.2.1 (0:Int)).bind fun x1 =>
   (F.zl n (x1.1,x1.2.1,x1.2.2,())).bind fun y2 =>
    bif decide (((a0.1++([58])).length)+y2.length≤strMax) then
     bif decide ((((a0.1++([58]))++y2).length)+1≤strMax) then
      (F.zb6 n a0.2.1).bind fun y3 =>
       bif decide (((((a0.1++([58]))++y2)++([124])).length)+y3.length≤strMax) then
        bif !(a0.2.2.2.1==(1000000:Int)) then
         bif decide ((((((a0.1++([58]))++y2)++([124]))++y3).length)+2≤strMax) then
          (F.zg n a0.2.2.2.1).bind fun y4 =>
           bif decide (((((((a0.1++([58]))++y2)++([124]))++y3)++([124,64])).length)+y4.length≤strMax) then
            some ((((((a0.1++([58]))++y2)++([124]))++y3)++([124,64]))++y4)
           else
            none
         else
          none
        else
         some ((((a0.1++([58]))++y2)++([124]))++y3)
       else
        none
     else
      none
    else
     none
 else
  none
noncomputable def F.zac.L3.step {X:Type} (n:Nat) (rec:Z4→Z0→Int→Option X) (k0:Z0→Option X) (v0:Z4) (v3:Z0) (v4:Int):Option X:=
 bif decide (v4<(v0.length:Int)) then
  bif decide (v4>(0:Int)) then
   bif decide (v3.length+1≤strMax) then
    (idx v0 v4).bind fun x1 =>
     (F.zbn n (x1.1,x1.2,())).bind fun y2 =>
      bif decide (((v3++([44])).length)+y2.length≤strMax) then
       rec v0 ((v3++([44]))++y2) (IntKind.wrap .i64 (v4+(1:Int)))
      else
       none
   else
    none
  else
   (idx v0 v4).bind fun x3 =>
    (F.zbn n (x3.1,x3.2,())).bind fun y4 =>
     bif decide (v3.length+y4.length≤strMax) then
      rec v0 (v3++y4) (IntKind.wrap .i64 (v4+(1:Int)))
     else
      none
 else
  k0 v3
noncomputable def F.zac.L3 {X:Type} (n:Nat) (k0:Z0→Option X):Nat→Z4→Z0→Int→Option X
 | 0=>fun _ _ _=>none
 | m+1=>fun v0 v3 v4=>F.zac.L3.step n (F.zac.L3 n k0 m) k0 v0 v3 v4
noncomputable def F.zac (n:Nat) (a0:Z4):Option (Z0):=
 F.zac.L3 n
  (fun e3 =>
   some (e3)) n a0 [] (0:Int)
noncomputable def F.zbk (n:Nat) (a0:Int):Option (Z0):=
 (F.zam n (IntKind.wrap .u64 (a0))).bind fun y1 =>
  some (y1)
noncomputable def F.zau.L3.step {X:Type} (n:Nat) (rec:Z0→Int→Z0→Int→Z2→Int→Z4→Int→Option X) (k0:Z0→Z0→Int→Z2→Int→Z4→Int→Option X) (v3:Z0) (v4:Int) (ab0:Z0) (ab1:Int) (ab2:Z2) (ab3:Int) (ab4:Z4) (ab5:Int):Option X:=
 bif decide (v4<(ab2.length:Int)) then
  bif decide (v3.length+1≤strMax) then
   (idx ab2 v4).bind fun x1 =>
    (F.zl n (x1.1,x1.2.1,x1.2.2,())).bind fun y2 =>
     bif decide (((v3++([58])).length)+y2.length≤strMax) then
      rec ((v3++([58]))++y2) (IntKind.wrap .i64 (v4+(1:Int))) ab0 ab1 ab2 ab3 ab4 ab5
     else
      none
  else
   none
 else
  k0 v3 ab0 ab1 ab2 ab3 ab4 ab5
noncomputable def F.zau.L3 {X:Type} (n:Nat) (k0:Z0→Z0→Int→Z2→Int→Z4→Int→Option X):Nat→Z0→Int→Z0→Int→Z2→Int→Z4→Int→Option X
 | 0=>fun _ _ _ _ _ _ _ _=>none
 | m+1=>fun v3 v4 ab0 ab1 ab2 ab3 ab4 ab5=>F.zau.L3.step n (F.zau.L3 n k0 m) k0 v3 v4 ab0 ab1 ab2 ab3 ab4 ab5
noncomputable def F.zau (n:Nat) (a0:Z8):Option (Z0):=
 F.zau.L3 n
  (fun e3 g0 g1 g2 g3 g4 g5 =>
   bif decide (e3.length+1≤strMax) then
    (F.zbz n ).bind fun y4 =>
     (idx y4 (IntKind.wrap .i64 (g1 - (1:Int)))).bind fun x5 =>
      bif decide (((e3++([124])).length)+x5.length≤strMax) then
       bif !(g3 == (1000000:Int)) then
        bif decide ((((e3++([124]))++x5).length)+2≤strMax) then
         (F.zg n g3).bind fun y6 =>
          bif decide (((((e3++([124]))++x5)++([124,64])).length)+y6.length≤strMax) then
           bif decide ((g4.length:Int)>(0:Int)) then
            bif decide ((((((e3++([124]))++x5)++([124,64]))++y6).length)+2≤strMax) then
             (F.zac n g4).bind fun y7 =>
              bif decide (((((((e3++([124]))++x5)++([124,64]))++y6)++([124,35])).length)+y7.length≤strMax) then
               bif !(g5==(0:Int)) then
                bif decide ((((((((e3++([124]))++x5)++([124,64]))++y6)++([124,35]))++y7).length)+2≤strMax) then
                 (F.zbk n g5).bind fun y8 =>
                  bif decide (((((((((e3++([124]))++x5)++([124,64]))++y6)++([124,35]))++y7)++([124,84])).length)+y8.length≤strMax) then
                   some ((((((((e3++([124]))++x5)++([124,64]))++y6)++([124,35]))++y7)++([124,84]))++y8)
                  else
                   none
                else
                 none
               else
                some ((((((e3++([124]))++x5)++([124,64]))++y6)++([124,35]))++y7)
              else
               none
            else
             none
           else
           bif !(g5==(0:Int)) then
            bif decide ((((((e3++([124]))++x5)++([124,64]))++y6).length)+2≤strMax) then
             (F.zbk n g5).bind fun y9 =>
              bif decide (((((((e3++([124]))++x5)++([124,64]))++y6)++([124,84])).length)+y9.length≤strMax) then
               some ((((((e3++([124]))++x5)++([124,64]))++y6)++([124,84]))++y9)
              else
               none
            else
             none
           else
            some ((((e3++([124]))++x5)++([124,64]))++y6)
          else
           none
        else
         none
       else
       bif decide ((g4.length:Int)>(0:Int)) then
        bif decide ((((e3++([124]))++x5).length)+2≤strMax) then
         (F.zac n g4).bind fun y10 =>
          bif decide (((((e3++([124]))++x5)++([124,35])).length)+y10.length≤strMax) then
           bif !(g5==(0:Int)) then
            bif decide ((((((e3++([124]))++x5)++([124,35]))++y10).length)+2≤strMax) then
             (F.zbk n g5).bind fun y11 =>
              bif decide (((((((e3++([124]))++x5)++([124,35]))++y10)++([124,84])).length)+y11.length≤strMax) then
               some ((((((e3++([124]))++x5)++([124,35]))++y10)++([124,84]))++y11)
              else
               none
            else
             none
           else
            some ((((e3++([124]))++x5)++([124,35]))++y10)
          else
           none
        else
         none
       else
       bif !(g5==(0:Int)) then
        bif decide ((((e3++([124]))++x5).length)+2≤strMax) then
         (F.zbk n g5).bind fun y12 =>
          bif decide (((((e3++([124]))++x5)++([124,84])).length)+y12.length≤strMax) then
           some ((((e3++([124]))++x5)++([124,84]))++y12)
          else
           none
        else
         none
       else
        some ((e3++([124]))++x5)
      else
       none
   else
    none) n a0.1 (0:Int) a0.1 a0.2.1 a0.2.2.1 a0.2.2.2.1 a0.2.2.2.2.1 a0.2.2.2.2.2.1
noncomputable def F.zb9 (n:Nat) (a0:Z8):Option (Z0):=
 bif decide (a0.1.length+1≤strMax) then
  (idx a0.2.2.1 (0:Int)).bind fun x1 =>
   (F.zl n (x1.1,x1.2.1,x1.2.2,())).bind fun y2 =>
    bif decide (((a0.1++([32])).length)+y2.length≤strMax) then
     bif decide ((((a0.1++([32]))++y2).length)+1≤strMax) then
      (F.zbk n a0.2.2.2.2.2.1).bind fun y3 =>
       bif decide (((((a0.1++([32]))++y2)++([32])).length)+y3.length≤strMax) then
        some ((((a0.1++([32]))++y2)++([32]))++y3)
       else
        none
     else
      none
    else
     none
 else
  none
noncomputable def F.zca (n:Nat) (a0:Z8) (a1:Int):Option (Z0):=
 bif a1==(1:Int) then
  (F.zb8 n (a0.1,a0.2.1,a0.2.2.1,a0.2.2.2.1,a0.2.2.2.2.1,a0.2.2.2.2.2.1,())).bind fun y1 =>
   some (y1)
 else
 bif a1==(2:Int) then
  (F.zau n (a0.1,a0.2.1,a0.2.2.1,a0.2.2.2.1,a0.2.2.2.2.1,a0.2.2.2.2.2.1,())).bind fun y2 =>
   some (y2)
 else
  (F.zb9 n (a0.1,a0.2.1,a0.2.2.1,a0.2.2.2.1,a0.2.2.2.2.1,a0.2.2.2.2.2.1,())).bind fun y3 =>
   some (y3)
noncomputable def F.zz.C13 {X:Type} (n:Nat) (kr:Bool→Option X) (c2:Int) (c7:Z0) (c8:Int) (c14:Int) (ab0:Z0) (ab1:Int) (ab2:Z2) (ab3:Int) (ab4:Z4) (ab5:Int) (bb0:Z0) (bb1:Int) (bb2:Z2) (bb3:Int) (bb4:Z4) (bb5:Int) (cb0:Int) (cb1:Int) (db0:Z0) (db1:Int) (db2:Z2) (db3:Int) (db4:Z4) (db5:Int) (hb0:Int) (hb1:Int) (ib0:Z0) (ib1:Int) (ib2:Z2) (ib3:Int) (ib4:Z4) (ib5:Int):Option X:=
 bif !(c14==(0:Int)) then
  bif c7==[] then
   bif c8==c14 then
    (F.za4 n ).bind fun y16 =>
     kr y16
   else
    kr false
  else
   kr false
 else
  (F.zca n (ib0,ib1,ib2,ib3,ib4,ib5,()) c2).bind fun y17 =>
   bif c7==y17 then
    bif c8==(0:Int) then
     (F.za4 n ).bind fun y18 =>
      kr y18
    else
     kr false
   else
    kr false
noncomputable def F.zz.C3 {X:Type} (n:Nat) (kr:Bool→Option X) (c1:Z0) (c2:Int) (ab0:Z0) (ab1:Int) (ab2:Z2) (ab3:Int) (ab4:Z4) (ab5:Int):Option X:=
 (F.zck n (ab0,ab1,ab2,ab3,ab4,ab5,()) c2).bind fun y21 =>
  (F.zbv n c1 c2).bind fun y22 =>
   (F.zcf n c1 c2).bind fun y23 =>
    (F.zj n (y22.1.1,y22.1.2.1,y22.1.2.2.1,y22.1.2.2.2.1,y22.1.2.2.2.2.1,y22.1.2.2.2.2.2.1,()) (y23.1.1,y23.1.2.1,y23.1.2.2.1,y23.1.2.2.2.1,y23.1.2.2.2.2.1,y23.1.2.2.2.2.2.1,())).bind fun y24 =>
     bif !y24 then
      kr false
     else
     bif !((y22.2.1.1==y23.2.1.1)&&(y22.2.1.2.1==y23.2.1.2.1)) then
      kr false
     else
      (F.zcn n c2).bind fun y25 =>
       bif !y25 then
        bif y21.1==[] then
         bif y21.2.1==(29:Int) then
          (F.za4 n ).bind fun y26 =>
           kr y26
         else
          kr false
        else
         kr false
       else
        (F.zad n (ab0,ab1,ab2,ab3,ab4,ab5,())).bind fun y27 =>
         bif y27.2.1==(0:Int) then
          (F.zbu n (y27.1.1,y27.1.2.1,y27.1.2.2.1,y27.1.2.2.2.1,y27.1.2.2.2.2.1,y27.1.2.2.2.2.2.1,()) c2).bind fun y28 =>
           F.zz.C13 n
            (fun e6 =>
             kr e6) c2 y21.1 y21.2.1 y28 ab0 ab1 ab2 ab3 ab4 ab5 y22.1.1 y22.1.2.1 y22.1.2.2.1 y22.1.2.2.2.1 y22.1.2.2.2.2.1 y22.1.2.2.2.2.2.1 y22.2.1.1 y22.2.1.2.1 y23.1.1 y23.1.2.1 y23.1.2.2.1 y23.1.2.2.2.1 y23.1.2.2.2.2.1 y23.1.2.2.2.2.2.1 y23.2.1.1 y23.2.1.2.1 y27.1.1 y27.1.2.1 y27.1.2.2.1 y27.1.2.2.2.1 y27.1.2.2.2.2.1 y27.1.2.2.2.2.2.1
         else
          F.zz.C13 n
           (fun e6 =>
            kr e6) c2 y21.1 y21.2.1 y27.2.1 ab0 ab1 ab2 ab3 ab4 ab5 y22.1.1 y22.1.2.1 y22.1.2.2.1 y22.1.2.2.2.1 y22.1.2.2.2.2.1 y22.1.2.2.2.2.2.1 y22.2.1.1 y22.2.1.2.1 y23.1.1 y23.1.2.1 y23.1.2.2.1 y23.1.2.2.2.1 y23.1.2.2.2.2.1 y23.1.2.2.2.2.2.1 y23.2.1.1 y23.2.1.2.1 y27.1.1 y27.1.2.1 y27.1.2.2.1 y27.1.2.2.2.1 y27.1.2.2.2.2.1 y27.1.2.2.2.2.2.1
noncomputable def F.zz (n:Nat) (a0:Z8) (a1:Z0) (a2:Int):Option (Bool):=
 (F.zaa n (a0.1,a0.2.1,a0.2.2.1,a0.2.2.2.1,a0.2.2.2.2.1,a0.2.2.2.2.2.1,())).bind fun y1 =>
  bif !y1 then
   (F.za4 n ).bind fun y2 =>
    some (y2)
  else
  bif decide ((a1.length:Int)>(1000:Int)) then
   bif decide ((a1.length:Int)≤(8192:Int)) then
    (F.za4 n ).bind fun y3 =>
     some (y3)
   else
   bif decide ((a1.length:Int)>(9000:Int)) then
    (F.za4 n ).bind fun y4 =>
     some (y4)
   else
    F.zz.C3 n
     (fun e6 =>
      some (e6)) a1 a2 a0.1 a0.2.1 a0.2.2.1 a0.2.2.2.1 a0.2.2.2.2.1 a0.2.2.2.2.2.1
  else
  bif decide ((a1.length:Int)>(9000:Int)) then
   (F.za4 n ).bind fun y32 =>
    some (y32)
  else
   F.zz.C3 n
    (fun e6 =>
     some (e6)) a1 a2 a0.1 a0.2.1 a0.2.2.1 a0.2.2.2.1 a0.2.2.2.2.1 a0.2.2.2.2.2.1
end Go.AM
namespace Go.Proofs
open Go.Shelf
def Tryz.lays156_ren:Go.Shelf.Ren:=⟨fun | 156=>180 | 165=>201 | 166=>121 | 169=>125 | 240=>178 | 241=>238 | 276=>216 | 277=>260 | n=>n,fun | 31=>52 | 9=>9 | 3=>3 | 4=>4 | 0=>0 | 20=>20 | 72=>148 | 76=>151 | 70=>146 | 37=>22 | 75=>150 | 127=>204 | 164=>234 | 5=>5 | 80=>156 | n=>n,fun | n=>n⟩
theorem Tryz.lays156:Go.Proofs.Lays.n156 Tryz.prog Tryz.lays156_ren:={
 mixed:=by kernel_rfl
 f156:=Tryz.func180.trans (congrArg some (by kernel_rfl))
 f165:=Tryz.func201.trans (congrArg some (by kernel_rfl))
 f166:=Tryz.func121.trans (congrArg some (by kernel_rfl))
 f169:=Tryz.func125.trans (congrArg some (by kernel_rfl))
 f240:=Tryz.func178.trans (congrArg some (by kernel_rfl))
 f241:=Tryz.func238.trans (congrArg some (by kernel_rfl))
 f276:=Tryz.func216.trans (congrArg some (by kernel_rfl))
 f277:=Tryz.func260.trans (congrArg some (by kernel_rfl))
 t0:=Tryz.underlying0
 a0:=Tryz.isAgg0
 z0:=Tryz.sizeOf0
 v0:=Tryz.zeroValue0
 t3:=Tryz.underlying3
 a3:=Tryz.isAgg3
 z3:=Tryz.sizeOf3
 v3:=Tryz.zeroValue3
 t4:=Tryz.underlying4
 a4:=Tryz.isAgg4
 z4:=Tryz.sizeOf4
 v4:=Tryz.zeroValue4
 t9:=Tryz.underlying9
 a9:=Tryz.isAgg9
 z9:=Tryz.sizeOf9
 v9:=Tryz.zeroValue9
 t20:=Tryz.underlying20
 a20:=Tryz.isAgg20
 z20:=Tryz.sizeOf20
 v20:=Tryz.zeroValue20
 t31:=Tryz.underlying52
 a31:=Tryz.isAgg52
 z31:=Tryz.sizeOf52
 v31:=Tryz.zeroValue52
 t37:=Tryz.underlying22
 a37:=Tryz.isAgg22
 z37:=Tryz.sizeOf22
 v37:=Tryz.zeroValue22
 t70:=Tryz.underlying146
 a70:=Tryz.isAgg146
 z70:=Tryz.sizeOf146
 v70:=Tryz.zeroValue146
 t72:=Tryz.underlying148
 a72:=Tryz.isAgg148
 z72:=Tryz.sizeOf148
 v72:=Tryz.zeroValue148
 t75:=Tryz.underlying150
 a75:=Tryz.isAgg150
 z75:=Tryz.sizeOf150
 v75:=Tryz.zeroValue150
 t76:=Tryz.underlying151
 a76:=Tryz.isAgg151
 z76:=Tryz.sizeOf151
 v76:=Tryz.zeroValue151
 t127:=Tryz.underlying204
 a127:=Tryz.isAgg204
 z127:=Tryz.sizeOf204
 v127:=Tryz.zeroValue204
 t164:=Tryz.underlying234
 a164:=Tryz.isAgg234
 z164:=Tryz.sizeOf234
 v164:=Tryz.zeroValue234 }
theorem Tryz.Builder_Extra_156:Builder.Extra Tryz.prog Tryz.lays156_ren:={
 sizeBuilder:=by kernel_rfl
 liesBuilder:=by kernel_rfl
 t5:=Tryz.underlying5
 a5:=Tryz.isAgg5
 z5:=Tryz.sizeOf5
 v5:=Tryz.zeroValue5
 infoByte:=by kernel_rfl
 cellsByte:=by kernel_rfl
 sizeByte:=by kernel_rfl
 neB5:=by decide }
open Go.RowKit in
theorem Tryz.strings_Join_none (a:Option Addr) (c:Nat) (sep:ByteArray) (w:World) :
 Calls Tryz.prog 180 #[.slice a 0 c,.string sep] w fun e w'=>e = .returned (.string ⟨#[]⟩)∧w'=w:=Any.strings_Join_none Tryz.lays156 Tryz.Builder_Extra_156 a c sep w
open Go.RowKit in
theorem Tryz.strings_Join (bk o c:Nat) (xs:List ByteArray) (sep:ByteArray) (w:World) (hcells:∀ (j:Nat) x,xs[j]? = some x→w.cell? ⟨bk,o+j,none⟩=some (.string x)) (hbk:bk<w.heap.size) (hN:xs.length≤140737488355328) (hcap:xs.length≤c) (hlen:(Lib.join (xs.map (·.data.toList)) sep.data.toList).length≤140737488355328) :
 Calls Tryz.prog 180 #[.slice (some ⟨bk,o,none⟩) xs.length c,.string sep] w fun e w'=>e = .returned (.string ⟨(Lib.join (xs.map (·.data.toList)) sep.data.toList).toArray⟩)∧Below w.heap.size w w':=Any.strings_Join Tryz.lays156 Tryz.Builder_Extra_156 bk o c xs sep w hcells hbk hN hcap hlen
def Tryz.lays161_ren:Go.Shelf.Ren:=⟨fun | 161=>174 | 231=>213 | 227=>205 | 233=>214 | 235=>215 | 228=>240 | 197=>247 | 151=>242 | 260=>264 | 152=>262 | 137=>64 | 119=>270 | 224=>244 | 225=>243 | 217=>132 | 266=>189 | n=>n,fun | 9=>9 | 4=>4 | 3=>3 | 5=>5 | 117=>230 | 116=>229 | 0=>0 | 124=>233 | 105=>254 | 21=>21 | 119=>276 | 46=>216 | 139=>279 | 138=>278 | n=>n,fun | 3=>2 | 4=>3 | n=>n⟩
theorem Tryz.lays161:Go.Proofs.Lays.n161 Tryz.prog Tryz.lays161_ren:={
 mixed:=by kernel_rfl
 f119:=Tryz.func270.trans (congrArg some (by kernel_rfl))
 f137:=Tryz.func64.trans (congrArg some (by kernel_rfl))
 f151:=Tryz.func242.trans (congrArg some (by kernel_rfl))
 f152:=Tryz.func262.trans (congrArg some (by kernel_rfl))
 f161:=Tryz.func174.trans (congrArg some (by kernel_rfl))
 f197:=Tryz.func247.trans (congrArg some (by kernel_rfl))
 f217:=Tryz.func132.trans (congrArg some (by kernel_rfl))
 f224:=Tryz.func244.trans (congrArg some (by kernel_rfl))
 f225:=Tryz.func243.trans (congrArg some (by kernel_rfl))
 f227:=Tryz.func205.trans (congrArg some (by kernel_rfl))
 f228:=Tryz.func240.trans (congrArg some (by kernel_rfl))
 f231:=Tryz.func213.trans (congrArg some (by kernel_rfl))
 f233:=Tryz.func214.trans (congrArg some (by kernel_rfl))
 f235:=Tryz.func215.trans (congrArg some (by kernel_rfl))
 f260:=Tryz.func264.trans (congrArg some (by kernel_rfl))
 f266:=Tryz.func189.trans (congrArg some (by kernel_rfl))
 t0:=Tryz.underlying0
 a0:=Tryz.isAgg0
 z0:=Tryz.sizeOf0
 v0:=Tryz.zeroValue0
 t3:=Tryz.underlying3
 a3:=Tryz.isAgg3
 z3:=Tryz.sizeOf3
 v3:=Tryz.zeroValue3
 t4:=Tryz.underlying4
 a4:=Tryz.isAgg4
 z4:=Tryz.sizeOf4
 v4:=Tryz.zeroValue4
 t5:=Tryz.underlying5
 a5:=Tryz.isAgg5
 z5:=Tryz.sizeOf5
 v5:=Tryz.zeroValue5
 t9:=Tryz.underlying9
 a9:=Tryz.isAgg9
 z9:=Tryz.sizeOf9
 v9:=Tryz.zeroValue9
 t21:=Tryz.underlying21
 a21:=Tryz.isAgg21
 z21:=Tryz.sizeOf21
 v21:=Tryz.zeroValue21
 t46:=Tryz.underlying216
 a46:=Tryz.isAgg216
 z46:=Tryz.sizeOf216
 v46:=Tryz.zeroValue216
 t105:=Tryz.underlying254
 a105:=Tryz.isAgg254
 z105:=Tryz.sizeOf254
 v105:=Tryz.zeroValue254
 t116:=Tryz.underlying229
 a116:=Tryz.isAgg229
 z116:=Tryz.sizeOf229
 t117:=Tryz.underlying230
 a117:=Tryz.isAgg230
 z117:=Tryz.sizeOf230
 v117:=Tryz.zeroValue230
 t119:=Tryz.underlying276
 a119:=Tryz.isAgg276
 z119:=Tryz.sizeOf276
 t124:=Tryz.underlying233
 a124:=Tryz.isAgg233
 z124:=Tryz.sizeOf233
 v124:=Tryz.zeroValue233
 t138:=Tryz.underlying278
 a138:=Tryz.isAgg278
 z138:=Tryz.sizeOf278
 v138:=Tryz.zeroValue278
 t139:=Tryz.underlying279
 a139:=Tryz.isAgg279
 z139:=Tryz.sizeOf279
 v139:=Tryz.zeroValue279
 g3:=by kernel_rfl
 g4:=by kernel_rfl }
open Go.RowKit in
theorem Tryz.strings_TrimLeft_one (s:ByteArray) (c:UInt8) (hc:c.toNat<128) (w:World) :
 Calls Tryz.prog 174 #[.string s,.string ⟨#[c]⟩] w fun e w'=>e = .returned (.string ⟨(Lib.trimLeftB s.data.toList c).toArray⟩)∧w'=w:=Any.strings_TrimLeft_one Tryz.lays161 s c hc w
def Tryz.lays162_ren:Go.Shelf.Ren:=⟨fun | 162=>169 | 232=>204 | 227=>205 | 234=>206 | 236=>207 | 228=>240 | 271=>241 | 151=>242 | 120=>261 | 197=>247 | 152=>262 | 260=>264 | 137=>64 | 119=>270 | 224=>244 | 225=>243 | 217=>132 | 266=>189 | n=>n,fun | 9=>9 | 4=>4 | 3=>3 | 5=>5 | 117=>230 | 116=>229 | 0=>0 | 124=>233 | 21=>21 | 105=>254 | 46=>216 | 119=>276 | 139=>279 | 138=>278 | n=>n,fun | 3=>2 | 4=>3 | n=>n⟩
theorem Tryz.lays162:Go.Proofs.Lays.n162 Tryz.prog Tryz.lays162_ren:={
 mixed:=by kernel_rfl
 f119:=Tryz.func270.trans (congrArg some (by kernel_rfl))
 f120:=Tryz.func261.trans (congrArg some (by kernel_rfl))
 f137:=Tryz.func64.trans (congrArg some (by kernel_rfl))
 f151:=Tryz.func242.trans (congrArg some (by kernel_rfl))
 f152:=Tryz.func262.trans (congrArg some (by kernel_rfl))
 f162:=Tryz.func169.trans (congrArg some (by kernel_rfl))
 f197:=Tryz.func247.trans (congrArg some (by kernel_rfl))
 f217:=Tryz.func132.trans (congrArg some (by kernel_rfl))
 f224:=Tryz.func244.trans (congrArg some (by kernel_rfl))
 f225:=Tryz.func243.trans (congrArg some (by kernel_rfl))
 f227:=Tryz.func205.trans (congrArg some (by kernel_rfl))
 f228:=Tryz.func240.trans (congrArg some (by kernel_rfl))
 f232:=Tryz.func204.trans (congrArg some (by kernel_rfl))
 f234:=Tryz.func206.trans (congrArg some (by kernel_rfl))
 f236:=Tryz.func207.trans (congrArg some (by kernel_rfl))
 f260:=Tryz.func264.trans (congrArg some (by kernel_rfl))
 f266:=Tryz.func189.trans (congrArg some (by kernel_rfl))
 f271:=Tryz.func241.trans (congrArg some (by kernel_rfl))
 t0:=Tryz.underlying0
 a0:=Tryz.isAgg0
 z0:=Tryz.sizeOf0
 v0:=Tryz.zeroValue0
 t3:=Tryz.underlying3
 a3:=Tryz.isAgg3
 z3:=Tryz.sizeOf3
 v3:=Tryz.zeroValue3
 t4:=Tryz.underlying4
 a4:=Tryz.isAgg4
 z4:=Tryz.sizeOf4
 v4:=Tryz.zeroValue4
 t5:=Tryz.underlying5
 a5:=Tryz.isAgg5
 z5:=Tryz.sizeOf5
 v5:=Tryz.zeroValue5
 t9:=Tryz.underlying9
 a9:=Tryz.isAgg9
 z9:=Tryz.sizeOf9
 v9:=Tryz.zeroValue9
 t21:=Tryz.underlying21
 a21:=Tryz.isAgg21
 z21:=Tryz.sizeOf21
 v21:=Tryz.zeroValue21
 t46:=Tryz.underlying216
 a46:=Tryz.isAgg216
 z46:=Tryz.sizeOf216
 v46:=Tryz.zeroValue216
 t105:=Tryz.underlying254
 a105:=Tryz.isAgg254
 z105:=Tryz.sizeOf254
 v105:=Tryz.zeroValue254
 t116:=Tryz.underlying229
 a116:=Tryz.isAgg229
 z116:=Tryz.sizeOf229
 t117:=Tryz.underlying230
 a117:=Tryz.isAgg230
 z117:=Tryz.sizeOf230
 v117:=Tryz.zeroValue230
 t119:=Tryz.underlying276
 a119:=Tryz.isAgg276
 z119:=Tryz.sizeOf276
 t124:=Tryz.underlying233
 a124:=Tryz.isAgg233
 z124:=Tryz.sizeOf233
 v124:=Tryz.zeroValue233
 t138:=Tryz.underlying278
 a138:=Tryz.isAgg278
 z138:=Tryz.sizeOf278
 v138:=Tryz.zeroValue278
 t139:=Tryz.underlying279
 a139:=Tryz.isAgg279
 z139:=Tryz.sizeOf279
 v139:=Tryz.zeroValue279
 g3:=by kernel_rfl
 g4:=by kernel_rfl }
open Go.RowKit in
theorem Tryz.strings_TrimRight_one (s:ByteArray) (c:UInt8) (hc:c.toNat<128) (w:World) (hs:s.size≤9223372036854775807) :
 Calls Tryz.prog 169 #[.string s,.string ⟨#[c]⟩] w fun e w'=>e = .returned (.string ⟨(Lib.trimRightB s.data.toList c).toArray⟩)∧w'=w:=Any.strings_TrimRight_one Tryz.lays162 s c hc w hs
def Tryz.lays283_ren:Go.Shelf.Ren:=⟨fun | 283=>233 | n=>n,fun | 3=>3 | 9=>9 | 4=>4 | n=>n,fun | n=>n⟩
theorem Tryz.lays283:Go.Proofs.Lays.n283 Tryz.prog Tryz.lays283_ren:={
 mixed:=by kernel_rfl
 f283:=Tryz.func233.trans (congrArg some (by kernel_rfl))
 t3:=Tryz.underlying3
 a3:=Tryz.isAgg3
 z3:=Tryz.sizeOf3
 v3:=Tryz.zeroValue3
 t4:=Tryz.underlying4
 a4:=Tryz.isAgg4
 z4:=Tryz.sizeOf4
 v4:=Tryz.zeroValue4
 t9:=Tryz.underlying9
 a9:=Tryz.isAgg9
 z9:=Tryz.sizeOf9
 v9:=Tryz.zeroValue9 }
open Go.Lib in
theorem Tryz.internal_strconv_small (i:Nat) (h:i<100) (w:World) :
 Calls Tryz.prog 233 #[.int .i64 i] w fun e w'=>e = .returned (.string ⟨(Lib.decDigits i).toArray⟩)∧w'=w:=Any.internal_strconv_small Tryz.lays283 i h w
def Tryz.laysM284_ren:Go.Shelf.Ren:=⟨fun | 284=>234 | 129=>231 | 317=>256 | 318=>257 | n=>n,fun | 53=>77 | 3=>3 | 212=>266 | 0=>0 | 4=>4 | 46=>216 | 5=>5 | 9=>9 | n=>n,fun | 17=>1 | n=>n⟩
theorem Tryz.laysM284:Go.Proofs.LaysM.n284 Tryz.prog Tryz.laysM284_ren:={
 mixed:=by kernel_rfl
 f129:=Tryz.func231.trans (congrArg some (by kernel_rfl))
 f284:=Tryz.func234.trans (congrArg some (by kernel_rfl))
 f317:=Tryz.func256.trans (congrArg some (by kernel_rfl))
 f318:=Tryz.func257.trans (congrArg some (by kernel_rfl))
 t0:=Tryz.underlying0
 a0:=Tryz.isAgg0
 z0:=Tryz.sizeOf0
 v0:=Tryz.zeroValue0
 t3:=Tryz.underlying3
 a3:=Tryz.isAgg3
 z3:=Tryz.sizeOf3
 v3:=Tryz.zeroValue3
 t4:=Tryz.underlying4
 a4:=Tryz.isAgg4
 z4:=Tryz.sizeOf4
 v4:=Tryz.zeroValue4
 t5:=Tryz.underlying5
 a5:=Tryz.isAgg5
 z5:=Tryz.sizeOf5
 v5:=Tryz.zeroValue5
 t9:=Tryz.underlying9
 a9:=Tryz.isAgg9
 z9:=Tryz.sizeOf9
 v9:=Tryz.zeroValue9
 t46:=Tryz.underlying216
 a46:=Tryz.isAgg216
 z46:=Tryz.sizeOf216
 v46:=Tryz.zeroValue216
 t53:=Tryz.underlying77
 a53:=Tryz.isAgg77
 z53:=Tryz.sizeOf77
 v53:=Tryz.zeroValue77
 t212:=Tryz.underlying266
 a212:=Tryz.isAgg266
 z212:=Tryz.sizeOf266
 v212:=Tryz.zeroValue266
 g17:=by kernel_rfl
 i0:=by kernel_rfl
 i3:=by kernel_rfl
 i4:=by kernel_rfl
 i5:=by kernel_rfl
 i9:=by kernel_rfl
 i46:=by kernel_rfl
 i53:=by kernel_rfl
 i212:=by kernel_rfl
 m17:=by kernel_rfl }
open Go.Lib in
theorem Tryz.internal_strconv_numDigits (u : Nat) (h1 : 1 ≤ u) (h2 : u < 18446744073709551616) (w : World) (htab : Lib.TabIs Tryz.prog w "internal/strconv.uint64pow10" .u64 Lib.pow10Tab) :
 Calls Tryz.prog 234 #[.int .u64 u] w fun e w'=>e = .returned (.int .i64 (Lib.nDigits u))∧w'=w:=Any.internal_strconv_numDigits Tryz.laysM284 u h1 h2 w htab
def Tryz.lays285_ren:Go.Shelf.Ren:=⟨fun | 285=>235 | n=>n,fun | 37=>22 | 53=>77 | 3=>3 | 4=>4 | 51=>245 | 9=>9 | 5=>5 | 0=>0 | n=>n,fun | n=>n⟩
theorem Tryz.lays285:Go.Proofs.Lays.n285 Tryz.prog Tryz.lays285_ren:={
 mixed:=by kernel_rfl
 f285:=Tryz.func235.trans (congrArg some (by kernel_rfl))
 t0:=Tryz.underlying0
 a0:=Tryz.isAgg0
 z0:=Tryz.sizeOf0
 v0:=Tryz.zeroValue0
 t3:=Tryz.underlying3
 a3:=Tryz.isAgg3
 z3:=Tryz.sizeOf3
 v3:=Tryz.zeroValue3
 t4:=Tryz.underlying4
 a4:=Tryz.isAgg4
 z4:=Tryz.sizeOf4
 v4:=Tryz.zeroValue4
 t5:=Tryz.underlying5
 a5:=Tryz.isAgg5
 z5:=Tryz.sizeOf5
 v5:=Tryz.zeroValue5
 t9:=Tryz.underlying9
 a9:=Tryz.isAgg9
 z9:=Tryz.sizeOf9
 v9:=Tryz.zeroValue9
 t37:=Tryz.underlying22
 a37:=Tryz.isAgg22
 z37:=Tryz.sizeOf22
 v37:=Tryz.zeroValue22
 t51:=Tryz.underlying245
 a51:=Tryz.isAgg245
 z51:=Tryz.sizeOf245
 v51:=Tryz.zeroValue245
 t53:=Tryz.underlying77
 a53:=Tryz.isAgg77
 z53:=Tryz.sizeOf77
 v53:=Tryz.zeroValue77 }
open Go.RowKit Go.Sort Go.Lib in
theorem Tryz.internal_strconv_formatBase10 (blk off cap:Nat) (u:Nat) (d:Array UInt8) (w:World) (hH:Holds (fun (b:UInt8)=>Value.int .u8 (b.toNat:Int)) w blk off d) (hu:u<10 ^ d.size) (hu64:u<18446744073709551616) (hsz:d.size<4611686018427387904) :
 Calls Tryz.prog 235 #[.slice (some ⟨blk,off,none⟩) d.size cap,.int .u64 u] w fun e w' =>
  e = .returned (.tuple #[])∧∃ (n v':Nat) (dk:Array UInt8),w'=(putRow (fun (b:UInt8)=>Value.int .u8 (b.toNat:Int)) w blk off dk).drewN n∧FmtInv d.size u 0 v' dk:=Any.internal_strconv_formatBase10 Tryz.lays285 blk off cap u d w hH hu hu64 hsz
def Tryz.laysM171_ren:Go.Shelf.Ren:=⟨fun | 171=>168 | 243=>203 | 246=>239 | 283=>233 | 284=>234 | 285=>235 | 286=>236 | 129=>231 | 317=>256 | 318=>257 | 319=>258 | 320=>259 | 337=>268 | 338=>269 | n=>n,fun | 3=>3 | 9=>9 | 2=>2 | 4=>4 | 171=>247 | 0=>0 | 53=>77 | 37=>22 | 5=>5 | 173=>249 | 212=>266 | 51=>245 | 20=>20 | 213=>267 | 46=>216 | 232=>286 | 233=>287 | n=>n,fun | 17=>1 | 18=>4 | 19=>5 | n=>n⟩
theorem Tryz.laysM171:Go.Proofs.LaysM.n171 Tryz.prog Tryz.laysM171_ren:={
 mixed:=by kernel_rfl
 f129:=Tryz.func231.trans (congrArg some (by kernel_rfl))
 f171:=Tryz.func168.trans (congrArg some (by kernel_rfl))
 f243:=Tryz.func203.trans (congrArg some (by kernel_rfl))
 f246:=Tryz.func239.trans (congrArg some (by kernel_rfl))
 f283:=Tryz.func233.trans (congrArg some (by kernel_rfl))
 f284:=Tryz.func234.trans (congrArg some (by kernel_rfl))
 f285:=Tryz.func235.trans (congrArg some (by kernel_rfl))
 f286:=Tryz.func236.trans (congrArg some (by kernel_rfl))
 f317:=Tryz.func256.trans (congrArg some (by kernel_rfl))
 f318:=Tryz.func257.trans (congrArg some (by kernel_rfl))
 f319:=Tryz.func258.trans (congrArg some (by kernel_rfl))
 f320:=Tryz.func259.trans (congrArg some (by kernel_rfl))
 f337:=Tryz.func268.trans (congrArg some (by kernel_rfl))
 f338:=Tryz.func269.trans (congrArg some (by kernel_rfl))
 t0:=Tryz.underlying0
 a0:=Tryz.isAgg0
 z0:=Tryz.sizeOf0
 v0:=Tryz.zeroValue0
 t2:=Tryz.underlying2
 a2:=Tryz.isAgg2
 z2:=Tryz.sizeOf2
 v2:=Tryz.zeroValue2
 t3:=Tryz.underlying3
 a3:=Tryz.isAgg3
 z3:=Tryz.sizeOf3
 v3:=Tryz.zeroValue3
 t4:=Tryz.underlying4
 a4:=Tryz.isAgg4
 z4:=Tryz.sizeOf4
 v4:=Tryz.zeroValue4
 t5:=Tryz.underlying5
 a5:=Tryz.isAgg5
 z5:=Tryz.sizeOf5
 v5:=Tryz.zeroValue5
 t9:=Tryz.underlying9
 a9:=Tryz.isAgg9
 z9:=Tryz.sizeOf9
 v9:=Tryz.zeroValue9
 t20:=Tryz.underlying20
 a20:=Tryz.isAgg20
 z20:=Tryz.sizeOf20
 v20:=Tryz.zeroValue20
 t37:=Tryz.underlying22
 a37:=Tryz.isAgg22
 z37:=Tryz.sizeOf22
 v37:=Tryz.zeroValue22
 t46:=Tryz.underlying216
 a46:=Tryz.isAgg216
 z46:=Tryz.sizeOf216
 v46:=Tryz.zeroValue216
 t51:=Tryz.underlying245
 a51:=Tryz.isAgg245
 z51:=Tryz.sizeOf245
 v51:=Tryz.zeroValue245
 t53:=Tryz.underlying77
 a53:=Tryz.isAgg77
 z53:=Tryz.sizeOf77
 v53:=Tryz.zeroValue77
 t171:=Tryz.underlying247
 a171:=Tryz.isAgg247
 z171:=Tryz.sizeOf247
 v171:=Tryz.zeroValue247
 t173:=Tryz.underlying249
 a173:=Tryz.isAgg249
 z173:=Tryz.sizeOf249
 v173:=Tryz.zeroValue249
 t212:=Tryz.underlying266
 a212:=Tryz.isAgg266
 z212:=Tryz.sizeOf266
 v212:=Tryz.zeroValue266
 t213:=Tryz.underlying267
 a213:=Tryz.isAgg267
 z213:=Tryz.sizeOf267
 t232:=Tryz.underlying286
 a232:=Tryz.isAgg286
 z232:=Tryz.sizeOf286
 v232:=Tryz.zeroValue286
 t233:=Tryz.underlying287
 a233:=Tryz.isAgg287
 z233:=Tryz.sizeOf287
 v233:=Tryz.zeroValue287
 g17:=by kernel_rfl
 g18:=by kernel_rfl
 g19:=by kernel_rfl
 i0:=by kernel_rfl
 i2:=by kernel_rfl
 i3:=by kernel_rfl
 i4:=by kernel_rfl
 i5:=by kernel_rfl
 i9:=by kernel_rfl
 i20:=by kernel_rfl
 i37:=by kernel_rfl
 i46:=by kernel_rfl
 i51:=by kernel_rfl
 i53:=by kernel_rfl
 i171:=by kernel_rfl
 i173:=by kernel_rfl
 i212:=by kernel_rfl
 i232:=by kernel_rfl
 i233:=by kernel_rfl
 m17:=by kernel_rfl
 m18:=by kernel_rfl
 m19:=by kernel_rfl }
open Go.RowKit Go.Sort Go.Lib in
theorem Tryz.strconv_Itoa (n : Int) (h0 : -9223372036854775808 ≤ n) (h1 : n ≤ 9223372036854775807) (w : World) (htab : Lib.TabIs Tryz.prog w "internal/strconv.uint64pow10" .u64 Lib.pow10Tab) :
 Calls Tryz.prog 168 #[.int .i64 n] w fun e w'=>e = .returned (.string ⟨(Lib.itoa n).toArray⟩)∧∃ k os,w'=grow (w.drewN k) os:=Any.strconv_Itoa Tryz.laysM171 n h0 h1 w htab
def Tryz.laysC172_ren:Go.Shelf.Ren:=⟨fun | 172=>250 | 244=>265 | 245=>266 | 247=>271 | 279=>272 | 280=>273 | 281=>274 | 282=>275 | 287=>276 | 316=>277 | 171=>168 | 205=>278 | 321=>279 | 322=>280 | 243=>203 | 246=>239 | 283=>233 | 284=>234 | 285=>235 | 286=>236 | 129=>231 | 317=>256 | 318=>257 | 319=>258 | 320=>259 | 337=>268 | 338=>269 | n=>n,fun | 9=>9 | 3=>3 | 75=>150 | 76=>151 | 4=>4 | 5=>5 | 167=>280 | 37=>22 | 0=>0 | 85=>281 | 2=>2 | 168=>283 | 53=>77 | 175=>288 | 46=>216 | 210=>292 | 127=>204 | 145=>297 | 143=>295 | 21=>21 | 171=>247 | 173=>249 | 212=>266 | 51=>245 | 20=>20 | 213=>267 | 232=>286 | 233=>287 | 80=>156 | n=>n,fun | 15=>6 | 16=>7 | 17=>1 | 18=>4 | 19=>5 | n=>n⟩
theorem Tryz.laysC172:Go.Proofs.LaysC.n172 Tryz.prog Tryz.laysC172_ren:={
 mixed:=by kernel_rfl
 f129:=Tryz.func231.trans (congrArg some (by kernel_rfl))
 f171:=Tryz.func168.trans (congrArg some (by kernel_rfl))
 f172:=Tryz.func250.trans (congrArg some (by kernel_rfl))
 f205:=Tryz.func278.trans (congrArg some (by kernel_rfl))
 f243:=Tryz.func203.trans (congrArg some (by kernel_rfl))
 f244:=Tryz.func265.trans (congrArg some (by kernel_rfl))
 f245:=Tryz.func266.trans (congrArg some (by kernel_rfl))
 f246:=Tryz.func239.trans (congrArg some (by kernel_rfl))
 f247:=Tryz.func271.trans (congrArg some (by kernel_rfl))
 f279:=Tryz.func272.trans (congrArg some (by kernel_rfl))
 f280:=Tryz.func273.trans (congrArg some (by kernel_rfl))
 f281:=Tryz.func274.trans (congrArg some (by kernel_rfl))
 f282:=Tryz.func275.trans (congrArg some (by kernel_rfl))
 f283:=Tryz.func233.trans (congrArg some (by kernel_rfl))
 f284:=Tryz.func234.trans (congrArg some (by kernel_rfl))
 f285:=Tryz.func235.trans (congrArg some (by kernel_rfl))
 f286:=Tryz.func236.trans (congrArg some (by kernel_rfl))
 f287:=Tryz.func276.trans (congrArg some (by kernel_rfl))
 f316:=Tryz.func277.trans (congrArg some (by kernel_rfl))
 f317:=Tryz.func256.trans (congrArg some (by kernel_rfl))
 f318:=Tryz.func257.trans (congrArg some (by kernel_rfl))
 f319:=Tryz.func258.trans (congrArg some (by kernel_rfl))
 f320:=Tryz.func259.trans (congrArg some (by kernel_rfl))
 f321:=Tryz.func279.trans (congrArg some (by kernel_rfl))
 f322:=Tryz.func280.trans (congrArg some (by kernel_rfl))
 f337:=Tryz.func268.trans (congrArg some (by kernel_rfl))
 f338:=Tryz.func269.trans (congrArg some (by kernel_rfl))
 t0:=Tryz.underlying0
 a0:=Tryz.isAgg0
 z0:=Tryz.sizeOf0
 v0:=Tryz.zeroValue0
 t2:=Tryz.underlying2
 a2:=Tryz.isAgg2
 z2:=Tryz.sizeOf2
 v2:=Tryz.zeroValue2
 t3:=Tryz.underlying3
 a3:=Tryz.isAgg3
 z3:=Tryz.sizeOf3
 v3:=Tryz.zeroValue3
 t4:=Tryz.underlying4
 a4:=Tryz.isAgg4
 z4:=Tryz.sizeOf4
 v4:=Tryz.zeroValue4
 t5:=Tryz.underlying5
 a5:=Tryz.isAgg5
 z5:=Tryz.sizeOf5
 v5:=Tryz.zeroValue5
 t9:=Tryz.underlying9
 a9:=Tryz.isAgg9
 z9:=Tryz.sizeOf9
 v9:=Tryz.zeroValue9
 t20:=Tryz.underlying20
 a20:=Tryz.isAgg20
 z20:=Tryz.sizeOf20
 v20:=Tryz.zeroValue20
 t21:=Tryz.underlying21
 a21:=Tryz.isAgg21
 z21:=Tryz.sizeOf21
 v21:=Tryz.zeroValue21
 t37:=Tryz.underlying22
 a37:=Tryz.isAgg22
 z37:=Tryz.sizeOf22
 v37:=Tryz.zeroValue22
 t46:=Tryz.underlying216
 a46:=Tryz.isAgg216
 z46:=Tryz.sizeOf216
 v46:=Tryz.zeroValue216
 t51:=Tryz.underlying245
 a51:=Tryz.isAgg245
 z51:=Tryz.sizeOf245
 v51:=Tryz.zeroValue245
 t53:=Tryz.underlying77
 a53:=Tryz.isAgg77
 z53:=Tryz.sizeOf77
 v53:=Tryz.zeroValue77
 t75:=Tryz.underlying150
 a75:=Tryz.isAgg150
 z75:=Tryz.sizeOf150
 v75:=Tryz.zeroValue150
 t76:=Tryz.underlying151
 a76:=Tryz.isAgg151
 z76:=Tryz.sizeOf151
 v76:=Tryz.zeroValue151
 t85:=Tryz.underlying281
 a85:=Tryz.isAgg281
 z85:=Tryz.sizeOf281
 v85:=Tryz.zeroValue281
 t127:=Tryz.underlying204
 a127:=Tryz.isAgg204
 z127:=Tryz.sizeOf204
 v127:=Tryz.zeroValue204
 t143:=Tryz.underlying295
 a143:=Tryz.isAgg295
 z143:=Tryz.sizeOf295
 v143:=Tryz.zeroValue295
 t145:=Tryz.underlying297
 a145:=Tryz.isAgg297
 z145:=Tryz.sizeOf297
 v145:=Tryz.zeroValue297
 t167:=Tryz.underlying280
 a167:=Tryz.isAgg280
 z167:=Tryz.sizeOf280
 v167:=Tryz.zeroValue280
 t168:=Tryz.underlying283
 a168:=Tryz.isAgg283
 z168:=Tryz.sizeOf283
 v168:=Tryz.zeroValue283
 t171:=Tryz.underlying247
 a171:=Tryz.isAgg247
 z171:=Tryz.sizeOf247
 v171:=Tryz.zeroValue247
 t173:=Tryz.underlying249
 a173:=Tryz.isAgg249
 z173:=Tryz.sizeOf249
 v173:=Tryz.zeroValue249
 t175:=Tryz.underlying288
 a175:=Tryz.isAgg288
 z175:=Tryz.sizeOf288
 v175:=Tryz.zeroValue288
 t210:=Tryz.underlying292
 a210:=Tryz.isAgg292
 z210:=Tryz.sizeOf292
 v210:=Tryz.zeroValue292
 t212:=Tryz.underlying266
 a212:=Tryz.isAgg266
 z212:=Tryz.sizeOf266
 v212:=Tryz.zeroValue266
 t213:=Tryz.underlying267
 a213:=Tryz.isAgg267
 z213:=Tryz.sizeOf267
 t232:=Tryz.underlying286
 a232:=Tryz.isAgg286
 z232:=Tryz.sizeOf286
 v232:=Tryz.zeroValue286
 t233:=Tryz.underlying287
 a233:=Tryz.isAgg287
 z233:=Tryz.sizeOf287
 v233:=Tryz.zeroValue287
 g15:=by kernel_rfl
 g16:=by kernel_rfl
 g17:=by kernel_rfl
 g18:=by kernel_rfl
 g19:=by kernel_rfl
 t80:=Tryz.underlying156
 a80:=Tryz.isAgg156
 z80:=Tryz.sizeOf156
 v80:=Tryz.zeroValue156
 i0:=by kernel_rfl
 i2:=by kernel_rfl
 i3:=by kernel_rfl
 i4:=by kernel_rfl
 i5:=by kernel_rfl
 i9:=by kernel_rfl
 i20:=by kernel_rfl
 i21:=by kernel_rfl
 i37:=by kernel_rfl
 i46:=by kernel_rfl
 i51:=by kernel_rfl
 i53:=by kernel_rfl
 i75:=by kernel_rfl
 i76:=by kernel_rfl
 i80:=by kernel_rfl
 i85:=by kernel_rfl
 i127:=by kernel_rfl
 i143:=by kernel_rfl
 i145:=by kernel_rfl
 i167:=by kernel_rfl
 i168:=by kernel_rfl
 i171:=by kernel_rfl
 i173:=by kernel_rfl
 i175:=by kernel_rfl
 i210:=by kernel_rfl
 i212:=by kernel_rfl
 i232:=by kernel_rfl
 i233:=by kernel_rfl
 m15:=by kernel_rfl
 m16:=by kernel_rfl
 m17:=by kernel_rfl
 m18:=by kernel_rfl
 m19:=by kernel_rfl
 c0:=by kernel_rfl
 c2:=by kernel_rfl
 c3:=by kernel_rfl
 c4:=by kernel_rfl
 c5:=by kernel_rfl
 c9:=by kernel_rfl
 c20:=by kernel_rfl
 c21:=by kernel_rfl
 c37:=by kernel_rfl
 c46:=by kernel_rfl
 c51:=by kernel_rfl
 c53:=by kernel_rfl
 c75:=by kernel_rfl
 c76:=by kernel_rfl
 c80:=by kernel_rfl
 c85:=by kernel_rfl
 c127:=by kernel_rfl
 c143:=by kernel_rfl
 c145:=by kernel_rfl
 c167:=by kernel_rfl
 c168:=by kernel_rfl
 c171:=by kernel_rfl
 c173:=by kernel_rfl
 c175:=by kernel_rfl
 c210:=by kernel_rfl
 c212:=by kernel_rfl
 c213:=by kernel_rfl
 c232:=by kernel_rfl
 c233:=by kernel_rfl }
open Go.RowKit in
theorem Tryz.strconv_Atoi_ok (s:ByteArray) (hmax:s.size≤9223372036854775806) (v:Int) (h:Lib.atoiAll s.data.toList = .ok v) (w:World) :
 Calls Tryz.prog 250 #[.string s] w fun e w'=>e = .returned (.tuple #[.int .i64 v,.nilIface])∧(w'=w∨∃ t,w'=Lib.bytesWorld w 5 t):=Any.strconv_Atoi_ok Tryz.laysC172 s hmax v h w
def Tryz.lays217_ren:Go.Shelf.Ren:=⟨fun | 217=>132 | 266=>189 | n=>n,fun | 9=>9 | 5=>5 | 3=>3 | n=>n,fun | n=>n⟩
theorem Tryz.lays217:Go.Proofs.Lays.n217 Tryz.prog Tryz.lays217_ren:={
 mixed:=by kernel_rfl
 f217:=Tryz.func132.trans (congrArg some (by kernel_rfl))
 f266:=Tryz.func189.trans (congrArg some (by kernel_rfl))
 t3:=Tryz.underlying3
 a3:=Tryz.isAgg3
 z3:=Tryz.sizeOf3
 v3:=Tryz.zeroValue3
 t5:=Tryz.underlying5
 a5:=Tryz.isAgg5
 z5:=Tryz.sizeOf5
 v5:=Tryz.zeroValue5
 t9:=Tryz.underlying9
 a9:=Tryz.isAgg9
 z9:=Tryz.sizeOf9
 v9:=Tryz.zeroValue9 }
open Go.RowKit Go.Lib in
theorem Tryz.stringslite_IndexByte (s:ByteArray) (c:Int) (w:World) :
 Calls Tryz.prog 132 #[.string s,.int .u8 c] w fun e w'=>e = .returned (.int .i64 (Lib.indexByte s.data.toList c.toNat.toUInt8))∧w'=w:=Any.stringslite_IndexByte Tryz.lays217 s c w
def Tryz.lays219_ren:Go.Shelf.Ren:=⟨fun | 219=>208 | 217=>132 | 225=>243 | 224=>244 | 267=>245 | 266=>189 | 314=>263 | n=>n,fun | 9=>9 | 3=>3 | 4=>4 | 5=>5 | 46=>216 | 146=>251 | 51=>245 | n=>n,fun | 1=>0 | n=>n⟩
theorem Tryz.lays219:Go.Proofs.Lays.n219 Tryz.prog Tryz.lays219_ren:={
 mixed:=by kernel_rfl
 f217:=Tryz.func132.trans (congrArg some (by kernel_rfl))
 f219:=Tryz.func208.trans (congrArg some (by kernel_rfl))
 f224:=Tryz.func244.trans (congrArg some (by kernel_rfl))
 f225:=Tryz.func243.trans (congrArg some (by kernel_rfl))
 f266:=Tryz.func189.trans (congrArg some (by kernel_rfl))
 f267:=Tryz.func245.trans (congrArg some (by kernel_rfl))
 f314:=Tryz.func263.trans (congrArg some (by kernel_rfl))
 t3:=Tryz.underlying3
 a3:=Tryz.isAgg3
 z3:=Tryz.sizeOf3
 v3:=Tryz.zeroValue3
 t4:=Tryz.underlying4
 a4:=Tryz.isAgg4
 z4:=Tryz.sizeOf4
 v4:=Tryz.zeroValue4
 t5:=Tryz.underlying5
 a5:=Tryz.isAgg5
 z5:=Tryz.sizeOf5
 v5:=Tryz.zeroValue5
 t9:=Tryz.underlying9
 a9:=Tryz.isAgg9
 z9:=Tryz.sizeOf9
 v9:=Tryz.zeroValue9
 t46:=Tryz.underlying216
 a46:=Tryz.isAgg216
 z46:=Tryz.sizeOf216
 v46:=Tryz.zeroValue216
 t51:=Tryz.underlying245
 a51:=Tryz.isAgg245
 z51:=Tryz.sizeOf245
 v51:=Tryz.zeroValue245
 t146:=Tryz.underlying251
 a146:=Tryz.isAgg251
 z146:=Tryz.sizeOf251
 v146:=Tryz.zeroValue251
 g1:=by kernel_rfl }
open Go.RowKit Go.Lib in
theorem Tryz.stringslite_Index_one (s:ByteArray) (c:UInt8) (w:World) :
 Calls Tryz.prog 208 #[.string s,.string ⟨#[c]⟩] w fun e w'=>e = .returned (.int .i64 (Lib.indexByte s.data.toList c))∧w'=w:=Any.stringslite_Index_one Tryz.lays219 s c w
def Tryz.lays143_ren:Go.Shelf.Ren:=⟨fun | 143=>219 | 219=>208 | 217=>132 | 225=>243 | 224=>244 | 267=>245 | 266=>189 | 314=>263 | n=>n,fun | 9=>9 | 3=>3 | 4=>4 | 5=>5 | 46=>216 | 146=>251 | 51=>245 | n=>n,fun | 1=>0 | n=>n⟩
theorem Tryz.lays143:Go.Proofs.Lays.n143 Tryz.prog Tryz.lays143_ren:={
 mixed:=by kernel_rfl
 f143:=Tryz.func219.trans (congrArg some (by kernel_rfl))
 f217:=Tryz.func132.trans (congrArg some (by kernel_rfl))
 f219:=Tryz.func208.trans (congrArg some (by kernel_rfl))
 f224:=Tryz.func244.trans (congrArg some (by kernel_rfl))
 f225:=Tryz.func243.trans (congrArg some (by kernel_rfl))
 f266:=Tryz.func189.trans (congrArg some (by kernel_rfl))
 f267:=Tryz.func245.trans (congrArg some (by kernel_rfl))
 f314:=Tryz.func263.trans (congrArg some (by kernel_rfl))
 t3:=Tryz.underlying3
 a3:=Tryz.isAgg3
 z3:=Tryz.sizeOf3
 v3:=Tryz.zeroValue3
 t4:=Tryz.underlying4
 a4:=Tryz.isAgg4
 z4:=Tryz.sizeOf4
 v4:=Tryz.zeroValue4
 t5:=Tryz.underlying5
 a5:=Tryz.isAgg5
 z5:=Tryz.sizeOf5
 v5:=Tryz.zeroValue5
 t9:=Tryz.underlying9
 a9:=Tryz.isAgg9
 z9:=Tryz.sizeOf9
 v9:=Tryz.zeroValue9
 t46:=Tryz.underlying216
 a46:=Tryz.isAgg216
 z46:=Tryz.sizeOf216
 v46:=Tryz.zeroValue216
 t51:=Tryz.underlying245
 a51:=Tryz.isAgg245
 z51:=Tryz.sizeOf245
 v51:=Tryz.zeroValue245
 t146:=Tryz.underlying251
 a146:=Tryz.isAgg251
 z146:=Tryz.sizeOf251
 v146:=Tryz.zeroValue251
 g1:=by kernel_rfl }
open Go.RowKit Go.Lib in
theorem Tryz.strings_Index_one (s:ByteArray) (c:UInt8) (w:World) :
 Calls Tryz.prog 219 #[.string s,.string ⟨#[c]⟩] w fun e w'=>e = .returned (.int .i64 (Lib.indexByte s.data.toList c))∧w'=w:=Any.strings_Index_one Tryz.lays143 s c w
def Tryz.lays138_ren:Go.Shelf.Ren:=⟨fun | 138=>218 | 195=>248 | 218=>249 | 143=>219 | 219=>208 | 217=>132 | 225=>243 | 224=>244 | 267=>245 | 266=>189 | 314=>263 | n=>n,fun | 9=>9 | 3=>3 | 4=>4 | 5=>5 | 0=>0 | 46=>216 | 146=>251 | 51=>245 | n=>n,fun | 1=>0 | n=>n⟩
theorem Tryz.lays138:Go.Proofs.Lays.n138 Tryz.prog Tryz.lays138_ren:={
 mixed:=by kernel_rfl
 f138:=Tryz.func218.trans (congrArg some (by kernel_rfl))
 f143:=Tryz.func219.trans (congrArg some (by kernel_rfl))
 f195:=Tryz.func248.trans (congrArg some (by kernel_rfl))
 f217:=Tryz.func132.trans (congrArg some (by kernel_rfl))
 f218:=Tryz.func249.trans (congrArg some (by kernel_rfl))
 f219:=Tryz.func208.trans (congrArg some (by kernel_rfl))
 f224:=Tryz.func244.trans (congrArg some (by kernel_rfl))
 f225:=Tryz.func243.trans (congrArg some (by kernel_rfl))
 f266:=Tryz.func189.trans (congrArg some (by kernel_rfl))
 f267:=Tryz.func245.trans (congrArg some (by kernel_rfl))
 f314:=Tryz.func263.trans (congrArg some (by kernel_rfl))
 t0:=Tryz.underlying0
 a0:=Tryz.isAgg0
 z0:=Tryz.sizeOf0
 v0:=Tryz.zeroValue0
 t3:=Tryz.underlying3
 a3:=Tryz.isAgg3
 z3:=Tryz.sizeOf3
 v3:=Tryz.zeroValue3
 t4:=Tryz.underlying4
 a4:=Tryz.isAgg4
 z4:=Tryz.sizeOf4
 v4:=Tryz.zeroValue4
 t5:=Tryz.underlying5
 a5:=Tryz.isAgg5
 z5:=Tryz.sizeOf5
 v5:=Tryz.zeroValue5
 t9:=Tryz.underlying9
 a9:=Tryz.isAgg9
 z9:=Tryz.sizeOf9
 v9:=Tryz.zeroValue9
 t46:=Tryz.underlying216
 a46:=Tryz.isAgg216
 z46:=Tryz.sizeOf216
 v46:=Tryz.zeroValue216
 t51:=Tryz.underlying245
 a51:=Tryz.isAgg245
 z51:=Tryz.sizeOf245
 v51:=Tryz.zeroValue245
 t146:=Tryz.underlying251
 a146:=Tryz.isAgg251
 z146:=Tryz.sizeOf251
 v146:=Tryz.zeroValue251
 g1:=by kernel_rfl }
open Go.RowKit Go.Lib in
theorem Tryz.strings_Count_one (s:ByteArray) (c:UInt8) (w:World) :
 Calls Tryz.prog 218 #[.string s,.string ⟨#[c]⟩] w fun e w'=>e = .returned (.int .i64 (Lib.countByte s.data.toList c))∧w'=w:=Any.strings_Count_one Tryz.lays138 s c w
def Tryz.lays221_ren:Go.Shelf.Ren:=⟨fun | 221=>181 | 268=>217 | 138=>218 | 143=>219 | 195=>248 | 197=>247 | 218=>249 | 219=>208 | 260=>264 | 217=>132 | 225=>243 | 224=>244 | 267=>245 | 266=>189 | 314=>263 | n=>n,fun | 9=>9 | 3=>3 | 31=>52 | 4=>4 | 0=>0 | 105=>254 | 21=>21 | 5=>5 | 46=>216 | 119=>276 | 139=>279 | 138=>278 | 146=>251 | 51=>245 | n=>n,fun | 1=>0 | 3=>2 | 4=>3 | n=>n⟩
theorem Tryz.lays221:Go.Proofs.Lays.n221 Tryz.prog Tryz.lays221_ren:={
 mixed:=by kernel_rfl
 f138:=Tryz.func218.trans (congrArg some (by kernel_rfl))
 f143:=Tryz.func219.trans (congrArg some (by kernel_rfl))
 f195:=Tryz.func248.trans (congrArg some (by kernel_rfl))
 f197:=Tryz.func247.trans (congrArg some (by kernel_rfl))
 f217:=Tryz.func132.trans (congrArg some (by kernel_rfl))
 f218:=Tryz.func249.trans (congrArg some (by kernel_rfl))
 f219:=Tryz.func208.trans (congrArg some (by kernel_rfl))
 f221:=Tryz.func181.trans (congrArg some (by kernel_rfl))
 f224:=Tryz.func244.trans (congrArg some (by kernel_rfl))
 f225:=Tryz.func243.trans (congrArg some (by kernel_rfl))
 f260:=Tryz.func264.trans (congrArg some (by kernel_rfl))
 f266:=Tryz.func189.trans (congrArg some (by kernel_rfl))
 f267:=Tryz.func245.trans (congrArg some (by kernel_rfl))
 f268:=Tryz.func217.trans (congrArg some (by kernel_rfl))
 f314:=Tryz.func263.trans (congrArg some (by kernel_rfl))
 t0:=Tryz.underlying0
 a0:=Tryz.isAgg0
 z0:=Tryz.sizeOf0
 v0:=Tryz.zeroValue0
 t3:=Tryz.underlying3
 a3:=Tryz.isAgg3
 z3:=Tryz.sizeOf3
 v3:=Tryz.zeroValue3
 t4:=Tryz.underlying4
 a4:=Tryz.isAgg4
 z4:=Tryz.sizeOf4
 v4:=Tryz.zeroValue4
 t5:=Tryz.underlying5
 a5:=Tryz.isAgg5
 z5:=Tryz.sizeOf5
 v5:=Tryz.zeroValue5
 t9:=Tryz.underlying9
 a9:=Tryz.isAgg9
 z9:=Tryz.sizeOf9
 v9:=Tryz.zeroValue9
 t21:=Tryz.underlying21
 a21:=Tryz.isAgg21
 z21:=Tryz.sizeOf21
 v21:=Tryz.zeroValue21
 t31:=Tryz.underlying52
 a31:=Tryz.isAgg52
 z31:=Tryz.sizeOf52
 v31:=Tryz.zeroValue52
 t46:=Tryz.underlying216
 a46:=Tryz.isAgg216
 z46:=Tryz.sizeOf216
 v46:=Tryz.zeroValue216
 t51:=Tryz.underlying245
 a51:=Tryz.isAgg245
 z51:=Tryz.sizeOf245
 v51:=Tryz.zeroValue245
 t105:=Tryz.underlying254
 a105:=Tryz.isAgg254
 z105:=Tryz.sizeOf254
 v105:=Tryz.zeroValue254
 t119:=Tryz.underlying276
 a119:=Tryz.isAgg276
 z119:=Tryz.sizeOf276
 t138:=Tryz.underlying278
 a138:=Tryz.isAgg278
 z138:=Tryz.sizeOf278
 v138:=Tryz.zeroValue278
 t139:=Tryz.underlying279
 a139:=Tryz.isAgg279
 z139:=Tryz.sizeOf279
 v139:=Tryz.zeroValue279
 t146:=Tryz.underlying251
 a146:=Tryz.isAgg251
 z146:=Tryz.sizeOf251
 v146:=Tryz.zeroValue251
 g1:=by kernel_rfl
 g3:=by kernel_rfl
 g4:=by kernel_rfl }
def Tryz.lays264_ren:Go.Shelf.Ren:=⟨fun | 264=>190 | n=>n,fun | 53=>77 | 46=>216 | n=>n,fun | n=>n⟩
theorem Tryz.lays264:Go.Proofs.Lays.n264 Tryz.prog Tryz.lays264_ren:={
 mixed:=by kernel_rfl
 f264:=Tryz.func190.trans (congrArg some (by kernel_rfl))
 t46:=Tryz.underlying216
 a46:=Tryz.isAgg216
 z46:=Tryz.sizeOf216
 v46:=Tryz.zeroValue216
 t53:=Tryz.underlying77
 a53:=Tryz.isAgg77
 z53:=Tryz.sizeOf77
 v53:=Tryz.zeroValue77 }
open Go.RowKit Go.Lib in
theorem Tryz.bits_Mul64 (x y:Nat) (hx:x<18446744073709551616) (hy:y<18446744073709551616) (w:World) :
 Calls Tryz.prog 190 #[.int .u64 x,.int .u64 y] w fun e w'=>e = .returned (.tuple #[.int .u64 ((x*y / 18446744073709551616:Nat):Int),.int .u64 ((x*y % 18446744073709551616:Nat):Int)])∧w'=w:=Any.bits_Mul64 Tryz.lays264 x y hx hy w
def Tryz.lays105_ren:Go.Shelf.Ren:=⟨fun | 105=>167 | 212=>200 | 99=>118 | 165=>201 | 166=>121 | 170=>202 | 169=>125 | 263=>237 | 264=>190 | 206=>175 | 240=>178 | 241=>238 | 276=>216 | 277=>260 | n=>n,fun | 9=>9 | 3=>3 | 4=>4 | 20=>20 | 0=>0 | 46=>216 | 109=>223 | 5=>5 | 72=>148 | 76=>151 | 51=>245 | 146=>251 | 53=>77 | 148=>211 | 70=>146 | 37=>22 | 75=>150 | 127=>204 | 164=>234 | 80=>156 | n=>n,fun | n=>n⟩
theorem Tryz.lays105:Go.Proofs.Lays.n105 Tryz.prog Tryz.lays105_ren:={
 mixed:=by kernel_rfl
 f99:=Tryz.func118.trans (congrArg some (by kernel_rfl))
 f105:=Tryz.func167.trans (congrArg some (by kernel_rfl))
 f165:=Tryz.func201.trans (congrArg some (by kernel_rfl))
 f166:=Tryz.func121.trans (congrArg some (by kernel_rfl))
 f169:=Tryz.func125.trans (congrArg some (by kernel_rfl))
 f170:=Tryz.func202.trans (congrArg some (by kernel_rfl))
 f206:=Tryz.func175.trans (congrArg some (by kernel_rfl))
 f212:=Tryz.func200.trans (congrArg some (by kernel_rfl))
 f240:=Tryz.func178.trans (congrArg some (by kernel_rfl))
 f241:=Tryz.func238.trans (congrArg some (by kernel_rfl))
 f263:=Tryz.func237.trans (congrArg some (by kernel_rfl))
 f264:=Tryz.func190.trans (congrArg some (by kernel_rfl))
 f276:=Tryz.func216.trans (congrArg some (by kernel_rfl))
 f277:=Tryz.func260.trans (congrArg some (by kernel_rfl))
 t0:=Tryz.underlying0
 a0:=Tryz.isAgg0
 z0:=Tryz.sizeOf0
 v0:=Tryz.zeroValue0
 t3:=Tryz.underlying3
 a3:=Tryz.isAgg3
 z3:=Tryz.sizeOf3
 v3:=Tryz.zeroValue3
 t4:=Tryz.underlying4
 a4:=Tryz.isAgg4
 z4:=Tryz.sizeOf4
 v4:=Tryz.zeroValue4
 t5:=Tryz.underlying5
 a5:=Tryz.isAgg5
 z5:=Tryz.sizeOf5
 v5:=Tryz.zeroValue5
 t9:=Tryz.underlying9
 a9:=Tryz.isAgg9
 z9:=Tryz.sizeOf9
 v9:=Tryz.zeroValue9
 t20:=Tryz.underlying20
 a20:=Tryz.isAgg20
 z20:=Tryz.sizeOf20
 v20:=Tryz.zeroValue20
 t37:=Tryz.underlying22
 a37:=Tryz.isAgg22
 z37:=Tryz.sizeOf22
 v37:=Tryz.zeroValue22
 t46:=Tryz.underlying216
 a46:=Tryz.isAgg216
 z46:=Tryz.sizeOf216
 v46:=Tryz.zeroValue216
 t51:=Tryz.underlying245
 a51:=Tryz.isAgg245
 z51:=Tryz.sizeOf245
 v51:=Tryz.zeroValue245
 t53:=Tryz.underlying77
 a53:=Tryz.isAgg77
 z53:=Tryz.sizeOf77
 v53:=Tryz.zeroValue77
 t70:=Tryz.underlying146
 a70:=Tryz.isAgg146
 z70:=Tryz.sizeOf146
 v70:=Tryz.zeroValue146
 t72:=Tryz.underlying148
 a72:=Tryz.isAgg148
 z72:=Tryz.sizeOf148
 v72:=Tryz.zeroValue148
 t75:=Tryz.underlying150
 a75:=Tryz.isAgg150
 z75:=Tryz.sizeOf150
 v75:=Tryz.zeroValue150
 t76:=Tryz.underlying151
 a76:=Tryz.isAgg151
 z76:=Tryz.sizeOf151
 v76:=Tryz.zeroValue151
 t109:=Tryz.underlying223
 a109:=Tryz.isAgg223
 z109:=Tryz.sizeOf223
 v109:=Tryz.zeroValue223
 t127:=Tryz.underlying204
 a127:=Tryz.isAgg204
 z127:=Tryz.sizeOf204
 v127:=Tryz.zeroValue204
 t146:=Tryz.underlying251
 a146:=Tryz.isAgg251
 z146:=Tryz.sizeOf251
 v146:=Tryz.zeroValue251
 t148:=Tryz.underlying211
 a148:=Tryz.isAgg211
 z148:=Tryz.sizeOf211
 v148:=Tryz.zeroValue211
 t164:=Tryz.underlying234
 a164:=Tryz.isAgg234
 z164:=Tryz.sizeOf234
 v164:=Tryz.zeroValue234 }
theorem Tryz.Builder_Extra_105:Builder.Extra Tryz.prog Tryz.lays105_ren:={
 sizeBuilder:=by kernel_rfl
 liesBuilder:=by kernel_rfl
 t5:=Tryz.underlying5
 a5:=Tryz.isAgg5
 z5:=Tryz.sizeOf5
 v5:=Tryz.zeroValue5
 infoByte:=by kernel_rfl
 cellsByte:=by kernel_rfl
 sizeByte:=by kernel_rfl
 neB5:=by decide }
open Go.RowKit Go.Lib in
theorem Tryz.strings_Repeat (s:ByteArray) (c:Nat) (w:World) (hc:c≤9223372036854775807) (hlen:s.size*c≤140737488355328) :
 Calls Tryz.prog 167 #[.string s,.int .i64 c] w fun e w'=>e = .returned (.string ⟨(Lib.repeatL s.data.toList c).toArray⟩)∧Below w.heap.size w w':=Any.strings_Repeat Tryz.lays105 Tryz.Builder_Extra_105 s c w hc hlen
def Tryz.laySort_ren:Go.Shelf.Ren:=⟨fun | 6=>136 | 15=>193 | 14=>192 | 28=>230 | 29=>231 | 20=>222 | 21=>223 | 22=>224 | 23=>225 | 24=>226 | 25=>227 | 26=>228 | 27=>229 | 46=>251 | 47=>252 | 48=>253 | 49=>254 | 50=>255 | 57=>267 | n=>n,fun | 22=>34 | 24=>76 | 25=>174 | 3=>3 | 39=>216 | 0=>0 | 53=>245 | 55=>77 | 4=>4 | 46=>239 | 45=>238 | 50=>177 | 5=>5 | 9=>9 | 66=>259 | 70=>263 | 76=>272 | 77=>273 | n=>n,fun | n=>n⟩
theorem Tryz.laySort:Go.Proofs.SlLaysF0.n6 Tryz.prog Tryz.laySort_ren:={
 mixed:=by kernel_rfl
 f6:=⟨Tryz.f136.name,by decide,Tryz.func136.trans (congrArg some (by kernel_rfl))⟩
 f14:=⟨Tryz.f192.name,by decide,Tryz.func192.trans (congrArg some (by kernel_rfl))⟩
 f15:=Tryz.func193.trans (congrArg some (by kernel_rfl))
 f20:=⟨Tryz.f222.name,by decide,Tryz.func222.trans (congrArg some (by kernel_rfl))⟩
 f21:=⟨Tryz.f223.name,by decide,Tryz.func223.trans (congrArg some (by kernel_rfl))⟩
 f22:=⟨Tryz.f224.name,by decide,Tryz.func224.trans (congrArg some (by kernel_rfl))⟩
 f23:=⟨Tryz.f225.name,by decide,Tryz.func225.trans (congrArg some (by kernel_rfl))⟩
 f24:=⟨Tryz.f226.name,by decide,Tryz.func226.trans (congrArg some (by kernel_rfl))⟩
 f25:=⟨Tryz.f227.name,by decide,Tryz.func227.trans (congrArg some (by kernel_rfl))⟩
 f26:=⟨Tryz.f228.name,by decide,Tryz.func228.trans (congrArg some (by kernel_rfl))⟩
 f27:=⟨Tryz.f229.name,by decide,Tryz.func229.trans (congrArg some (by kernel_rfl))⟩
 f28:=Tryz.func230.trans (congrArg some (by kernel_rfl))
 f29:=Tryz.func231.trans (congrArg some (by kernel_rfl))
 f46:=⟨Tryz.f251.name,by decide,Tryz.func251.trans (congrArg some (by kernel_rfl))⟩
 f47:=Tryz.func252.trans (congrArg some (by kernel_rfl))
 f48:=Tryz.func253.trans (congrArg some (by kernel_rfl))
 f49:=⟨Tryz.f254.name,by decide,Tryz.func254.trans (congrArg some (by kernel_rfl))⟩
 f50:=⟨Tryz.f255.name,by decide,Tryz.func255.trans (congrArg some (by kernel_rfl))⟩
 f57:=⟨Tryz.f267.name,by decide,Tryz.func267.trans (congrArg some (by kernel_rfl))⟩
 t0:=Tryz.underlying0
 a0:=Tryz.isAgg0
 z0:=Tryz.sizeOf0
 v0:=Tryz.zeroValue0
 t3:=Tryz.underlying3
 a3:=Tryz.isAgg3
 z3:=Tryz.sizeOf3
 v3:=Tryz.zeroValue3
 t4:=Tryz.underlying4
 a4:=Tryz.isAgg4
 z4:=Tryz.sizeOf4
 v4:=Tryz.zeroValue4
 t5:=Tryz.underlying5
 a5:=Tryz.isAgg5
 z5:=Tryz.sizeOf5
 v5:=Tryz.zeroValue5
 t9:=Tryz.underlying9
 a9:=Tryz.isAgg9
 z9:=Tryz.sizeOf9
 v9:=Tryz.zeroValue9
 t22:=Tryz.underlying34
 a22:=Tryz.isAgg34
 z22:=Tryz.sizeOf34
 v22:=Tryz.zeroValue34
 t25:=Tryz.underlying174
 a25:=Tryz.isAgg174
 z25:=Tryz.sizeOf174
 v25:=Tryz.zeroValue174
 t39:=Tryz.underlying216
 a39:=Tryz.isAgg216
 z39:=Tryz.sizeOf216
 v39:=Tryz.zeroValue216
 t45:=Tryz.underlying238
 a45:=Tryz.isAgg238
 z45:=Tryz.sizeOf238
 v45:=Tryz.zeroValue238
 t46:=Tryz.underlying239
 a46:=Tryz.isAgg239
 z46:=Tryz.sizeOf239
 v46:=Tryz.zeroValue239
 t50:=Tryz.underlying177
 a50:=Tryz.isAgg177
 z50:=Tryz.sizeOf177
 v50:=Tryz.zeroValue177
 t53:=Tryz.underlying245
 a53:=Tryz.isAgg245
 z53:=Tryz.sizeOf245
 v53:=Tryz.zeroValue245
 t55:=Tryz.underlying77
 a55:=Tryz.isAgg77
 z55:=Tryz.sizeOf77
 v55:=Tryz.zeroValue77
 t66:=Tryz.underlying259
 a66:=Tryz.isAgg259
 z66:=Tryz.sizeOf259
 v66:=Tryz.zeroValue259
 t70:=Tryz.underlying263
 a70:=Tryz.isAgg263
 z70:=Tryz.sizeOf263
 v70:=Tryz.zeroValue263
 t76:=Tryz.underlying272
 a76:=Tryz.isAgg272
 z76:=Tryz.sizeOf272
 v76:=Tryz.zeroValue272
 t77:=Tryz.underlying273
 a77:=Tryz.isAgg273
 z77:=Tryz.sizeOf273
 v77:=Tryz.zeroValue273 }
end Go.Proofs
set_option linter.unusedVariables false
set_option linter.unusedSimpArgs false
namespace Go.Proofs
open Go.RowKit Go.Sort Go.Lib
set_option maxHeartbeats 6400000 in
set_option maxRecDepth 100000 in
theorem Tryz.internal_strconv_FormatUint_10 (u : Nat) (hu64 : u < 18446744073709551616) (w : World) (htab : Lib.TabIs Tryz.prog w "internal/strconv.uint64pow10" .u64 Lib.pow10Tab) :
 Calls Tryz.prog 199 #[.int .u64 u,.int .i64 10] w fun e w'=>e = .returned (.string ⟨(Lib.decDigits u).toArray⟩)∧∃ k os,w'=grow (w.drewN k) os:=by
 have mixed:Tryz.prog.follows .mixedOrders:=by kernel_rfl
 have e283:∀ args w,(callFunc 233 args).run Tryz.prog w = .ok (.enter 233 args) w:=enters_of Tryz.func233 (by kernel_rfl) rfl
 have e284:∀ args w,(callFunc 234 args).run Tryz.prog w = .ok (.enter 234 args) w:=enters_of Tryz.func234 (by kernel_rfl) rfl
 have e285:∀ args w,(callFunc 235 args).run Tryz.prog w = .ok (.enter 235 args) w:=enters_of Tryz.func235 (by kernel_rfl) rfl
 by_cases hs:u<100
 · have hcv:IntKind.wrap .i64 (u:Int)=u:=by rw [IntKind.wrap_i64]; omega
   go_enter Tryz.func199,Tryz.ntmps199
   go_wp2_with (go_at_fn 233; refine (Tryz.internal_strconv_small u hs _).mono ?_; rintro e w' ⟨rfl,rfl⟩)
   go_ret
   exact ⟨rfl,0,#[],by simp [World.drewN_zero]⟩
 · have hu1:1≤u:=by omega
   have hnd20:Lib.nDigits u≤20:=by have:=Lib.numDigits_eq u hu1 hu64; split at this<;>omega
   have hb3:Lib.nDigits u≤24:=by omega
   have hal:Tryz.prog.arrayLen 247=24:=by simp [Program.arrayLen,Tryz.underlying247]
   have hsl1:∀ W,(Instr.sliceAt 247 (.pointer (some ⟨w.heap.size,0,none⟩)) none (some (.int .i64 (Lib.nDigits u:Int))) none).run Tryz.prog W = .ok (.slice (some ⟨w.heap.size,0,none⟩) (Lib.nDigits u) 24) W:=fun W=>by
    rw [run_sliceAt_array_h W 247 ⟨w.heap.size,0,none⟩ (by simp [Program.arrayLen,Program.elem,Tryz.underlying247]) .i64 (Lib.nDigits u:Int) (by omega) (by rw [hal]; omega)]
    go_simp
    all_goals omega
   have hH0:=Lib.holds_zero0 w 247 (Lib.nDigits u) (by omega)
   have hfmt:=Tryz.internal_strconv_formatBase10 w.heap.size 0 24 u (Array.replicate (Lib.nDigits u) 0) (w.alloc (.cells Lib.zeros24 247)) hH0 (by rw [Array.size_replicate]; exact Lib.lt_pow_nDigits u) hu64 (by rw [Array.size_replicate]; omega)
   rw [Array.size_replicate] at hfmt
   have HH0:=Lib.hid hH0
   clear hH0 hal
   go_enter Tryz.func199,Tryz.ntmps199
   go_wp2_with (first
    | (go_at_fn 234; refine (Tryz.internal_strconv_numDigits u hu1 hu64 _ (Lib.tabIs_alloc htab _)).mono ?_; rintro e w' ⟨rfl,rfl⟩))
   go_at_fn 235
   refine hfmt.mono ?_
   rintro e w' ⟨rfl,k,v',dk,rfl,hF⟩
   have hcv:(convert 22 9 (.slice (some ⟨w.heap.size,0,none⟩) (Lib.nDigits u) 24)).run Tryz.prog ((putRow (fun (b:UInt8)=>Value.int .u8 (b.toNat:Int)) (w.alloc (.cells Lib.zeros24 247)) w.heap.size 0 dk).drewN k) = .ok (.string ⟨(Lib.decDigits u).toArray⟩) ((putRow (fun (b:UInt8)=>Value.int .u8 (b.toNat:Int)) (w.alloc (.cells Lib.zeros24 247)) w.heap.size 0 dk).drewN k):=by
    have h:=run_convert_bytes_back (P:=Tryz.prog) ((putRow (fun (b:UInt8)=>Value.int .u8 (b.toNat:Int)) (w.alloc (.cells Lib.zeros24 247)) w.heap.size 0 dk).drewN k) 22 9 5 ⟨w.heap.size,0,none⟩ 24 (Lib.decDigits u) Tryz.underlying22 Tryz.underlying5 Tryz.underlying9 (fun j hj=>by
     rw [Lib.row_is_numeral hF j hj,Lib.add_plain,World.cell?_drewN]
     exact cell?_putRow (fun (b:UInt8)=>Value.int .u8 (b.toNat:Int)) _ w.heap.size 0 _ dk HH0.out (by rw [hF.size,Array.size_replicate]) j (by rw [hF.size]; rw [Lib.decDigits_length] at hj; exact hj))
    rw [Lib.decDigits_length] at h
    exact h
   go_wp2
   go_ret
   obtain ⟨os,eo⟩:=Lib.fin_at w (.cells Lib.zeros24 247) dk k 0
   exact ⟨rfl,k,os,eo⟩
set_option maxRecDepth 100000 in
theorem Tryz.strconv_FormatUint_10 (u : Nat) (hu64 : u < 18446744073709551616) (w : World) (htab : Lib.TabIs Tryz.prog w "internal/strconv.uint64pow10" .u64 Lib.pow10Tab) :
 Calls Tryz.prog 166 #[.int .u64 u,.int .i64 10] w fun e w'=>e = .returned (.string ⟨(Lib.decDigits u).toArray⟩)∧∃ k os,w'=grow (w.drewN k) os:=by
 have e51:∀ args w,(callFunc 199 args).run Tryz.prog w = .ok (.enter 199 args) w:=enters_of Tryz.func199 (by kernel_rfl) rfl
 go_enter Tryz.func166,Tryz.ntmps166
 go_wp2_with (go_at_fn 199; refine (Tryz.internal_strconv_FormatUint_10 u hu64 _ htab).mono ?_; rintro e w' ⟨rfl,k,os,rfl⟩)
 go_ret
 exact ⟨rfl,k,os,rfl⟩
end Go.Proofs
set_option linter.unusedVariables false
set_option linter.unusedSimpArgs false
namespace Go.Proofs
open Go.Shelf Go.RowKit Go.Lib
set_option maxHeartbeats 1000000 in
theorem Tryz.strings_Split_one (s:ByteArray) (c:UInt8) (w:World) (hs:s.size<4294967281) :
 Calls Tryz.prog 126 #[.string s,.string ⟨#[c]⟩] w fun e w'=>∃ (l:List ByteArray) (t:TypeId),e = .returned (.slice (some ⟨w.heap.size,0,none⟩) l.length l.length)∧w'=w.alloc (.cells (l.map Value.string).toArray t)∧l.map (·.data.toList)=AM.splitL c s.data.toList:=by
 have mixed:Tryz.prog.follows .mixedOrders:=by kernel_rfl
 have h1:1≤(⟨#[c]⟩:ByteArray).size:=Nat.le_refl 1
 have hle:=Lib.countB_le ⟨#[c]⟩ h1 s.size s (Nat.le_refl _)
 have hlen:=Lib.splitB_all ⟨#[c]⟩ h1 0 _ s rfl
 have hcb:Lib.countB s ⟨#[c]⟩=s.data.toList.count c:=Lib.count_one c s.data.toList
 have hI:∀ (x:ByteArray) (cs:Array Value),x.size≤s.size→Calls Tryz.prog 219 #[.string x,.string ⟨#[c]⟩] (w.alloc (.cells cs 9)) fun e w'=>e = .returned (.int .i64 (Lib.indexB x ⟨#[c]⟩))∧w'=w.alloc (.cells cs 9):=
  fun x cs hx=>(Tryz.strings_Index_one x c _).mono fun e w' ⟨he,hw⟩=>⟨by rw [he,← Lib.index_one]; try rfl,hw⟩
 have hC:Calls Tryz.prog 218 #[.string s,.string ⟨#[c]⟩] w fun e w'=>e = .returned (.int .i64 (Lib.countB s ⟨#[c]⟩))∧w'=w:=
  (Tryz.strings_Count_one s c w).mono fun e w' ⟨he,hw⟩=>⟨by rw [he,hcb]; rfl,hw⟩
 have h:=Any.strings_genSplit_core Tryz.lays221 (by kernel_rfl) s ⟨#[c]⟩ 0 (-1) (Lib.countB s ⟨#[c]⟩+1) w hs h1 (Nat.zero_le _) hI hC (by decide) (by decide) (by rw [if_pos (by decide)]; omega)
 rw [Nat.add_sub_cancel,hlen] at h
 have e2:Lib.cellsOf (Lib.splitB ⟨#[c]⟩ 0 (Lib.countB s ⟨#[c]⟩) s) (Lib.countB s ⟨#[c]⟩+1)=((Lib.splitB ⟨#[c]⟩ 0 (Lib.countB s ⟨#[c]⟩) s).map Value.string).toArray:=by rw [← hlen]; exact Lib.cellsOf_full _
 rw [e2] at h
 have hd:(Lib.splitB ⟨#[c]⟩ 0 (Lib.countB s ⟨#[c]⟩) s).map (·.data.toList)=AM.splitL c s.data.toList:=by
  rw [Lib.splitB_data,hcb]
  exact AM.splitK_one c _ _ rfl
 change Calls Tryz.prog 181 _ _ _ at h
 generalize Lib.splitB ⟨#[c]⟩ 0 (Lib.countB s ⟨#[c]⟩) s=l at h hd hlen
 rw [← hlen] at h
 clear e2 hI hC hle hlen hcb
 go_enter Tryz.func126,Tryz.ntmps126
 go_wp2_with (go_at_call 181; refine h.mono ?_; rintro e w' ⟨rfl,hw⟩; rw [hw])
 go_ret
 exact ⟨l,_,rfl,rfl,hd⟩
end Go.Proofs
set_option linter.unusedVariables false
set_option linter.unusedSimpArgs false
namespace Go.AM
open Go.Proofs Go.RowKit
set_option maxHeartbeats 2000000 in
set_option maxRecDepth 100000 in
theorem zig (b:Nat) (w:World) (h0:w.cell? ⟨b,0,none⟩=some (.pointer (some ⟨b,0,none⟩))) :
 Calls Tryz.prog 178 #[.pointer (some ⟨b,0,none⟩)] w fun e w'=>e = .returned (.tuple #[])∧w'=w:=by
 have mixed:Tryz.prog.follows .mixedOrders=true:=by kernel_rfl
 obtain ⟨j,hj,_⟩:=Option.map_eq_some_iff.1 (show (Tryz.prog.info? 148).map (·.size)=some 2 by kernel_rfl)
 go_enter Tryz.func178,Tryz.ntmps178
 go_wp2
 rw [Lib.run_neq_ptr_same w _ Tryz.underlying146 hj]
 go_wp2
 go_end0
 exact ⟨rfl,rfl⟩
set_option maxHeartbeats 2000000 in
set_option maxRecDepth 100000 in
theorem zhv (b:Nat) (w:World) (h0:w.cell? ⟨b,0,none⟩=some (.pointer none)) (hsh:w.shape? b=some (148,2)) (hfz:w.frozen? ⟨b,0,none⟩=false) :
 Calls Tryz.prog 178 #[.pointer (some ⟨b,0,none⟩)] w fun e w'=>e = .returned (.tuple #[])∧w'=w.setCell ⟨b,0,none⟩ (.pointer (some ⟨b,0,none⟩)):=by
 have mixed:Tryz.prog.follows .mixedOrders=true:=by kernel_rfl
 obtain ⟨j,hj,hjs⟩:=Option.map_eq_some_iff.1 (show (Tryz.prog.info? 148).map (·.size)=some 2 by kernel_rfl)
 go_enter Tryz.func178,Tryz.ntmps178
 go_wp2
 rw [Lib.run_to_unsafe w ⟨b,0,none⟩ Tryz.underlying146 Tryz.underlying234 hj (by rw [hjs]; decide) hsh (Nat.zero_lt_succ 1)]
 simp only [Result.andThen]
 rw [Oper.upon_value]
 go_wp2
 rw [run_callFunc_extern Tryz.func216 (by kernel_rfl) (by kernel_rfl) (by kernel_rfl) (e:=Extern.AbiNoEscape.same) (by kernel_rfl)]
 rw [Lib.run_noEscape]
 simp only [Result.andThen]
 rw [Oper.upon_value]
 go_wp2
 rw [Lib.run_from_unsafe w ⟨b,0,none⟩ Tryz.underlying234 Tryz.underlying146 hj hsh (by kernel_rfl)]
 simp only [Result.andThen]
 rw [Oper.upon_value]
 go_wp2
 go_end0
 exact ⟨rfl,rfl⟩
theorem zlf:PrOK Tryz.prog (fun _=>True) 178 (.bcheck 148):=by
 intro w b vs _ hh hsz h0
 have he:Enters Tryz.prog 178:=enters Tryz.func178 (by kernel_rfl) (by decide)
 rcases h0 with h0 | h0
 · refine z7 he ((zhv b w (by rw [Lib.cell_of_heap hh]; exact h0) (by simp [World.shape?,hh,hsz]) (by simp [World.frozen?,hh])).mono ?_)
   rintro e w' ⟨rfl,rfl⟩
   refine ⟨_,rfl,rfl,.inr ⟨?_,?_⟩⟩
   · refine ⟨rfl,rfl,rfl,by simp [World.setCell],fun k _ hk => ?_⟩
     exact Below.heap_setCell _ _ _ _ (fun e=>hk (by simp [e]))
   · simp [World.setCell,Array.getElem?_modify,hh]
 · refine z7 he ((zig b w (by rw [Lib.cell_of_heap hh]; exact h0)).mono ?_)
   rintro e w' ⟨rfl,rfl⟩
   exact ⟨_,rfl,rfl,.inl rfl⟩
set_option maxHeartbeats 2000000 in
set_option maxRecDepth 100000 in
theorem bString (b g cap:Nat) (p:Value) (cur:Array Value) (l:List UInt8) (w:World) (h0:l≠[]) (hl:l.length≤strMax) (hbk:w.heap[b]? = some (.cells #[p,.slice (some ⟨g,0,none⟩) l.length cap] 148 (0,0)))
 (hg:w.heap[g]? = some (.cells cur 5 (0,0))) (hnc:l.length≤cap) (hcs:cur.size=cap) (htake:cur.toList.take l.length=Lib.byteCells l) :
 Calls Tryz.prog 125 #[.pointer (some ⟨b,0,none⟩)] w fun e w'=>e = .returned (.string ⟨l.toArray⟩)∧w'=w.drew.freeze ⟨g,0,none⟩ l.length:=by
 have mixed:Tryz.prog.follows .mixedOrders=true:=by kernel_rfl
 have hl0:l.length≠0:=by simpa using h0
 have c1:w.drew.cell? ⟨b,1,none⟩=some (.slice (some ⟨g,0,none⟩) l.length cap):=by
  have:w.drew.heap[b]? = some (.cells #[p,.slice (some ⟨g,0,none⟩) l.length cap] 148 (0,0)):=hbk
  rw [Lib.cell_of_heap this]; rfl
 have hSD:(Builtin.unsafeSliceData_ #[22] 204 #[.slice (some ⟨g,0,none⟩) l.length cap]).run Tryz.prog w.drew = .ok (.pointer (some ⟨g,0,none⟩)) w.drew:=
  Lib.run_unsafeSliceData_row _ _ _ _ _ _ (by omega)
 have hUS:(Builtin.unsafeString_ #[204,3] 9 #[.pointer (some ⟨g,0,none⟩),.int .i64 l.length]).run Tryz.prog w.drew = .ok (.string ⟨l.toArray⟩) (w.drew.freeze ⟨g,0,none⟩ l.length):=by
  refine Lib.run_unsafeString_row w.drew 204 3 9 5 Tryz.underlying204 (by kernel_rfl) g cur.size (by have hg':w.drew.heap[g]? = some (.cells cur 5 (0,0)):=hg; simp [World.shape?,hg']) l h0 (by omega) (by rw [strMax] at hl; omega) ?_
  intro j x hx
  have hg':w.drew.heap[g]? = some (.cells cur 5 (0,0)):=hg
  have hj:=(List.getElem?_eq_some_iff.1 hx).1
  rw [show (⟨g,0,none⟩:Addr).add j=⟨g,j,none⟩ from by by_cases hj0:j=0<;>simp [Addr.add,hj0],Lib.cell_of_heap hg',← Array.getElem?_toList]
  have e:=congrArg (fun q=>q[j]?) htake
  simp only [List.getElem?_take,hj,if_true,Lib.byteCells,List.getElem?_map,hx,Option.map_some] at e
  simpa using e
 go_enter Tryz.func125,Tryz.ntmps125
 go_wp2
 go_region_o
 all_goals (go_wp2; go_ret; exact ⟨rfl,rfl⟩)
theorem zm3 (w:World) (g n:Nat) (k:Nat) (hk:k≠g):(w.freeze ⟨g,0,none⟩ n).heap[k]? = w.heap[k]?:=by
 unfold World.freeze
 split
 · rfl
 · simp [Array.getElem?_modify,Ne.symm hk]
theorem zm4 (w:World) (g n o:Nat):(w.freeze ⟨g,0,none⟩ n).cell? ⟨g,o,none⟩=w.cell? ⟨g,o,none⟩:=by
 unfold World.freeze
 split
 · rfl
 · simp only [World.cell?,Array.getElem?_modify,if_true]
   cases w.heap[g]? with
   | none=>rfl
   | some ob=>cases ob<;>rfl
theorem zm5 (w:World) (g n:Nat):(w.freeze ⟨g,0,none⟩ n).heap.size=w.heap.size∧(w.freeze ⟨g,0,none⟩ n).os=w.os∧(w.freeze ⟨g,0,none⟩ n).tape=w.tape∧(w.freeze ⟨g,0,none⟩ n).output=w.output:=by
 unfold World.freeze
 split<;>simp
theorem zo2:PrOK Tryz.prog (fun _=>True) 125 (.bstring 148 5):=by
 intro w b q cap vs cur l _ hne hl hh hsz h1 hq hlc hcs ht
 have he:Enters Tryz.prog 125:=enters Tryz.func125 (by kernel_rfl) (by decide)
 obtain ⟨p,hvs⟩:∃ p,vs=#[p,.slice (some ⟨q,0,none⟩) l.length cap]:=by
  refine ⟨vs[0]'(by omega),?_⟩
  apply Array.ext
  · simp [hsz]
  · intro i hi1 hi2
    match i,hi1 with
    | 0,_=>rfl
    | 1,_ =>
     have:=(Array.getElem?_eq_some_iff.1 h1).2
     simpa using this
    | i+2,h=>omega
 subst hvs
 refine z7 he ((bString b q cap p cur l w hne hl hh hq hlc hcs ht).mono ?_)
 rintro e w' ⟨rfl,rfl⟩
 obtain ⟨f1,f2,f3,f4⟩:=zm5 w.drew q l.length
 refine ⟨_,rfl,rfl,⟨f2,f3,f4,by rw [f1]; exact Nat.le_refl _,fun k _ hk=>zm3 w.drew q l.length k (fun e=>hk (by rw [e]))⟩,fun o=>zm4 w.drew q l.length o⟩
end Go.AM
