/- Part 4 of a proof by the abstract machine. -/
import Derived.Test.YtfeonbdbigcdcaaGreatDoorQ3
import Derived.Shelf.Strings.Builder1
import Derived.Shelf.Strings.Builder2
import Derived.Shelf.Strings.OnBuilder
import Derived.Shelf.Strings.Trim
import Derived.Shelf.Small.Utf8
import Derived.Shelf.Small.Bits
import Derived.Shelf.Small.Strs
import Derived.Shelf.Small.Wraps
import Derived.Shelf.Strings.BuilderF
import Derived.Shelf.Strconv.Atoi
import Derived.Shelf.Strconv.Itoa0
import Derived.Shelf.Strconv.Itoa1
import Derived.Shelf.LaysM
import Derived.Shelf.Strconv.Itoa2
import Derived.Shelf.Strconv.Itoa3
import Derived.Shelf.Strconv.AtoiErrFast
import Derived.Shelf.Strconv.ParseIntEmpty
import Derived.Shelf.Strconv.AtoiFail
import Derived.Shelf.Strconv.Clone
import Derived.Shelf.Strconv.SyntaxError
import Derived.Shelf.LaysC
import Derived.Shelf.Strconv.ToError
import Derived.Shelf.Strconv.AtoiErr
import Derived.Shelf.Strconv.ErrVar
import Derived.Shelf.Strconv.Lower
import Derived.Shelf.Strconv.ParseUint10
import Derived.Shelf.Strconv.ParseUint10Empty
import Derived.Shelf.Strconv.ParseUint10Any
import Derived.Shelf.Strconv.ParseInt10
import Derived.Shelf.Strconv.AtoiLong
import Derived.Shelf.Strconv.AtoiInnerAll
import Derived.Shelf.Strconv.RangeError
import Derived.Shelf.Strconv.ToErrorRange
import Derived.Shelf.Strconv.AtoiAll
import Derived.Shelf.Strconv.ErrVarAll
import Derived.Shelf.Strings.Search1
import Derived.Shelf.Strings.Search2
import Derived.Shelf.Strings.Search3
import Derived.Shelf.Strings.Cut
import Derived.Shelf.Strings.Count
import Derived.Shelf.Strings.Shaped
import Derived.Shelf.Strings.Prefix
import Derived.Shelf.Strings.Split
import Derived.Shelf.Strings.SplitShaped
import Derived.Shelf.Unicode.Decode
import Derived.Shelf.Strings.Runes
import Derived.Shelf.Strings.RuneCount
import Derived.Shelf.Strings.AsciiSet
import Derived.Shelf.Strings.Explode
import Derived.Shelf.Bits.Mul64
import Derived.Shelf.Strings.Repeat
import Derived.Shelf.Unicode.DecodeSlow
import Derived.Shelf.Bytes.SlIndexSmall
import Derived.Shelf.Bytes.SlIndexAt
import Derived.Shelf.Bytes.SlSearch0
import Derived.Shelf.Bytes.Small
import Derived.Shelf.Bytes.IndexByte
import Derived.Shelf.SlGeneric
import Derived.Ground.SlsfProg
import Derived.Shelf.SlSortCmp.WholeK
import Derived.Test.YtfeonbdbigcdcaaGreatDoorProg
import Derived.Lib.IndexBytes
import Derived.Lib.Walk
import Derived.WalkKit
import Derived.BigCall
import Derived.BigGuard
import Derived.Deep.RegionHeld2
import Derived.LoopN
import Derived.Lib.Builder
import Derived.WalkLawsBesides
import Derived.Defers
import Derived.Recover
import Derived.BigRegion
import Derived.KernelRfl
set_option linter.unusedVariables false
namespace Go.AM
abbrev Y0:Ty:=.int .i64
abbrev Y1:Ty:=.agg [Y0,Y0,.str,.bool]
abbrev Y2:Ty:=.int .u64
abbrev Y3:Ty:=.agg [.bool,Y2,Y0]
abbrev Y4:Ty:=.agg [.str,.str]
abbrev Y5:Ty:=.sl Y3
abbrev Y6:Ty:=.sl Y4
abbrev Y7:Ty:=.agg [.str,Y0,Y5,Y0,Y6,Y0]
abbrev Y8:Ty:=.sl Y7
abbrev Y9:Ty:=.agg [Y0,Y0,Y0,Y8,Y0,Y0]
abbrev Y10:Ty:=.agg [Y0,Y0]
abbrev Y11:Ty:=.agg [Y0,Y0,(.sl .u8),Y10]
abbrev Y12:Ty:=.sl Y9
abbrev Y13:Ty:=.agg [Y0,Y0,(.sl .u8),Y0,.bool]
abbrev Y14:Ty:=.agg [Y0,Y0,Y0,(.sl .u8),.bool]
abbrev Y15:Ty:=.sl Y1
abbrev Y16:Ty:=.sl Y11
abbrev Y17:Ty:=.int .u32
abbrev Y18:Ty:=.agg [.u8,Y0]
abbrev Y19:Ty:=.agg [Y18,Y18,Y18]
abbrev Y20:Ty:=.agg [(.sl .u8),Y0,Y10,.bool]
abbrev Y21:Ty:=.agg [Y7,Y0,Y0]
abbrev Y22:Ty:=.agg [Y0,.str,.bool]
abbrev Y23:Ty:=.agg [.u8,.u8]
abbrev Y24:Ty:=.agg [.str,.str,.str,.str,.str,.str]
abbrev Z0:Type:=List (UInt8)
abbrev Z1:Type:=List (Z0)
abbrev Z2:Type:=List UInt8
abbrev Z3:Type:=(Bool)×(Int)×(Int)
abbrev Z4:Type:=List (Z3)
abbrev Z5:Type:=(Z2)×(Z2)
abbrev Z6:Type:=List (Z5)
abbrev Z7:Type:=(Z2)×(Int)×(Z4)×(Int)×(Z6)×(Int)
abbrev Z8:Type:=List (Z7)
abbrev Z9:Type:=(Int)×(Int)×(Int)×(Z8)×(Int)×(Int)
abbrev Z10:Type:=List (Z9)
abbrev Z11:Type:=List (Int)
abbrev Z12:Type:=(Int)×(Int)×(Z2)×(Bool)
abbrev Z13:Type:=List (Z12)
abbrev Z14:Type:=(Int)×(Int)
abbrev Z15:Type:=(Int)×(Int)×(Z0)×(Z14)
abbrev Z16:Type:=List (Z15)
abbrev Z17:Type:=(Int)×(Int)×(Int)×(Int)×(Int)×(Int)×Unit
abbrev Z18:Type:=(Int)×(Int)×Unit
abbrev Z19:Type:=List (List UInt8×Int)
abbrev Z20:Type:=List (Z2)
abbrev Z21:Type:=(Z2)×(Z2)×Unit
abbrev Z22:Type:=(Bool)×(Int)×(Int)×Unit
abbrev Z23:Type:=(Z2)×(Int)×(Z4)×(Int)×(Z6)×(Int)×Unit
abbrev Z24:Type:=(Z2)×(Unit)×(Z2)×(Unit)×(Z2)×(Unit)×Unit
abbrev Z25:Type:=Nat×Nat
abbrev Z26:Type:=Nat×List (Z5)
abbrev Z27:Type:=(Z2)×(Z2)×(Z2)×(Z2)×(Z2)×(Z2)×Unit
abbrev Z28:Type:=(Int)×(Int)×(Int)×(Z8)×(Int)×(Int)×Unit
noncomputable def F.zj.L2.step {X:Type} (n:Nat) (rec:Z0→Z17→Int→Int→Int→Option X) (k0:Z0→Int→Int→Option X) (kr:Int→Int→Int→Int→Option X) (c:Z0) (a:Z17) (b:Int) (d:Int) (e:Int):Option X:=
 bif decide (b<(3:Int)) then
  bif b==(0:Int) then
   bif decide (b≥(c.length:Int)) then
    kr (0:Int) (0:Int) (0:Int) (0:Int)
   else
    (idx c b).bind fun f =>
     bif !(((f).toNat)==a.1) then
      kr (0:Int) (0:Int) a.2.1 b
     else
      rec c (a.1,a.2.1,a.2.2.1,a.2.2.2.1,a.2.2.2.2.1,a.2.2.2.2.2.1,()) (IntKind.wrap .i64 (b+(1:Int))) d e
  else
  bif b==(1:Int) then
   bif decide (b≥(c.length:Int)) then
    kr (0:Int) (0:Int) (0:Int) (0:Int)
   else
    (idx c b).bind fun g =>
     bif !(((g).toNat)==a.2.2.1) then
      kr (0:Int) (0:Int) a.2.2.2.1 b
     else
      rec c (a.1,a.2.1,a.2.2.1,a.2.2.2.1,a.2.2.2.2.1,a.2.2.2.2.2.1,()) (IntKind.wrap .i64 (b+(1:Int))) d e
  else
  bif b==(2:Int) then
   bif decide (b≥(c.length:Int)) then
    kr (0:Int) (0:Int) (0:Int) (0:Int)
   else
    (idx c b).bind fun h =>
     bif !(((h).toNat)==a.2.2.2.2.1) then
      kr (0:Int) (0:Int) a.2.2.2.2.2.1 b
     else
      rec c (a.1,a.2.1,a.2.2.1,a.2.2.2.1,a.2.2.2.2.1,a.2.2.2.2.2.1,()) (IntKind.wrap .i64 (b+(1:Int))) d e
  else
   none
 else
  k0 c d e
noncomputable def F.zj.L2 {X:Type} (n:Nat) (k0:Z0→Int→Int→Option X) (kr:Int→Int→Int→Int→Option X):Nat→Z0→Z17→Int→Int→Int→Option X
 | 0=>fun _ _ _ _ _=>none
 | m+1=>fun a b c d e=>F.zj.L2.step n (F.zj.L2 n k0 kr m) k0 kr a b c d e
noncomputable def F.zj.L10.step {X:Type} (n:Nat) (rec:Z0→Int→Int→Int→Int→Option X) (k3:Int→Int→Option X) (kr:Int→Int→Int→Int→Option X) (d:Z0) (c:Int) (a:Int) (e:Int) (f:Int):Option X:=
 bif decide (a<(d.length:Int)) then
  (idx d a).bind fun b =>
   bif a==(5:Int) then
    bif decide ((IntKind.wrap .i64 ((b).toNat))≥(128:Int)) then
     kr (0:Int) (0:Int) (12:Int) a
    else
    bif decide ((IntKind.wrap .i64 ((7:Int)*(IntKind.wrap .i64 (a - (3:Int)))))<0) then
     none
    else
    bif decide ((IntKind.wrap .i64 ((b).toNat))≥(128:Int)) then
     rec d (bitsA .or .i64 c (shlA .i64 ((IntKind.wrap .i64 ((b).toNat)).tmod (128:Int)) (IntKind.wrap .i64 ((7:Int)*(IntKind.wrap .i64 (a - (3:Int))))))) (IntKind.wrap .i64 (a+(1:Int))) e f
    else
    bif (IntKind.wrap .i64 ((b).toNat))==(0:Int) then
     bif decide (a>(3:Int)) then
      kr (0:Int) (0:Int) (21:Int) a
     else
     bif decide ((bitsA .or .i64 c (shlA .i64 ((IntKind.wrap .i64 ((b).toNat)).tmod (128:Int)) (IntKind.wrap .i64 ((7:Int)*(IntKind.wrap .i64 (a - (3:Int)))))))>(1048576:Int)) then
      kr (0:Int) (0:Int) (12:Int) a
     else
      kr (IntKind.wrap .i64 (a+(1:Int))) (bitsA .or .i64 c (shlA .i64 ((IntKind.wrap .i64 ((b).toNat)).tmod (128:Int)) (IntKind.wrap .i64 ((7:Int)*(IntKind.wrap .i64 (a - (3:Int))))))) (0:Int) (0:Int)
    else
    bif decide ((bitsA .or .i64 c (shlA .i64 ((IntKind.wrap .i64 ((b).toNat)).tmod (128:Int)) (IntKind.wrap .i64 ((7:Int)*(IntKind.wrap .i64 (a - (3:Int)))))))>(1048576:Int)) then
     kr (0:Int) (0:Int) (12:Int) a
    else
     kr (IntKind.wrap .i64 (a+(1:Int))) (bitsA .or .i64 c (shlA .i64 ((IntKind.wrap .i64 ((b).toNat)).tmod (128:Int)) (IntKind.wrap .i64 ((7:Int)*(IntKind.wrap .i64 (a - (3:Int))))))) (0:Int) (0:Int)
   else
   bif decide ((IntKind.wrap .i64 ((7:Int)*(IntKind.wrap .i64 (a - (3:Int)))))<0) then
    none
   else
   bif decide ((IntKind.wrap .i64 ((b).toNat))≥(128:Int)) then
    rec d (bitsA .or .i64 c (shlA .i64 ((IntKind.wrap .i64 ((b).toNat)).tmod (128:Int)) (IntKind.wrap .i64 ((7:Int)*(IntKind.wrap .i64 (a - (3:Int))))))) (IntKind.wrap .i64 (a+(1:Int))) e f
   else
   bif (IntKind.wrap .i64 ((b).toNat))==(0:Int) then
    bif decide (a>(3:Int)) then
     kr (0:Int) (0:Int) (21:Int) a
    else
    bif decide ((bitsA .or .i64 c (shlA .i64 ((IntKind.wrap .i64 ((b).toNat)).tmod (128:Int)) (IntKind.wrap .i64 ((7:Int)*(IntKind.wrap .i64 (a - (3:Int)))))))>(1048576:Int)) then
     kr (0:Int) (0:Int) (12:Int) a
    else
     kr (IntKind.wrap .i64 (a+(1:Int))) (bitsA .or .i64 c (shlA .i64 ((IntKind.wrap .i64 ((b).toNat)).tmod (128:Int)) (IntKind.wrap .i64 ((7:Int)*(IntKind.wrap .i64 (a - (3:Int))))))) (0:Int) (0:Int)
   else
   bif decide ((bitsA .or .i64 c (shlA .i64 ((IntKind.wrap .i64 ((b).toNat)).tmod (128:Int)) (IntKind.wrap .i64 ((7:Int)*(IntKind.wrap .i64 (a - (3:Int)))))))>(1048576:Int)) then
    kr (0:Int) (0:Int) (12:Int) a
   else
    kr (IntKind.wrap .i64 (a+(1:Int))) (bitsA .or .i64 c (shlA .i64 ((IntKind.wrap .i64 ((b).toNat)).tmod (128:Int)) (IntKind.wrap .i64 ((7:Int)*(IntKind.wrap .i64 (a - (3:Int))))))) (0:Int) (0:Int)
 else
  k3 e f
noncomputable def F.zj.L10 {X:Type} (n:Nat) (k3:Int→Int→Option X) (kr:Int→Int→Int→Int→Option X):Nat→Z0→Int→Int→Int→Int→Option X
 | 0=>fun _ _ _ _ _=>none
 | m+1=>fun a b c d e=>F.zj.L10.step n (F.zj.L10 n k3 kr m) k3 kr a b c d e
noncomputable def F.zj (n:Nat) (a0:Z0):Option ((Int)×(Int)×(Z18)×Unit):=
 F.zj.L2 n
  (fun a b c =>
   F.zj.L10 n
    (fun l m =>
     some (((0:Int),(0:Int),((0:Int),(0:Int),()),())))
    (fun d e f g =>
     some ((d,e,(f,g,()),()))) n a (0:Int) (3:Int) b c)
  (fun h i j k =>
   some ((h,i,(j,k,()),()))) n a0 ((77:Int),(22:Int),(71:Int),(22:Int),(1:Int),(23:Int),()) (0:Int) (0:Int) (0:Int)
noncomputable def F.zal (n:Nat) (a0:Z0):Option ((Int)×(Z18)×Unit):=
 (F.zj n a0).bind fun a =>
  bif a.1==(0:Int) then
   some (((0:Int),(a.2.2.1.1,a.2.2.1.2.1,()),()))
  else
   some (((IntKind.wrap .i64 ((IntKind.wrap .i64 (a.1+a.2.1))+(4:Int))),(a.2.2.1.1,a.2.2.1.2.1,()),()))
noncomputable def F.zaw (n:Nat) (a0:Z0) (a1:Z0):Option (Bool):=
 some (a0==a1)
noncomputable def F.za3 (n:Nat) (a0:Int):Option (Z0):=
 some ([UInt8.ofNat ((IntKind.wrap .u8 (shrA .u32 a0 (24:Int)))).toNat,UInt8.ofNat ((IntKind.wrap .u8 (shrA .u32 a0 (16:Int)))).toNat,UInt8.ofNat ((IntKind.wrap .u8 (shrA .u32 a0 (8:Int)))).toNat,UInt8.ofNat ((IntKind.wrap .u8 (a0))).toNat])
noncomputable def F.zai.L2.step {X:Type} (n:Nat) (rec:Int→Int→Option X) (k0:Int→Option X) (a:Int) (b:Int):Option X:=
 bif decide (b<(8:Int)) then
  rec (bitsA .xor .u32 (shrA .u32 a (1:Int)) (IntKind.wrap .u32 ((bitsA .and .u32 a (1:Int))*(3988292384:Int)))) (IntKind.wrap .i64 (b+(1:Int)))
 else
  k0 a
noncomputable def F.zai.L2 {X:Type} (n:Nat) (k0:Int→Option X):Nat→Int→Int→Option X
 | 0=>fun _ _=>none
 | m+1=>fun a b=>F.zai.L2.step n (F.zai.L2 n k0 m) k0 a b
noncomputable def F.zai (n:Nat) (a0:Int):Option (Int):=
 F.zai.L2 n
  (fun a =>
   some (a)) n a0 (0:Int)
noncomputable def F.zad.L3.step {X:Type} (n:Nat) (rec:Int→Z0→Int→Int→Option X) (k0:Int→Option X) (b:Int) (c:Z0) (d:Int) (a:Int):Option X:=
 bif decide (a<d) then
  (idx c a).bind fun e =>
   (F.zai n (bitsA .xor .u32 b (IntKind.wrap .u32 ((e).toNat)))).bind fun f =>
    rec f c d (IntKind.wrap .i64 (a+(1:Int)))
 else
  k0 b
noncomputable def F.zad.L3 {X:Type} (n:Nat) (k0:Int→Option X):Nat→Int→Z0→Int→Int→Option X
 | 0=>fun _ _ _ _=>none
 | m+1=>fun a b c d=>F.zad.L3.step n (F.zad.L3 n k0 m) k0 a b c d
noncomputable def F.zad (n:Nat) (a0:Int) (a1:Z0):Option (Int):=
 F.zad.L3 n
  (fun a =>
   some ((bitsA .xor .u32 a (4294967295:Int)))) n (bitsA .xor .u32 a0 (4294967295:Int)) a1 (a1.length:Int) (0:Int)
noncomputable def F.za5 (n:Nat) (a0:Z0):Option (Int):=
 (F.zad n (0:Int) a0).bind fun a =>
  some (a)
noncomputable def F.zax (n:Nat) (a0:Z0):Option (Int):=
 bif decide ((IntKind.wrap .i64 ((a0.length:Int) - (4:Int)))<(0:Int)) then
  some ((13:Int))
 else
  (sub a0 (IntKind.wrap .i64 ((a0.length:Int) - (4:Int))) (a0.length:Int)).bind fun a =>
   (sub a0 (0:Int) (IntKind.wrap .i64 ((a0.length:Int) - (4:Int)))).bind fun b =>
    (F.za5 n b).bind fun c =>
     (F.za3 n c).bind fun d =>
      (F.zaw n a d).bind fun e =>
       bif !e then
        some ((24:Int))
       else
        some ((0:Int))
noncomputable def F.zag (n:Nat) (a0:Z0):Option (Z0):=
 bif List.isEmpty a0 then
  both
   (
    some ([]))
   (
    bif decide ((0+a0.length)*1≤2 ^ 46)&&decide (0<1∧1≤2 ^ 20) then
     some ([]++a0)
    else
     none)
 else
 bif decide ((0+a0.length)*1≤2 ^ 46)&&decide (0<1∧1≤2 ^ 20) then
  some ([]++a0)
 else
  none
noncomputable def F.zay (n:Nat) (a0:Int):Option (Bool):=
 bif decide (a0≥(1:Int)) then
  some (decide (a0≤(5:Int)))
 else
  some (false)
noncomputable def F.za2 (n:Nat) (a0:Z21) (a1:Z21):Option (Bool):=
 bif !(a0.1==a1.1) then
  some (Op.bytesLess a0.1 a1.1)
 else
  some (Op.bytesLess a0.2.1 a1.2.1)
noncomputable def F.zas (n:Nat) (a0:Int):Option (Int):=
 bif (bitsA .and .u64 a0 (1:Int))==(1:Int) then
  some ((IntKind.wrap .i64 (bitsA .xor .u64 (IntKind.max .u64) (shrA .u64 a0 (1:Int)))))
 else
  some ((IntKind.wrap .i64 (shrA .u64 a0 (1:Int))))
noncomputable def F.zaq (n:Nat) (a0:Int) (a1:Int):Option ((Int)×(Bool)×Unit):=
 (O.mul64 n a0 (10:Int)).bind fun b =>
  (O.add64 n b.2.1 a1 (0:Int)).bind fun a =>
   bif b.1==(0:Int) then
    some ((a.1,a.2.1==(0:Int),()))
   else
    some ((a.1,false,()))
noncomputable def F.zg.L3.step {X:Type} (n:Nat) (rec:Bool→Int→Int→Bool→Int→Int→Option X) (k0:Bool→Int→Int→Bool→Int→Int→Option X) (c:Bool) (a:Int) (b:Int) (d:Bool) (e:Int) (f:Int):Option X:=
 bif (a.tmod (10:Int))==(0:Int) then
  bif decide (b<(18:Int)) then
   rec c (IntKind.wrap .u64 (a.tdiv (10:Int))) (IntKind.wrap .i64 (b+(1:Int))) d e f
  else
   k0 c a b d e f
 else
  k0 c a b d e f
noncomputable def F.zg.L3 {X:Type} (n:Nat) (k0:Bool→Int→Int→Bool→Int→Int→Option X):Nat→Bool→Int→Int→Bool→Int→Int→Option X
 | 0=>fun _ _ _ _ _ _=>none
 | m+1=>fun a b c d e f=>F.zg.L3.step n (F.zg.L3 n k0 m) k0 a b c d e f
noncomputable def F.zg.L5.step {X:Type} (n:Nat) (rec:Bool→Int→Int→Bool→Int→Int→Option X) (k2:Bool→Int→Int→Bool→Int→Int→Option X) (kr:Int→Bool→Int→Int→Bool→Int→Int→Option X) (b:Bool) (c:Int) (a:Int) (d:Bool) (e:Int) (f:Int):Option X:=
 bif decide (a>(18:Int)) then
  (F.zaq n c (0:Int)).bind fun g =>
   bif !g.2.1 then
    kr (10:Int) b c a false (0:Int) (0:Int)
   else
    rec b g.1 (IntKind.wrap .i64 (a - (1:Int))) d e f
 else
  k2 b c a d e f
noncomputable def F.zg.L5 {X:Type} (n:Nat) (k2:Bool→Int→Int→Bool→Int→Int→Option X) (kr:Int→Bool→Int→Int→Bool→Int→Int→Option X):Nat→Bool→Int→Int→Bool→Int→Int→Option X
 | 0=>fun _ _ _ _ _ _=>none
 | m+1=>fun a b c d e f=>F.zg.L5.step n (F.zg.L5 n k2 kr m) k2 kr a b c d e f
noncomputable def F.zg (n:Nat) (a0:Z22):Option ((Z22)×(Int)×Unit):=
 bif a0.2.1==(0:Int) then
  some (((false,(0:Int),(0:Int),()),(0:Int),()))
 else
  F.zg.L3 n
   (fun b c d e f g =>
    F.zg.L5 n
     (fun h i a o p q =>
      bif decide (a<(-18:Int)) then
       some (((false,(0:Int),(0:Int),()),(10:Int),()))
      else
       some (((h,i,a,()),(0:Int),())))
     (fun j r s t k l m =>
      some (((k,l,m,()),j,()))) n b c d e f g) n a0.1 a0.2.1 a0.2.2.1 false (0:Int) (0:Int)
noncomputable def F.zaz (n:Nat) (a0:Z22):Option (Int):=
 bif !(a0.2.1==(0:Int)) then
  bif decide (a0.2.2.1<(-18:Int)) then
   some ((10:Int))
  else
  bif decide (a0.2.2.1>(18:Int)) then
   some ((10:Int))
  else
   (F.zg n (a0.1,a0.2.1,a0.2.2.1,())).bind fun a =>
    bif !(a.2.1==(0:Int)) then
     some ((21:Int))
    else
    bif !((a.1.1==a0.1)&&((a.1.2.1==a0.2.1)&&(a.1.2.2.1==a0.2.2.1))) then
     some ((21:Int))
    else
     some ((0:Int))
 else
  (F.zg n (a0.1,a0.2.1,a0.2.2.1,())).bind fun b =>
   bif !(b.2.1==(0:Int)) then
    some ((21:Int))
   else
   bif !((b.1.1==a0.1)&&((b.1.2.1==a0.2.1)&&(b.1.2.2.1==a0.2.2.1))) then
    some ((21:Int))
   else
    some ((0:Int))
noncomputable def F.zar (n:Nat) (a0:Int):Option (Bool):=
 bif decide (a0≥(1:Int)) then
  some (decide (a0≤(4:Int)))
 else
  some (false)
noncomputable def F.zab (n:Nat) (a0:Int) (a1:Int) (a2:Int):Option (Bool):=
 bif decide (a0≥a1) then
  some (decide (a0≤a2))
 else
  some (false)
noncomputable def F.zau (n:Nat) (a0:Int) (a1:Int):Option (Bool):=
 bif a0==(3:Int) then
  (F.zab n a1 (33:Int) (126:Int)).bind fun a =>
   bif a then
    bif !(a1==(44:Int)) then
     some (!(a1==(124:Int)))
    else
     some (false)
   else
    some (false)
 else
 bif a0 == (2:Int) then
  bif a1==(47:Int) then
   some (true)
  else
   (F.zab n a1 (65:Int) (90:Int)).bind fun b =>
    bif b then
     some (true)
    else
     (F.zab n a1 (97:Int) (122:Int)).bind fun c =>
      bif c then
       some (true)
      else
      bif a1==(95:Int) then
       some (true)
      else
      bif a1==(46:Int) then
       some (true)
      else
      bif a1==(45:Int) then
       some (true)
      else
       (F.zab n a1 (48:Int) (57:Int)).bind fun d =>
        some (d)
 else
 bif a0==(1:Int) then
  (F.zab n a1 (65:Int) (90:Int)).bind fun e =>
   bif e then
    some (true)
   else
    (F.zab n a1 (97:Int) (122:Int)).bind fun f =>
     bif f then
      some (true)
     else
     bif a1==(95:Int) then
      some (true)
     else
     bif a1==(46:Int) then
      some (true)
     else
     bif a1==(45:Int) then
      some (true)
     else
      (F.zab n a1 (48:Int) (57:Int)).bind fun g =>
       some (g)
 else
 bif a0==(4:Int) then
  (F.zab n a1 (48:Int) (57:Int)).bind fun h =>
   some (h)
 else
  some (false)
noncomputable def F.zz.L4.step {X:Type} (n:Nat) (rec:Int→Z2→Int→Int→Option X) (k0:Unit→Option X) (kr:Int→Int→Option X) (b:Int) (c:Z2) (d:Int) (a:Int):Option X:=
 bif decide (a<d) then
  (idx c a).bind fun e =>
   (F.zau n b ((e).toNat)).bind fun f =>
    bif !f then
     kr a (0:Int)
    else
     rec b c d (IntKind.wrap .i64 (a+(1:Int)))
 else
  k0 ()
noncomputable def F.zz.L4 {X:Type} (n:Nat) (k0:Unit→Option X) (kr:Int→Int→Option X):Nat→Int→Z2→Int→Int→Option X
 | 0=>fun _ _ _ _=>none
 | m+1=>fun a b c d=>F.zz.L4.step n (F.zz.L4 n k0 kr m) k0 kr a b c d
noncomputable def F.zz (n:Nat) (a0:Int) (a1:Z2):Option ((Int)×(Int)×Unit):=
 (F.zar n a0).bind fun a =>
  bif !a then
   some (((0:Int),(1:Int),()))
  else
   F.zz.L4 n
    (fun (_:Unit) =>
     some (((-1:Int),(0:Int),())))
    (fun b c =>
     some ((b,c,()))) n a0 a1 (a1.length:Int) (0:Int)
noncomputable def F.zaa.L5.step {X:Type} (n:Nat) (rec:Int→Int→Int→Option X) (k0:Int→Option X) (b:Int) (c:Int) (a:Int):Option X:=
 bif decide (a<(256:Int)) then
  (F.zau n b (IntKind.wrap .u8 (a))).bind fun d =>
   bif d then
    rec b (IntKind.wrap .i64 (c+(1:Int))) (IntKind.wrap .i64 (a+(1:Int)))
   else
    rec b c (IntKind.wrap .i64 (a+(1:Int)))
 else
  k0 c
noncomputable def F.zaa.L5 {X:Type} (n:Nat) (k0:Int→Option X):Nat→Int→Int→Int→Option X
 | 0=>fun _ _ _=>none
 | m+1=>fun a b c=>F.zaa.L5.step n (F.zaa.L5 n k0 m) k0 a b c
noncomputable def F.zaa (n:Nat) (a0:Int):Option ((Int)×(Int)×Unit):=
 (F.zar n a0).bind fun a =>
  bif !a then
   some (((0:Int),(1:Int),()))
  else
   F.zaa.L5 n
    (fun b =>
     some ((b,(0:Int),()))) n a0 (0:Int) (0:Int)
noncomputable def F.za.C1_cur_Cur_Fail {X:Type} (n:Nat) (kn:Int→Int→Option X) (a:Int) (b:Int) (c:Bool) (d:Int) (e:Int):Option X:=
 bif c then
  kn a b
 else
  kn d e
noncomputable def F.za.C1_cur_Cur_Take {X:Type} (n:Nat) (kr:Z0→Int→Int→Int→Option X) (d:Int) (e:Z0) (a:Int) (b:Int) (c:Int):Option X:=
 bif !((b==(0:Int))&&(c==(0:Int))) then
  kr [] a b c
 else
 bif decide (d<(0:Int)) then
  bif (b==(0:Int))&&(c==(0:Int)) then
   F.za.C1_cur_Cur_Fail n
    (fun f g =>
     kr [] a f g) (1:Int) a true b c
  else
   F.za.C1_cur_Cur_Fail n
    (fun h i =>
     kr [] a h i) (1:Int) a false b c
 else
 bif decide (d>(IntKind.wrap .i64 ((e.length:Int) - a))) then
  bif (b==(0:Int))&&(c==(0:Int)) then
   F.za.C1_cur_Cur_Fail n
    (fun j k =>
     kr [] a j k) (13:Int) (e.length:Int) true b c
  else
   F.za.C1_cur_Cur_Fail n
    (fun l m =>
     kr [] a l m) (13:Int) (e.length:Int) false b c
 else
  (sub e (IntKind.wrap .i64 ((IntKind.wrap .i64 (a+d)) - d)) (IntKind.wrap .i64 (a+d))).bind fun o =>
   (F.zag n o).bind fun p =>
    kr p (IntKind.wrap .i64 (a+d)) b c
noncomputable def F.za.C1_cur_Cur_Byte {X:Type} (n:Nat) (kr:Int→Int→Int→Int→Option X) (e:Z0) (f:Int) (g:Int) (h:Int):Option X:=
 F.za.C1_cur_Cur_Take n
  (fun a b c d =>
   bif (a.length:Int)==(1:Int) then
    (idx a (0:Int)).bind fun i =>
     kr ((i).toNat) b c d
   else
    kr (0:Int) b c d) (1:Int) e f g h
noncomputable def F.za.L3_varint_read.step {X:Type} (n:Nat) (rec:Int→Int→Z0→Int→Int→Int→Option X) (k0:Int→Int→Int→Int→Int→Option X) (kr:Int→Int→Int→Int→Int→Int→Option X) (f:Int) (a:Int) (g:Z0) (h:Int) (i:Int) (j:Int):Option X:=
 F.za.C1_cur_Cur_Byte n
  (fun b e c d =>
   bif !((c==(0:Int))&&(d==(0:Int))) then
    kr (0:Int) a (13:Int) e c d
   else
   bif (IntKind.wrap .i64 (a+(1:Int)))==(10:Int) then
    bif decide (b>(1:Int)) then
     kr (0:Int) (IntKind.wrap .i64 (a+(1:Int))) (10:Int) e c d
    else
    bif decide ((IntKind.wrap .i64 ((7:Int)*(IntKind.wrap .i64 ((IntKind.wrap .i64 (a+(1:Int))) - (1:Int)))))<0) then
     none
    else
    bif decide (b≥(128:Int)) then
     rec (bitsA .or .u64 f (shlA .u64 (IntKind.wrap .u64 (bitsA .and .u8 b (127:Int))) (IntKind.wrap .i64 ((7:Int)*(IntKind.wrap .i64 ((IntKind.wrap .i64 (a+(1:Int))) - (1:Int))))))) (IntKind.wrap .i64 (a+(1:Int))) g e c d
    else
    bif b==(0:Int) then
     bif decide ((IntKind.wrap .i64 (a+(1:Int)))>(1:Int)) then
      kr (0:Int) (IntKind.wrap .i64 (a+(1:Int))) (21:Int) e c d
     else
      k0 (bitsA .or .u64 f (shlA .u64 (IntKind.wrap .u64 (bitsA .and .u8 b (127:Int))) (IntKind.wrap .i64 ((7:Int)*(IntKind.wrap .i64 ((IntKind.wrap .i64 (a+(1:Int))) - (1:Int))))))) (IntKind.wrap .i64 (a+(1:Int))) e c d
    else
     k0 (bitsA .or .u64 f (shlA .u64 (IntKind.wrap .u64 (bitsA .and .u8 b (127:Int))) (IntKind.wrap .i64 ((7:Int)*(IntKind.wrap .i64 ((IntKind.wrap .i64 (a+(1:Int))) - (1:Int))))))) (IntKind.wrap .i64 (a+(1:Int))) e c d
   else
   bif decide ((IntKind.wrap .i64 ((7:Int)*(IntKind.wrap .i64 ((IntKind.wrap .i64 (a+(1:Int))) - (1:Int)))))<0) then
    none
   else
   bif decide (b≥(128:Int)) then
    rec (bitsA .or .u64 f (shlA .u64 (IntKind.wrap .u64 (bitsA .and .u8 b (127:Int))) (IntKind.wrap .i64 ((7:Int)*(IntKind.wrap .i64 ((IntKind.wrap .i64 (a+(1:Int))) - (1:Int))))))) (IntKind.wrap .i64 (a+(1:Int))) g e c d
   else
   bif b==(0:Int) then
    bif decide ((IntKind.wrap .i64 (a+(1:Int)))>(1:Int)) then
     kr (0:Int) (IntKind.wrap .i64 (a+(1:Int))) (21:Int) e c d
    else
     k0 (bitsA .or .u64 f (shlA .u64 (IntKind.wrap .u64 (bitsA .and .u8 b (127:Int))) (IntKind.wrap .i64 ((7:Int)*(IntKind.wrap .i64 ((IntKind.wrap .i64 (a+(1:Int))) - (1:Int))))))) (IntKind.wrap .i64 (a+(1:Int))) e c d
   else
    k0 (bitsA .or .u64 f (shlA .u64 (IntKind.wrap .u64 (bitsA .and .u8 b (127:Int))) (IntKind.wrap .i64 ((7:Int)*(IntKind.wrap .i64 ((IntKind.wrap .i64 (a+(1:Int))) - (1:Int))))))) (IntKind.wrap .i64 (a+(1:Int))) e c d) g h i j
noncomputable def F.za.L3_varint_read {X:Type} (n:Nat) (k0:Int→Int→Int→Int→Int→Option X) (kr:Int→Int→Int→Int→Int→Int→Option X):Nat→Int→Int→Z0→Int→Int→Int→Option X
 | 0=>fun _ _ _ _ _ _=>none
 | m+1=>fun a b c d e f=>F.za.L3_varint_read.step n (F.za.L3_varint_read n k0 kr m) k0 kr a b c d e f
noncomputable def F.za.C1_varint_Read {X:Type} (n:Nat) (kr:Int→Int→Int→Int→Option X) (e:Z0) (f:Int) (g:Int) (h:Int):Option X:=
 F.za.L3_varint_read n
  (fun i s j k l =>
   kr i j k l)
  (fun m t b a c d =>
   bif !(b==(0:Int)) then
    eqK (some [(.ref 5 0)]) (some [(.ref 5 0)]) (
     bif (c==(0:Int))&&(d==(0:Int)) then
      F.za.C1_cur_Cur_Fail n
       (fun o p =>
        kr (0:Int) a o p) b (IntKind.wrap .i64 (a - (1:Int))) (!(b==(0:Int))) c d
     else
      F.za.C1_cur_Cur_Fail n
       (fun q r =>
        kr (0:Int) a q r) b (IntKind.wrap .i64 (a - (1:Int))) false c d)
   else
    kr m a c d) n (0:Int) (0:Int) e f g h
noncomputable def F.za.C1_dict_check {X:Type} (n:Nat) (kr:Bool→Int→Int→Option X) (e:Int) (f:Z2) (a:Int) (b:Int) (d:Int):Option X:=
 (F.zz n e f).bind fun c =>
  bif c.2.1==(0:Int) then
   bif decide (c.1<(0:Int)) then
    kr true a b
   else
   bif (a==(0:Int))&&(b==(0:Int)) then
    F.za.C1_cur_Cur_Fail n
     (fun g h =>
      kr false g h) (14:Int) (IntKind.wrap .i64 (d+c.1)) true a b
   else
    F.za.C1_cur_Cur_Fail n
     (fun i j =>
      kr false i j) (14:Int) (IntKind.wrap .i64 (d+c.1)) false a b
  else
  bif (a==(0:Int))&&(b==(0:Int)) then
   F.za.C1_cur_Cur_Fail n
    (fun k l =>
     kr false k l) (14:Int) (IntKind.wrap .i64 (d+c.1)) true a b
  else
   F.za.C1_cur_Cur_Fail n
    (fun m o =>
     kr false m o) (14:Int) (IntKind.wrap .i64 (d+c.1)) false a b
noncomputable def F.za.C8_dict_Dict_fresh {X:Type} (n:Nat) (kr:Z2→Int→Int→Int→Z19→Z20→Nat→Option X) (m:Int) (j:Int) (k:Int) (o:Z0) (l:Int) (p:Int) (q:Int) (c:Z19) (a:Z20) (d:Nat):Option X:=
 F.za.C1_cur_Cur_Take n
  (fun b e h i =>
   bif !((h==(0:Int))&&(i==(0:Int))) then
    kr [] e h i c a d
   else
    F.za.C1_dict_check n
     (fun r f g =>
      bif !r then
       kr [] e f g c a d
      else
       mpLook c b (fun w =>
        bif (f==(0:Int))&&(g==(0:Int)) then
         F.za.C1_cur_Cur_Fail n
          (fun s t =>
           kr [] e s t c a d) (21:Int) j true f g
        else
         F.za.C1_cur_Cur_Fail n
          (fun u v =>
           kr [] e u v c a d) (21:Int) j false f g)
        (
         bif decide ((a.length+1)*16≤2 ^ 46)&&decide (0<16∧16≤2 ^ 20) then
          bif Nat.beq d a.length then
           kr b e f g (mpSet c b ((a++([b])).length:Int)) (a++([b])) ((a++([b])).length)
          else
           none
         else
          none)) m b h i l) (IntKind.wrap .i64 (if (200:Int)<k then (200:Int) else k)) o l p q
noncomputable def F.za.C1_dict_Dict_fresh {X:Type} (n:Nat) (kr:Z2→Int→Int→Int→Z19→Z20→Nat→Option X) (l:Int) (b:Int) (f:Z0) (c:Int) (g:Int) (h:Int) (d:Z19) (a:Z20) (e:Nat):Option X:=
 bif decide ((a.length:Int)≥(65536:Int)) then
  bif (g==(0:Int))&&(h==(0:Int)) then
   F.za.C1_cur_Cur_Fail n
    (fun o p =>
     kr [] c o p d a e) (12:Int) b true g h
  else
   F.za.C1_cur_Cur_Fail n
    (fun q r =>
     kr [] c q r d a e) (12:Int) b false g h
 else
  F.za.C1_varint_Read n
   (fun i m j k =>
    bif decide (i>(200:Int)) then
     bif (j==(0:Int))&&(k==(0:Int)) then
      F.za.C1_cur_Cur_Fail n
       (fun s t =>
        F.za.C8_dict_Dict_fresh n
         (fun u v w x y z A =>
          kr u v w x y z A) l b i f m s t d a e) (12:Int) c true j k
     else
      F.za.C1_cur_Cur_Fail n
       (fun B C =>
        F.za.C8_dict_Dict_fresh n
         (fun D E G H I J K =>
          kr D E G H I J K) l b i f m B C d a e) (12:Int) c false j k
    else
     F.za.C8_dict_Dict_fresh n
      (fun L M N O P Q R =>
       kr L M N O P Q R) l b i f m j k d a e) f c g h
noncomputable def F.za.C1_dict_check_1 {X:Type} (n:Nat) (kr:Bool→Int→Int→Option X) (e:Int) (f:Z2) (a:Int) (b:Int) (c:Int):Option X:=
 (F.zz n e f).bind fun d =>
  bif d.2.1==(0:Int) then
   bif decide (d.1<(0:Int)) then
    kr true a b
   else
   bif (a==(0:Int))&&(b==(0:Int)) then
    F.za.C1_cur_Cur_Fail n
     (fun g h =>
      kr false g h) (14:Int) c true a b
   else
    F.za.C1_cur_Cur_Fail n
     (fun i j =>
      kr false i j) (14:Int) c false a b
  else
  bif (a==(0:Int))&&(b==(0:Int)) then
   F.za.C1_cur_Cur_Fail n
    (fun k l =>
     kr false k l) (14:Int) c true a b
  else
   F.za.C1_cur_Cur_Fail n
    (fun m o =>
     kr false m o) (14:Int) c false a b
noncomputable def F.za.C1_dict_Dict_Get {X:Type} (n:Nat) (kr:Z2→Int→Int→Int→Z19→Z20→Nat→Option X) (k:Int) (m:Z0) (b:Int) (g:Int) (h:Int) (c:Z19) (a:Z20) (d:Nat):Option X:=
 eqK (some [(.int .i64 (0:Int)),(.int .i64 (0:Int))]) (some [(.int .i64 (0:Int)),(.int .i64 (0:Int))]) (
  bif !((g==(0:Int))&&(h==(0:Int))) then
   kr [] b g h c a d
  else
   (F.zaa n k).bind fun j =>
    bif !(j.2.1==(0:Int)) then
     bif (g==(0:Int))&&(h==(0:Int)) then
      F.za.C1_cur_Cur_Fail n
       (fun r s =>
        kr [] b r s c a d) j.2.1 b (!(j.2.1==(0:Int))) g h
     else
      F.za.C1_cur_Cur_Fail n
       (fun t u =>
        kr [] b t u c a d) j.2.1 b false g h
    else
     F.za.C1_varint_Read n
      (fun l i e f =>
       eqK (some [(.int .i64 (0:Int)),(.int .i64 (0:Int))]) (some [(.int .i64 (0:Int)),(.int .i64 (0:Int))]) (
        bif !((e==(0:Int))&&(f==(0:Int))) then
         kr [] i e f c a d
        else
        bif l==(0:Int) then
         F.za.C1_dict_Dict_fresh n
          (fun v w x y z A B =>
           kr v w x y z A B) k b m i e f c a d
        else
        bif decide (l>(IntKind.wrap .u64 ((a.length:Int)))) then
         bif (e==(0:Int))&&(f==(0:Int)) then
          F.za.C1_cur_Cur_Fail n
           (fun C D =>
            kr [] i C D c a d) (25:Int) b true e f
         else
          F.za.C1_cur_Cur_Fail n
           (fun E G =>
            kr [] i E G c a d) (25:Int) b false e f
        else
         (idx a (IntKind.wrap .u64 (l - (1:Int)))).bind fun o =>
          F.za.C1_dict_check_1 n
           (fun H p q =>
            bif !H then
             kr [] i p q c a d
            else
             kr o i p q c a d) k o e f b)) m b g h)
noncomputable def F.za.C1_rec_bound_string {X:Type} (n:Nat) (kr:Z2→Int→Int→Int→Z19→Z20→Nat→Option X) (d:Int) (j:Z0) (e:Int) (k:Int) (l:Int) (m:Z19) (o:Z20) (p:Int) (q:Int) (r:Int) (s:Nat):Option X:=
 F.za.C1_dict_Dict_Get n
  (fun a f b c g h i =>
   bif decide ((a.length:Int)≥q) then
    bif !(decide ((a.length:Int)≤r)) then
     bif (b==(0:Int))&&(c==(0:Int)) then
      F.za.C1_cur_Cur_Fail n
       (fun t u =>
        kr a f t u g h i) d e (!(d==(0:Int))) b c
     else
      F.za.C1_cur_Cur_Fail n
       (fun v w =>
        kr a f v w g h i) d e false b c
    else
     kr a f b c g h i
   else
   bif (b==(0:Int))&&(c==(0:Int)) then
    F.za.C1_cur_Cur_Fail n
     (fun x y =>
      kr a f x y g h i) d e (!(d==(0:Int))) b c
   else
    F.za.C1_cur_Cur_Fail n
     (fun z A =>
      kr a f z A g h i) d e false b c) p j e k l m o s
noncomputable def F.za.C1_rec_word {X:Type} (n:Nat) (kr:Z2→Int→Int→Int→Z19→Z20→Nat→Option X) (a:Int) (b:Z0) (c:Int) (d:Int) (e:Int) (f:Z19) (g:Z20) (h:Int) (i:Int) (j:Int) (k:Nat):Option X:=
 F.za.C1_rec_bound_string n
  (fun l m o p q r s =>
   kr l m o p q r s) a b c d e f g h i j k
noncomputable def F.za.C1_rec_bound_int {X:Type} (n:Nat) (kr:Int→Int→Int→Int→Option X) (d:Int) (g:Z0) (e:Int) (h:Int) (i:Int):Option X:=
 F.za.C1_cur_Cur_Byte n
  (fun a f b c =>
   (F.zay n (IntKind.wrap .i64 (a))).bind fun j =>
    bif !j then
     bif (b==(0:Int))&&(c==(0:Int)) then
      F.za.C1_cur_Cur_Fail n
       (fun k l =>
        kr (IntKind.wrap .i64 (a)) f k l) d e (!(d==(0:Int))) b c
     else
      F.za.C1_cur_Cur_Fail n
       (fun m o =>
        kr (IntKind.wrap .i64 (a)) f m o) d e false b c
    else
     kr (IntKind.wrap .i64 (a)) f b c) g e h i
noncomputable def F.za.C1_rec_bound_uint64 {X:Type} (n:Nat) (kr:Int→Int→Int→Int→Option X) (d:Int) (g:Z0) (e:Int) (h:Int) (i:Int) (j:Int) (k:Int):Option X:=
 F.za.C1_varint_Read n
  (fun a f b c =>
   bif decide (a≥(IntKind.wrap .u64 (j))) then
    bif !(decide (a≤(IntKind.wrap .u64 (k)))) then
     bif (b==(0:Int))&&(c==(0:Int)) then
      F.za.C1_cur_Cur_Fail n
       (fun l m =>
        kr a f l m) d e (!(d==(0:Int))) b c
     else
      F.za.C1_cur_Cur_Fail n
       (fun o p =>
        kr a f o p) d e false b c
    else
     kr a f b c
   else
   bif (b==(0:Int))&&(c==(0:Int)) then
    F.za.C1_cur_Cur_Fail n
     (fun q r =>
      kr a f q r) d e (!(d==(0:Int))) b c
   else
    F.za.C1_cur_Cur_Fail n
     (fun s t =>
      kr a f s t) d e false b c) g e h i
noncomputable def F.za.C1_rec_number {X:Type} (n:Nat) (kr:Int→Int→Int→Int→Option X) (a:Int) (b:Z0) (c:Int) (d:Int) (e:Int) (f:Int) (g:Int):Option X:=
 F.za.C1_rec_bound_uint64 n
  (fun h i j k =>
   kr (IntKind.wrap .i64 (h)) i j k) a b c d e f g
noncomputable def F.za.C1_rec_GetDec {X:Type} (n:Nat) (kr:Int→Int→Int→Bool→Int→Int→Option X) (m:Z0) (g:Int) (o:Int) (p:Int):Option X:=
 F.za.C1_varint_Read n
  (fun d q r s =>
   (F.zas n (shrA .u64 d (1:Int))).bind fun e =>
    F.za.C1_varint_Read n
     (fun f c a b =>
      bif (a==(0:Int))&&(b==(0:Int)) then
       (F.zaz n ((bitsA .and .u64 d (1:Int))==(1:Int),f,e,())).bind fun h =>
        bif (a==(0:Int))&&(b==(0:Int)) then
         F.za.C1_cur_Cur_Fail n
          (fun i j =>
           bif !((i==(0:Int))&&(j==(0:Int))) then
            kr c i j false (0:Int) (0:Int)
           else
            kr c i j ((bitsA .and .u64 d (1:Int))==(1:Int)) f e) h g (!(h==(0:Int))) a b
        else
         F.za.C1_cur_Cur_Fail n
          (fun k l =>
           bif !((k==(0:Int))&&(l==(0:Int))) then
            kr c k l false (0:Int) (0:Int)
           else
            kr c k l ((bitsA .and .u64 d (1:Int))==(1:Int)) f e) h g false a b
      else
      bif !((a==(0:Int))&&(b==(0:Int))) then
       kr c a b false (0:Int) (0:Int)
      else
       kr c a b ((bitsA .and .u64 d (1:Int))==(1:Int)) f e) m q r s) m g o p
noncomputable def F.za.C9_rec_Get {X:Type} (n:Nat) (kn:Int→Int→Int→Int→Z4→Nat→Option X) (j:Int) (k:Z0) (l:Int) (m:Int) (o:Int) (b:Z2) (c:Int) (a:Z4) (d:Int) (e:Z6) (f:Int) (p:Nat):Option X:=
 F.za.C1_rec_GetDec n
  (fun q r s g h i =>
   eqK (some [(.str b),(.int .i64 c),(.sl Y3 a (.own 4)),(.int .i64 d),(.sl Y4 e (.own 5)),(.int .i64 f)]) (some [(.str b),(.int .i64 c),(.sl Y3 a (.own 4)),(.int .i64 d),(.sl Y4 e (.own 5)),(.int .i64 f)]) (
    bif decide ((a.length+1)*24≤2 ^ 46)&&decide (0<24∧24≤2 ^ 20) then
     bif Nat.beq p a.length then
      kn (IntKind.wrap .i64 (j - (1:Int))) q r s (a++([(g,h,i)])) ((a++([(g,h,i)])).length)
     else
      none
    else
     none)) k l m o
noncomputable def F.za.L7_rec_Get.step {X:Type} (n:Nat) (rec:Int→Z0→Int→Int→Int→Z2→Int→Z4→Int→Z6→Int→Nat→Option X) (k0:Int→Int→Int→Z4→Nat→Option X) (f:Int) (g:Z0) (c:Int) (a:Int) (b:Int) (h:Z2) (i:Int) (d:Z4) (j:Int) (k:Z6) (l:Int) (e:Nat):Option X:=
 bif decide (f>(0:Int)) then
  bif (a==(0:Int))&&(b==(0:Int)) then
   F.za.C9_rec_Get n
    (fun m o p q r s =>
     rec m g o p q h i r j k l s) f g c a b h i d j k l e
  else
   k0 c a b d e
 else
  k0 c a b d e
noncomputable def F.za.L7_rec_Get {X:Type} (n:Nat) (k0:Int→Int→Int→Z4→Nat→Option X):Nat→Int→Z0→Int→Int→Int→Z2→Int→Z4→Int→Z6→Int→Nat→Option X
 | 0=>fun _ _ _ _ _ _ _ _ _ _ _ _=>none
 | m+1=>fun a b c d e f g h i j k l=>F.za.L7_rec_Get.step n (F.za.L7_rec_Get n k0 m) k0 a b c d e f g h i j k l
noncomputable def F.za.C7_rec_Get {X:Type} (n:Nat) (kn:Int→Int→Int→Z4→Nat→Option X) (a:Int) (b:Z0) (c:Int) (d:Int) (e:Int) (f:Z2) (g:Int) (h:Z4) (i:Int) (j:Z6) (k:Int) (l:Nat):Option X:=
 F.za.L7_rec_Get n
  (fun m o p q r =>
   kn m o p q r) n a b c d e f g h i j k l
noncomputable def F.za.C22_rec_Get {X:Type} (n:Nat) (kn:Int→Int→Option X) (c:Int) (d:Bool) (a:Int) (b:Int):Option X:=
 bif d then
  bif (a==(0:Int))&&(b==(0:Int)) then
   F.za.C1_cur_Cur_Fail n
    (fun e f =>
     kn e f) (21:Int) c true a b
  else
   F.za.C1_cur_Cur_Fail n
    (fun g h =>
     kn g h) (21:Int) c false a b
 else
  kn a b
noncomputable def F.za.C21_rec_Get {X:Type} (n:Nat) (kn:Int→Int→Option X) (a:Int) (b:Int) (c:Int) (d:Int) (f:Z6) (g:Z2) (h:Z2):Option X:=
 bif decide (b>(0:Int)) then
  (idx f (IntKind.wrap .i64 (b - (1:Int)))).bind fun e =>
   (F.za2 n (e.1,e.2,()) (g,h,())).bind fun i =>
    F.za.C22_rec_Get n
     (fun j k =>
      kn j k) a (!i) c d
 else
  F.za.C22_rec_Get n
   (fun l m =>
    kn l m) a false c d
noncomputable def F.za.C23_rec_Get {X:Type} (n:Nat) (kn:Z6→Nat→Option X) (a:Z6) (b:Z2) (c:Z2) (d:Nat):Option X:=
 bif decide ((a.length+1)*32≤2 ^ 46)&&decide (0<32∧32≤2 ^ 20) then
  bif Nat.beq d a.length then
   kn (a++([(b,c)])) ((a++([(b,c)])).length)
  else
   none
 else
  none
noncomputable def F.za.C20_rec_Get {X:Type} (n:Nat) (kn:Int→Int→Z6→Nat→Option X) (d:Int) (e:Int) (f:Int) (a:Z6) (b:Z2) (c:Z2) (g:Nat):Option X:=
 F.za.C21_rec_Get n
  (fun h i =>
   F.za.C23_rec_Get n
    (fun j k =>
     kn h i j k) a b c g) d (a.length:Int) e f a b c
noncomputable def F.za.C19_rec_Get {X:Type} (n:Nat) (kn:Int→Int→Int→Z19→Z20→Z6→Nat→Nat→Option X) (a:Int) (b:Z0) (c:Int) (d:Int) (e:Int) (f:Z19) (g:Z20) (h:Z6) (i:Z2) (j:Nat) (k:Nat):Option X:=
 F.za.C1_rec_word n
  (fun l m o p q r s =>
   F.za.C20_rec_Get n
    (fun t u v w =>
     kn m t u q r v s w) a o p h i l k) (19:Int) b c d e f g (3:Int) (0:Int) (100:Int) j
noncomputable def F.za.C18_rec_Get {X:Type} (n:Nat) (kn:Int→Int→Int→Z19→Z20→Z6→Nat→Nat→Option X) (b:Int) (a:Z0) (c:Int) (d:Int) (e:Int) (f:Z19) (g:Z20) (h:Z6) (i:Nat) (j:Nat):Option X:=
 F.za.C1_rec_word n
  (fun k l m o p q r =>
   F.za.C19_rec_Get n
    (fun s t u v w x y z =>
     kn s t u v w x y z) b a l m o p q h k r j) (19:Int) a c d e f g (2:Int) (1:Int) (64:Int) i
noncomputable def F.za.C17_rec_Get {X:Type} (n:Nat) (kn:Int→Int→Int→Int→Z19→Z20→Z6→Nat→Nat→Option X) (b:Int) (c:Z0) (a:Int) (d:Int) (e:Int) (f:Z19) (g:Z20) (h:Z6) (i:Nat) (j:Nat):Option X:=
 F.za.C18_rec_Get n
  (fun k l m o p q r s =>
   kn (IntKind.wrap .i64 (b - (1:Int))) k l m o p q r s) a c a d e f g h i j
noncomputable def F.za.L15_rec_Get.step {X:Type} (n:Nat) (rec:Int→Z0→Int→Int→Int→Z19→Z20→Z6→Nat→Nat→Option X) (k2:Int→Int→Int→Z19→Z20→Z6→Nat→Nat→Option X) (i:Int) (j:Z0) (c:Int) (a:Int) (b:Int) (d:Z19) (e:Z20) (f:Z6) (g:Nat) (h:Nat):Option X:=
 bif decide (i>(0:Int)) then
  bif (a==(0:Int))&&(b==(0:Int)) then
   F.za.C17_rec_Get n
    (fun k l m o p q r s t =>
     rec k j l m o p q r s t) i j c a b d e f g h
  else
   k2 c a b d e f g h
 else
  k2 c a b d e f g h
noncomputable def F.za.L15_rec_Get {X:Type} (n:Nat) (k2:Int→Int→Int→Z19→Z20→Z6→Nat→Nat→Option X):Nat→Int→Z0→Int→Int→Int→Z19→Z20→Z6→Nat→Nat→Option X
 | 0=>fun _ _ _ _ _ _ _ _ _ _=>none
 | m+1=>fun a b c d e f g h i j=>F.za.L15_rec_Get.step n (F.za.L15_rec_Get n k2 m) k2 a b c d e f g h i j
noncomputable def F.za.C15_rec_Get {X:Type} (n:Nat) (kn:Int→Int→Int→Z19→Z20→Z6→Nat→Nat→Option X) (a:Int) (b:Z0) (c:Int) (d:Int) (e:Int) (f:Z19) (g:Z20) (h:Z6) (i:Nat) (j:Nat):Option X:=
 F.za.L15_rec_Get n
  (fun k l m o p q r s =>
   kn k l m o p q r s) n a b c d e f g h i j
noncomputable def F.za.C25_rec_Get {X:Type} (n:Nat) (kr:Z2→Int→Z4→Int→Z6→Int→Nat→Nat→Option X) (a:Int) (b:Int) (c:Z2) (d:Int) (e:Z4) (f:Int) (g:Z6) (h:Int) (i:Nat) (j:Nat):Option X:=
 bif !((a==(0:Int))&&(b==(0:Int))) then
  kr [] (0:Int) [] (0:Int) [] (0:Int) 0 0
 else
  kr c d e f g h i j
noncomputable def F.za.C24_rec_Get {X:Type} (n:Nat) (kr:Int→Int→Int→Z2→Int→Z4→Int→Z6→Int→Nat→Nat→Option X) (c:Z0) (d:Int) (e:Int) (f:Int) (g:Z2) (h:Int) (i:Z4) (j:Int) (k:Z6) (l:Nat) (m:Nat):Option X:=
 F.za.C1_rec_number n
  (fun o p a b =>
   F.za.C25_rec_Get n
    (fun q r s t u v w x =>
     kr p a b q r s t u v w x) a b g h i j k o l m) (20:Int) c d e f (0:Int) (1099511627776:Int)
noncomputable def F.za.C14_rec_Get {X:Type} (n:Nat) (kr:Int→Int→Int→Z19→Z20→Z2→Int→Z4→Int→Z6→Int→Nat→Nat→Nat→Option X) (a:Z0) (b:Int) (c:Int) (d:Int) (e:Z19) (f:Z20) (g:Z2) (h:Int) (i:Z4) (j:Int) (k:Z6) (l:Nat) (m:Nat) (o:Nat):Option X:=
 F.za.C1_rec_number n
  (fun p q r s =>
   F.za.C15_rec_Get n
    (fun t u v w x y z A =>
     F.za.C24_rec_Get n
      (fun B C D E G H I J K L M =>
       kr B C D w x E G H I J K z L M) a t u v g h i j y m A) p a q r s e f k l o) (19:Int) a b c d (0:Int) (32:Int)
noncomputable def F.za.C13_rec_Get {X:Type} (n:Nat) (kr:Int→Int→Int→Z19→Z20→Z2→Int→Z4→Int→Z6→Int→Nat→Nat→Nat→Option X) (b:Int) (a:Z0) (c:Int) (d:Int) (e:Int) (f:Z19) (g:Z20) (h:Z2) (i:Int) (j:Z4) (k:Z6) (l:Nat) (m:Nat) (o:Nat):Option X:=
 F.za.C1_rec_number n
  (fun p q r s =>
   F.za.C14_rec_Get n
    (fun t u v w x y z A B C D E G H =>
     kr t u v w x y z A B C D E G H) a q r s f g h i j p k l m o) (18:Int) a c d e b (1000000:Int)
noncomputable def F.za.C10_rec_Get {X:Type} (n:Nat) (kr:Int→Int→Int→Z19→Z20→Z2→Int→Z4→Int→Z6→Int→Nat→Nat→Nat→Option X) (b:Z0) (c:Int) (d:Int) (e:Int) (f:Z19) (g:Z20) (h:Z2) (a:Int) (i:Z4) (j:Z6) (k:Nat) (l:Nat) (m:Nat):Option X:=
 bif a==(2:Int) then
  F.za.C13_rec_Get n
   (fun o p q r s t u v w x y z A B =>
    kr o p q r s t u v w x y z A B) (1000000:Int) b c d e f g h a i j k l m
 else
  F.za.C13_rec_Get n
   (fun C D E G H I J K L M N O P Q =>
    kr C D E G H I J K L M N O P Q) (1:Int) b c d e f g h a i j k l m
noncomputable def F.za.C6_rec_Get {X:Type} (n:Nat) (kr:Int→Int→Int→Z19→Z20→Z2→Int→Z4→Int→Z6→Int→Nat→Nat→Nat→Option X) (a:Z0) (e:Int) (f:Int) (g:Int) (h:Z19) (i:Z20) (b:Z2) (c:Int) (j:Z4) (k:Int) (d:Z6) (l:Int) (m:Nat) (o:Nat) (p:Nat):Option X:=
 F.za.C1_rec_number n
  (fun q r s t =>
   F.za.C7_rec_Get n
    (fun u v w x y =>
     F.za.C10_rec_Get n
      (fun z A B C D E G H I J K L M N =>
       kr z A B C D E G H I J K L M N) a u v w h i b c x d m y p) q a r s t b c j k d l o) (17:Int) a e f g (1:Int) (64:Int)
noncomputable def F.za.C5_rec_Get {X:Type} (n:Nat) (kr:Int→Int→Int→Z19→Z20→Z2→Int→Z4→Int→Z6→Int→Nat→Nat→Nat→Option X) (a:Z0) (b:Int) (c:Int) (d:Int) (e:Z19) (f:Z20) (g:Z2) (h:Z4) (i:Int) (j:Z6) (k:Int) (l:Nat) (m:Nat) (o:Nat):Option X:=
 F.za.C1_rec_bound_int n
  (fun p q r s =>
   F.za.C6_rec_Get n
    (fun t u v w x y z A B C D E G H =>
     kr t u v w x y z A B C D E G H) a q r s e f g p h i j k l m o) (16:Int) a b c d
noncomputable def F.za.C3_rec_Get {X:Type} (n:Nat) (kr:Int→Int→Int→Z19→Z20→Z2→Int→Z4→Int→Z6→Int→Nat→Nat→Nat→Option X) (a:Z0) (b:Int) (c:Int) (d:Int) (e:Z19) (f:Z20) (g:Nat):Option X:=
 F.za.C1_rec_word n
  (fun h i j k l m o =>
   F.za.C5_rec_Get n
    (fun p q r s t u v w x y z A B C =>
     kr p q r s t u v w x y z A B C) a i j k l m h [] (0:Int) [] (0:Int) o 0 0) (15:Int) a b c d e f (1:Int) (1:Int) (200:Int) g
noncomputable def F.za.C1_rec_Get {X:Type} (n:Nat) (kr:Int→Int→Int→Z19→Z20→Z2→Int→Z4→Int→Z6→Int→Nat→Nat→Nat→Option X) (g:Z0) (c:Int) (a:Int) (b:Int) (d:Z19) (e:Z20) (f:Nat):Option X:=
 bif !((a==(0:Int))&&(b==(0:Int))) then
  kr c a b d e [] (0:Int) [] (0:Int) [] (0:Int) f 0 0
 else
  F.za.C3_rec_Get n
   (fun h i j k l m o p q r s t u v =>
    kr h i j k l m o p q r s t u v) g c a b d e f
noncomputable def F.za.L6_frame_Payload_1.step {X:Type} (n:Nat) (rec:Int→Int→Z8→Z0→Int→Int→Int→Bool→Z19→Z20→Nat→Nat→Option X) (k0:Z8→Int→Int→Int→Z19→Z20→Nat→Nat→Option X) (k167000005:Z8→Int→Int→Int→Z19→Z20→Nat→Nat→Option X) (j:Int) (k:Int) (a:Z8) (l:Z0) (m:Int) (o:Int) (p:Int) (q:Bool) (r:Z19) (s:Z20) (t:Nat) (u:Nat):Option X:=
 bif decide (k<j) then
  F.za.C1_rec_Get n
   (fun v h i w x b c d e f g y z A =>
    eqK (some [(.sl Y7 a (.own 0))]) (some [(.sl Y7 a (.own 0))]) (
     bif decide ((a.length+1)*88≤2 ^ 46)&&decide (0<88∧88≤2 ^ 20) then
      bif Nat.beq t a.length then
       bif q && !(h==(0:Int)&&i==(0:Int)) then
        k167000005 (a++([(b,c,d,e,f,g)])) v h i w x ((a++([(b,c,d,e,f,g)])).length) y
       else
        rec j (IntKind.wrap .u64 (k+(1:Int))) (a++([(b,c,d,e,f,g)])) l v h i q w x ((a++([(b,c,d,e,f,g)])).length) y
      else
       none
     else
      none)) l m o p r s u
 else
  k0 a m o p r s t u
noncomputable def F.za.L6_frame_Payload_1 {X:Type} (n:Nat) (k0:Z8→Int→Int→Int→Z19→Z20→Nat→Nat→Option X) (k167000005:Z8→Int→Int→Int→Z19→Z20→Nat→Nat→Option X):Nat→Int→Int→Z8→Z0→Int→Int→Int→Bool→Z19→Z20→Nat→Nat→Option X
 | 0=>fun _ _ _ _ _ _ _ _ _ _ _ _=>none
 | m+1=>fun a b c d e f g h i j k l=>F.za.L6_frame_Payload_1.step n (F.za.L6_frame_Payload_1 n k0 k167000005 m) k0 k167000005 a b c d e f g h i j k l
noncomputable def F.za.C3_frame_Payload_1 {X:Type} (n:Nat) (k167000005:Z8→Int→Int→Int→Nat→Option X) (kn:Z8→Int→Int→Int→Nat→Option X) (m:Int) (h:Z8) (i:Z0) (j:Int) (d:Int) (e:Int) (k:Bool) (l:Nat):Option X:=
 bif k && !(d==(0:Int)&&e==(0:Int)) then
  k167000005 h j d e l
 else
  F.za.L6_frame_Payload_1 n
   (fun f a b c x y g z =>
    bif decide ((IntKind.wrap .i64 ((i.length:Int) - a))>(0:Int)) then
     bif (b==(0:Int))&&(c==(0:Int)) then
      F.za.C1_cur_Cur_Fail n
       (fun o p =>
        kn f a o p g) (11:Int) a true b c
     else
      F.za.C1_cur_Cur_Fail n
       (fun q r =>
        kn f a q r g) (11:Int) a false b c
    else
     kn f a b c g)
   (fun s t u v A B w C =>
    k167000005 s t u v w) n m (0:Int) h i j d e k [] [] l 0
noncomputable def F.za (n:Nat) (a0:Z0):Option ((Z8)×(Z18)×Unit):=
 bif Nat.ble a0.length 70368744177664 then
  F.za.C1_varint_Read n
   (fun a d b c =>
    bif decide (a>(1000:Int)) then
     bif (b==(0:Int))&&(c==(0:Int)) then
      F.za.C1_cur_Cur_Fail n
       (fun r s =>
        F.za.C3_frame_Payload_1 n
         (fun t B e f C =>
          bif !((e==(0:Int))&&(f==(0:Int))) then
           some (([],(e,f,()),()))
          else
           some ((t,((0:Int),(0:Int),()),())))
         (fun u D g h E =>
          bif !((g==(0:Int))&&(h==(0:Int))) then
           some (([],(g,h,()),()))
          else
           some ((u,((0:Int),(0:Int),()),()))) a [] a0 d r s true 0) (12:Int) (0:Int) true b c
     else
      F.za.C1_cur_Cur_Fail n
       (fun v w =>
        F.za.C3_frame_Payload_1 n
         (fun x G i j H =>
          bif !((i==(0:Int))&&(j==(0:Int))) then
           some (([],(i,j,()),()))
          else
           some ((x,((0:Int),(0:Int),()),())))
         (fun y I k l J =>
          bif !((k==(0:Int))&&(l==(0:Int))) then
           some (([],(k,l,()),()))
          else
           some ((y,((0:Int),(0:Int),()),()))) a [] a0 d v w true 0) (12:Int) (0:Int) false b c
    else
     F.za.C3_frame_Payload_1 n
      (fun z K m o L =>
       bif !((m==(0:Int))&&(o==(0:Int))) then
        some (([],(m,o,()),()))
       else
        some ((z,((0:Int),(0:Int),()),())))
      (fun A M p q N =>
       bif !((p==(0:Int))&&(q==(0:Int))) then
        some (([],(p,q,()),()))
       else
        some ((A,((0:Int),(0:Int),()),()))) a [] a0 d b c true 0) a0 (0:Int) (0:Int) (0:Int)
 else
  none
noncomputable def F.zam (n:Nat) (a0:Z0):Option ((Z8)×(Z18)×Unit):=
 (F.zal n a0).bind fun a =>
  bif !((a.2.1.1==(0:Int))&&(a.2.1.2.1==(0:Int))) then
   some (([],(a.2.1.1,a.2.1.2.1,()),()))
  else
  bif a.1==(0:Int) then
   some (([],((13:Int),(a0.length:Int),()),()))
  else
  bif decide (a.1>(a0.length:Int)) then
   some (([],((13:Int),(a0.length:Int),()),()))
  else
  bif decide (a.1<(a0.length:Int)) then
   some (([],((11:Int),a.1,()),()))
  else
   (F.zax n a0).bind fun d =>
    bif !(d==(0:Int)) then
     some (([],((24:Int),(IntKind.wrap .i64 (a.1 - (4:Int))),()),()))
    else
     (F.zj n a0).bind fun c =>
      (sub a0 c.1 (IntKind.wrap .i64 (a.1 - (4:Int)))).bind fun e =>
       (F.za n e).bind fun b =>
        bif !((b.2.1.1==(0:Int))&&(b.2.1.2.1==(0:Int))) then
         some (([],(b.2.1.1,(IntKind.wrap .i64 (b.2.1.2.1+c.1)),()),()))
        else
         some ((b.1,(b.2.1.1,b.2.1.2.1,()),()))
noncomputable def F.zan (n:Nat) (a0:Z2) (a1:Z2):Option ((Z2)×(Z2)×(Bool)×Unit):=
 (O.index1 n a0 a1).bind fun a =>
  bif decide (a≥(0:Int)) then
   (sub a0 (0:Int) a).bind fun b =>
    (sub a0 (IntKind.wrap .i64 (a+(a1.length:Int))) (a0.length:Int)).bind fun c =>
     some ((b,c,true,()))
  else
   some ((a0,[],false,()))
noncomputable def F.zx (n:Nat) (a0:Z2) (a1:Z2):Option ((Z2)×(Z2)×(Bool)×Unit):=
 (F.zan n a0 a1).bind fun a =>
  some ((a.1,a.2.1,a.2.2.1,()))
noncomputable def F.zaj (n:Nat) (a0:Int) (a1:Z2) (a2:Int) (a3:Int):Option (Z18):=
 (F.zz n a0 a1).bind fun a =>
  bif !(a.2.1==(0:Int)) then
   some (((1:Int),(0:Int),()))
  else
  bif decide (a2<(0:Int)) then
   some (((1:Int),(0:Int),()))
  else
  bif decide (a3<a2) then
   some (((1:Int),(0:Int),()))
  else
  bif decide ((a1.length:Int)<a2) then
   some (((13:Int),(a1.length:Int),()))
  else
  bif decide ((a1.length:Int)>a3) then
   some (((12:Int),a3,()))
  else
  bif decide (a.1≥(0:Int)) then
   some (((14:Int),a.1,()))
  else
   some (((0:Int),(0:Int),()))
noncomputable def F.zae (n:Nat) (a0:Int) (a1:Int):Option ((Z23)×(Z18)×Unit):=
 some ((([],(0:Int),[],(0:Int),[],(0:Int),()),(a0,a1,()),()))
noncomputable def F.zv (n:Nat) (a0:Z2) (a1:Z2):Option (Bool):=
 bif decide ((a0.length:Int)≥(a1.length:Int)) then
  (sub a0 (0:Int) (a1.length:Int)).bind fun a =>
   some (a==a1)
 else
  some (false)
noncomputable def F.zr (n:Nat) (a0:Z2) (a1:Z2):Option (Bool):=
 (F.zv n a0 a1).bind fun a =>
  some (a)
noncomputable def F.zy.L2_dec_look_1.step {X:Type} (n:Nat) (rec:Int→Z2→Int→Int→Int→Option X) (k0:Int→Z2→Int→Int→Int→Option X) (c:Int) (a:Z2) (d:Int) (e:Int) (b:Int):Option X:=
 bif decide (b<(a.length:Int)) then
  (idx a b).bind fun f =>
   bif decide (((f).toNat)≥(48:Int)) then
    (idx a b).bind fun g =>
     bif decide (((g).toNat)≤(57:Int)) then
      rec c a d e (IntKind.wrap .i64 (b+(1:Int)))
     else
      k0 c a d e b
   else
    k0 c a d e b
 else
  k0 c a d e b
noncomputable def F.zy.L2_dec_look_1 {X:Type} (n:Nat) (k0:Int→Z2→Int→Int→Int→Option X):Nat→Int→Z2→Int→Int→Int→Option X
 | 0=>fun _ _ _ _ _=>none
 | m+1=>fun a b c d e=>F.zy.L2_dec_look_1.step n (F.zy.L2_dec_look_1 n k0 m) k0 a b c d e
noncomputable def F.zy (n:Nat) (a0:Z2):Option (Z18):=
 (F.zr n a0 ([45])).bind fun k =>
  bif k then
   F.zy.L2_dec_look_1 n
    (fun g c l m a =>
     bif decide (a>g) then
      (sub c a (c.length:Int)).bind fun o =>
       (F.zr n o ([46])).bind fun p =>
        bif p then
         F.zy.L2_dec_look_1 n
          (fun q h w x e =>
           bif decide (e>q) then
            bif e==(h.length:Int) then
             some (((0:Int),(0:Int),()))
            else
            bif e==(h.length:Int) then
             some (((11:Int),e,()))
            else
             some (((14:Int),e,()))
           else
           bif e==(h.length:Int) then
            some (((11:Int),e,()))
           else
            some (((14:Int),e,()))) n (IntKind.wrap .i64 (a+(1:Int))) c l m (IntKind.wrap .i64 (a+(1:Int)))
        else
        bif decide (a>g) then
         bif a==(c.length:Int) then
          some (((0:Int),(0:Int),()))
         else
         bif a==(c.length:Int) then
          some (((11:Int),a,()))
         else
          some (((14:Int),a,()))
        else
        bif a==(c.length:Int) then
         some (((11:Int),a,()))
        else
         some (((14:Int),a,()))
     else
     bif decide (a>g) then
      bif a==(c.length:Int) then
       some (((0:Int),(0:Int),()))
      else
      bif a==(c.length:Int) then
       some (((11:Int),a,()))
      else
       some (((14:Int),a,()))
     else
     bif a==(c.length:Int) then
      some (((11:Int),a,()))
     else
      some (((14:Int),a,()))) n (1:Int) a0 (0:Int) (0:Int) (1:Int)
  else
   F.zy.L2_dec_look_1 n
    (fun i d r s b =>
     bif decide (b>i) then
      (sub d b (d.length:Int)).bind fun t =>
       (F.zr n t ([46])).bind fun u =>
        bif u then
         F.zy.L2_dec_look_1 n
          (fun v j y z f =>
           bif decide (f>v) then
            bif f==(j.length:Int) then
             some (((0:Int),(0:Int),()))
            else
            bif f==(j.length:Int) then
             some (((11:Int),f,()))
            else
             some (((14:Int),f,()))
           else
           bif f==(j.length:Int) then
            some (((11:Int),f,()))
           else
            some (((14:Int),f,()))) n (IntKind.wrap .i64 (b+(1:Int))) d r s (IntKind.wrap .i64 (b+(1:Int)))
        else
        bif decide (b>i) then
         bif b==(d.length:Int) then
          some (((0:Int),(0:Int),()))
         else
         bif b==(d.length:Int) then
          some (((11:Int),b,()))
         else
          some (((14:Int),b,()))
        else
        bif b==(d.length:Int) then
         some (((11:Int),b,()))
        else
         some (((14:Int),b,()))
     else
     bif decide (b>i) then
      bif b==(d.length:Int) then
       some (((0:Int),(0:Int),()))
      else
      bif b==(d.length:Int) then
       some (((11:Int),b,()))
      else
       some (((14:Int),b,()))
     else
     bif b==(d.length:Int) then
      some (((11:Int),b,()))
     else
      some (((14:Int),b,()))) n (0:Int) a0 (0:Int) (0:Int) (0:Int)
noncomputable def F.zah (n:Nat) (a0:Z2) (a1:Z2):Option ((Z2)×(Bool)×Unit):=
 (F.zv n a0 a1).bind fun a =>
  bif !a then
   some ((a0,false,()))
  else
   (sub a0 (a1.length:Int) (a0.length:Int)).bind fun b =>
    some ((b,true,()))
noncomputable def F.zt (n:Nat) (a0:Z2) (a1:Z2):Option ((Z2)×(Bool)×Unit):=
 (F.zah n a0 a1).bind fun a =>
  some ((a.1,a.2.1,()))
noncomputable def F.zq.L14.step {X:Type} (n:Nat) (rec:Z2→Int→Int→Bool→Int→Int→Int→Int→Int→Int→Bool→Int→Int→Option X) (k0:Bool→Int→Int→Int→Int→Int→Int→Bool→Int→Int→Option X) (j:Z2) (k:Int) (a:Int) (b:Bool) (c:Int) (d:Int) (e:Int) (f:Int) (g:Int) (h:Int) (i:Bool) (l:Int) (m:Int):Option X:=
 bif decide (a<k) then
  (idx j a).bind fun p =>
   (F.zaq n l (IntKind.wrap .u64 (IntKind.wrap .u8 (((p).toNat) - (48:Int))))).bind fun o =>
    bif !o.2.1 then
     k0 b c d e f g h i (1:Int) (-19:Int)
    else
     rec j k (IntKind.wrap .i64 (a+(1:Int))) b c d e f g h i o.1 m
 else
  k0 b c d e f g h i l m
noncomputable def F.zq.L14 {X:Type} (n:Nat) (k0:Bool→Int→Int→Int→Int→Int→Int→Bool→Int→Int→Option X):Nat→Z2→Int→Int→Bool→Int→Int→Int→Int→Int→Int→Bool→Int→Int→Option X
 | 0=>fun _ _ _ _ _ _ _ _ _ _ _ _ _=>none
 | m+1=>fun a b c d e f g h i j k l o=>F.zq.L14.step n (F.zq.L14 n k0 m) k0 a b c d e f g h i j k l o
noncomputable def F.zq (n:Nat) (a0:Z2):Option ((Z22)×(Z18)×Unit):=
 (F.zy n a0).bind fun a =>
  bif !((a.1==(0:Int))&&(a.2.1==(0:Int))) then
   some (((false,(0:Int),(0:Int),()),(a.1,a.2.1,()),()))
  else
   (F.zt n a0 ([45])).bind fun g =>
    (F.zx n g.1 ([46])).bind fun i =>
     (O.trimR n i.2.1 ([48])).bind fun c =>
      bif decide (i.1.length+c.length≤strMax) then
       (O.trimL n (i.1++c) ([48])).bind fun b =>
        (O.trimR n b ([48])).bind fun h =>
         bif (IntKind.wrap .i64 (0 - (c.length:Int)))==(0:Int) then
          bif decide ((h.length:Int)<(b.length:Int)) then
           F.zq.L14 n
            (fun t u v w x y z j k l =>
             (F.zg n (j,k,l,())).bind fun d =>
              bif !(d.2.1==(0:Int)) then
               some (((false,(0:Int),(0:Int),()),(d.2.1,(0:Int),()),()))
              else
               some (((d.1.1,d.1.2.1,d.1.2.2.1,()),((0:Int),(0:Int),()),()))) n h (h.length:Int) (0:Int) false (0:Int) (0:Int) (0:Int) (0:Int) a.1 a.2.1 g.2.1 (0:Int) (IntKind.wrap .i64 ((b.length:Int) - (h.length:Int)))
          else
           F.zq.L14 n
            (fun A B C D E G H m o p =>
             (F.zg n (m,o,p,())).bind fun e =>
              bif !(e.2.1==(0:Int)) then
               some (((false,(0:Int),(0:Int),()),(e.2.1,(0:Int),()),()))
              else
               some (((e.1.1,e.1.2.1,e.1.2.2.1,()),((0:Int),(0:Int),()),()))) n b (b.length:Int) (0:Int) false (0:Int) (0:Int) (0:Int) (0:Int) a.1 a.2.1 g.2.1 (0:Int) (IntKind.wrap .i64 (0 - (c.length:Int)))
         else
          F.zq.L14 n
           (fun I J K L M N P q r s =>
            (F.zg n (q,r,s,())).bind fun f =>
             bif !(f.2.1==(0:Int)) then
              some (((false,(0:Int),(0:Int),()),(f.2.1,(0:Int),()),()))
             else
              some (((f.1.1,f.1.2.1,f.1.2.2.1,()),((0:Int),(0:Int),()),()))) n b (b.length:Int) (0:Int) false (0:Int) (0:Int) (0:Int) (0:Int) a.1 a.2.1 g.2.1 (0:Int) (IntKind.wrap .i64 (0 - (c.length:Int)))
      else
       none
noncomputable def F.zo.L2.step {X:Type} (n:Nat) (rec:Z2→Int→Option X) (k0:Unit→Option X) (kr:Int→Int→Option X) (b:Z2) (a:Int):Option X:=
 bif decide (a≤(5:Int)) then
  (O.word n a).bind fun c =>
   bif c.2.1==(0:Int) then
    bif c.1==b then
     kr a (0:Int)
    else
     rec b (IntKind.wrap .i64 (a+(1:Int)))
   else
    rec b (IntKind.wrap .i64 (a+(1:Int)))
 else
  k0 ()
noncomputable def F.zo.L2 {X:Type} (n:Nat) (k0:Unit→Option X) (kr:Int→Int→Option X):Nat→Z2→Int→Option X
 | 0=>fun _ _=>none
 | m+1=>fun a b=>F.zo.L2.step n (F.zo.L2 n k0 kr m) k0 kr a b
noncomputable def F.zo (n:Nat) (a0:Z2):Option ((Int)×(Int)×Unit):=
 F.zo.L2 n
  (fun (_:Unit) =>
   some (((0:Int),(16:Int),())))
  (fun a b =>
   some ((a,b,()))) n a0 (1:Int)
noncomputable def F.z8 (n:Nat) (a0:Int) (a1:Int):Option ((Int)×(Z18)×Unit):=
 some (((0:Int),(a0,a1,()),()))
noncomputable def F.zl.L5.step {X:Type} (n:Nat) (rec:Z2→Z18→Int→Int→Int→Int→Int→Option X) (k0:Z2→Int→Int→Int→Int→Option X) (b:Z2) (e:Z18) (a:Int) (c:Int) (d:Int) (f:Int) (g:Int):Option X:=
 bif decide (a<(2:Int)) then
  bif a==(0:Int) then
   bif a==(b.length:Int) then
    bif a==(0:Int) then
     k0 b c d (13:Int) (0:Int)
    else
    bif decide (a≥(b.length:Int)) then
     k0 b c d (11:Int) a
    else
     (idx b a).bind fun h =>
      bif !(((h).toNat)==e.1) then
       k0 b c d (11:Int) a
      else
       rec b (e.1,e.2.1,()) (IntKind.wrap .i64 (a+(1:Int))) c d f g
   else
   bif decide (a≥(b.length:Int)) then
    k0 b c d (11:Int) a
   else
    (idx b a).bind fun i =>
     bif !(((i).toNat)==e.1) then
      k0 b c d (11:Int) a
     else
      rec b (e.1,e.2.1,()) (IntKind.wrap .i64 (a+(1:Int))) c d f g
  else
  bif a==(1:Int) then
   bif a==(b.length:Int) then
    bif a==(0:Int) then
     k0 b c d (13:Int) (0:Int)
    else
    bif decide (a≥(b.length:Int)) then
     k0 b c d (11:Int) a
    else
     (idx b a).bind fun j =>
      bif !(((j).toNat)==e.2.1) then
       k0 b c d (11:Int) a
      else
       rec b (e.1,e.2.1,()) (IntKind.wrap .i64 (a+(1:Int))) c d f g
   else
   bif decide (a≥(b.length:Int)) then
    k0 b c d (11:Int) a
   else
    (idx b a).bind fun k =>
     bif !(((k).toNat)==e.2.1) then
      k0 b c d (11:Int) a
     else
      rec b (e.1,e.2.1,()) (IntKind.wrap .i64 (a+(1:Int))) c d f g
  else
   none
 else
  k0 b c d f g
noncomputable def F.zl.L5 {X:Type} (n:Nat) (k0:Z2→Int→Int→Int→Int→Option X):Nat→Z2→Z18→Int→Int→Int→Int→Int→Option X
 | 0=>fun _ _ _ _ _ _ _=>none
 | m+1=>fun a b c d e f g=>F.zl.L5.step n (F.zl.L5 n k0 m) k0 a b c d e f g
noncomputable def F.zl.L23.step {X:Type} (n:Nat) (rec:Z2→Int→Int→Int→Int→Int→Int→Int→Int→Option X) (k3:Int→Int→Int→Int→Int→Int→Int→Option X) (b:Z2) (a:Int) (c:Int) (d:Int) (e:Int) (f:Int) (g:Int) (h:Int) (i:Int):Option X:=
 bif decide (a<(6:Int)) then
  bif decide (a<(b.length:Int)) then
   (idx b a).bind fun j =>
    rec b (IntKind.wrap .i64 (a+(1:Int))) c d e f g h (IntKind.wrap .i64 ((IntKind.wrap .i64 ((10:Int)*i))+(IntKind.wrap .i64 (IntKind.wrap .u8 (((j).toNat) - (48:Int))))))
  else
   rec b (IntKind.wrap .i64 (a+(1:Int))) c d e f g h (IntKind.wrap .i64 ((IntKind.wrap .i64 ((10:Int)*i))+(0:Int)))
 else
  k3 c d e f g h i
noncomputable def F.zl.L23 {X:Type} (n:Nat) (k3:Int→Int→Int→Int→Int→Int→Int→Option X):Nat→Z2→Int→Int→Int→Int→Int→Int→Int→Int→Option X
 | 0=>fun _ _ _ _ _ _ _ _ _=>none
 | m+1=>fun a b c d e f g h i=>F.zl.L23.step n (F.zl.L23 n k3 m) k3 a b c d e f g h i
noncomputable def F.zl (n:Nat) (a0:Z2):Option ((Int)×(Z18)×Unit):=
 bif a0==([49]) then
  some (((1000000:Int),((0:Int),(0:Int),()),()))
 else
  F.zl.L5 n
   (fun i k l c d =>
    bif !((c==(0:Int))&&(d==(0:Int))) then
     (F.z8 n c d).bind fun e =>
      some ((e.1,(e.2.1.1,e.2.1.2.1,()),()))
    else
     (sub i (2:Int) (i.length:Int)).bind fun b =>
      (F.zaj n (4:Int) b (1:Int) (IntKind.wrap .i64 ((b.length:Int)+(1:Int)))).bind fun a =>
       bif !((a.1==(0:Int))&&(a.2.1==(0:Int))) then
        (F.z8 n a.1 (IntKind.wrap .i64 ((2:Int)+a.2.1))).bind fun f =>
         some ((f.1,(f.2.1.1,f.2.1.2.1,()),()))
       else
       bif decide ((b.length:Int)>(6:Int)) then
        (F.z8 n (12:Int) (8:Int)).bind fun g =>
         some ((g.1,(g.2.1.1,g.2.1.2.1,()),()))
       else
        F.zl.L23 n
         (fun m o p q r s j =>
          bif j==(0:Int) then
           (F.z8 n (10:Int) (0:Int)).bind fun h =>
            some ((h.1,(h.2.1.1,h.2.1.2.1,()),()))
          else
           some ((j,((0:Int),(0:Int),()),()))) n b (0:Int) k l c d a.1 a.2.1 (0:Int)) n a0 ((48:Int),(46:Int),()) (0:Int) (0:Int) (0:Int) (0:Int) (0:Int)
noncomputable def F.ze.C30 {X:Type} (n:Nat) (kr:Z2→Z2→Int→Z4→Int→Z6→Int→Int→Int→Option X) (kn:Bool→Z2→Z2→Int→Z4→Int→Z6→Int→Int→Int→Int→Z2→Int→Z4→Int→Z6→Int→Nat→Nat→Nat→Nat→Option X) (c:Bool) (d:Int) (e:Bool) (b:Z2) (f:Z2) (g:Int) (h:Z4) (i:Int) (j:Z6) (k:Int) (l:Int) (m:Int) (o:Int) (p:Z2) (q:Int) (r:Z4) (s:Int) (t:Z6) (u:Int) (v:Nat) (w:Nat) (x:Nat) (y:Nat):Option X:=
 bif e then
  (F.zae n (18:Int) d).bind fun a =>
   kr b a.1.1 a.1.2.1 a.1.2.2.1 a.1.2.2.2.1 a.1.2.2.2.2.1 a.1.2.2.2.2.2.1 a.2.1.1 a.2.1.2.1
 else
  kn c b f g h i j k l m o p q r s t u v w x y
noncomputable def F.ze.C31 {X:Type} (n:Nat) (kr:Z2→Z2→Int→Z4→Int→Z6→Int→Int→Int→Option X) (c:Bool) (b:Z2) (k:Z2) (l:Int) (m:Z4) (o:Int) (p:Z6) (q:Int) (r:Int) (s:Int) (d:Int) (e:Z2) (f:Int) (g:Z4) (h:Int) (i:Z6) (j:Int) (t:Nat) (u:Nat) (v:Nat) (w:Nat):Option X:=
 bif c then
  (F.zae n (11:Int) (IntKind.wrap .i64 (d - (1:Int)))).bind fun a =>
   kr b a.1.1 a.1.2.1 a.1.2.2.1 a.1.2.2.2.1 a.1.2.2.2.2.1 a.1.2.2.2.2.2.1 a.2.1.1 a.2.1.2.1
 else
  kr b e f g h i j (0:Int) (0:Int)
noncomputable def F.ze.C28 {X:Type} (n:Nat) (kr:Z2→Z2→Int→Z4→Int→Z6→Int→Int→Int→Option X) (b:Bool) (x:Int) (y:Z2) (c:Int) (d:Z2) (e:Z2) (f:Int) (g:Z4) (h:Int) (i:Z6) (j:Int) (k:Int) (l:Int) (m:Int) (o:Z2) (p:Int) (q:Z4) (cP:Int) (r:Z6) (s:Int) (cQ:Bool) (cR:Int) (cS:Int) (cT:Int) (cU:Int) (t:Nat) (u:Nat) (v:Nat) (w:Nat):Option X:=
 (F.zl n y).bind fun a =>
  bif !((a.2.1.1==(0:Int))&&(a.2.1.2.1==(0:Int))) then
   F.ze.C30 n
    (fun z A B C D E G H I =>
     kr z A B C D E G H I)
    (fun J K L M N O P Q R S T U V W Y Z a0 a1 a2 a3 a4 =>
     F.ze.C31 n
      (fun a5 a6 a7 a8 a9 aA aB aC aD =>
       kr a5 a6 a7 a8 a9 aA aB aC aD) J K L M N O P Q R S T U V W Y Z a0 a1 a2 a3 a4) b c true d e f g h i j k l m o p q a.1 r s t u v w
  else
  bif x==(2:Int) then
   F.ze.C30 n
    (fun aE aG aH aI aJ aK aL aM aN =>
     kr aE aG aH aI aJ aK aL aM aN)
    (fun aO aP aQ aR aS aT aU aV aW aY aZ b0 b1 b2 b3 b4 b5 b6 b7 b8 b9 =>
     F.ze.C31 n
      (fun bA bB bC bD bE bG bH bI bJ =>
       kr bA bB bC bD bE bG bH bI bJ) aO aP aQ aR aS aT aU aV aW aY aZ b0 b1 b2 b3 b4 b5 b6 b7 b8 b9) b c (!(a.1==(1000000:Int))) d e f g h i j k l m o p q a.1 r s t u v w
  else
   F.ze.C30 n
    (fun bK bL bM bN bO bP bQ bR bS =>
     kr bK bL bM bN bO bP bQ bR bS)
    (fun bT bU bV bW bY bZ c0 c1 c2 c3 c4 c5 c6 c7 c8 c9 cA cB cC cD cE =>
     F.ze.C31 n
      (fun cG cH cI cJ cK cL cM cN cO =>
       kr cG cH cI cJ cK cL cM cN cO) bT bU bV bW bY bZ c0 c1 c2 c3 c4 c5 c6 c7 c8 c9 cA cB cC cD cE) b c false d e f g h i j k l m o p q a.1 r s t u v w
noncomputable def F.ze.C21 {X:Type} (n:Nat) (kr:Z2→Z2→Int→Z4→Int→Z6→Int→Int→Int→Option X) (i:Z2) (A:Bool) (e:Int) (a:Z2) (m:Z2) (o:Int) (p:Z4) (q:Int) (r:Z6) (s:Int) (t:Int) (u:Int) (c:Int) (Y:Z2) (Z:Int) (a0:Z4) (j:Int) (k:Z6) (l:Int) (f:Bool) (g:Int) (h:Int) (v:Int) (w:Int) (x:Nat) (y:Nat) (a1:Nat) (z:Nat):Option X:=
 bif !A then
  kr a i e ([(f,g,h)]) j k l (0:Int) (0:Int)
 else
  (sub a c (a.length:Int)).bind fun B =>
   (F.zr n B ([64])).bind fun C =>
    bif !C then
     (F.zae n (11:Int) c).bind fun b =>
      kr a b.1.1 b.1.2.1 b.1.2.2.1 b.1.2.2.2.1 b.1.2.2.2.2.1 b.1.2.2.2.2.2.1 b.2.1.1 b.2.1.2.1
    else
     (sub a (IntKind.wrap .i64 (c+(1:Int))) (a.length:Int)).bind fun D =>
      (F.zx n D ([124])).bind fun d =>
       bif d.2.2.1 then
        F.ze.C28 n
         (fun E G H I J K L M N =>
          kr E G H I J K L M N) d.2.2.1 e d.1 (IntKind.wrap .i64 (c+(1:Int))) a m o p q r s t u (IntKind.wrap .i64 ((IntKind.wrap .i64 ((IntKind.wrap .i64 (c+(1:Int)))+(d.1.length:Int)))+(1:Int))) i e ([(f,g,h)]) j k l f g h v w x y 1 z
       else
        F.ze.C28 n
         (fun O P Q R S T U V W =>
          kr O P Q R S T U V W) d.2.2.1 e d.1 (IntKind.wrap .i64 (c+(1:Int))) a m o p q r s t u (IntKind.wrap .i64 ((IntKind.wrap .i64 (c+(1:Int)))+(d.1.length:Int))) i e ([(f,g,h)]) j k l f g h v w x y 1 z
noncomputable def F.ze.C16 {X:Type} (n:Nat) (kr:Z2→Z2→Int→Z4→Int→Z6→Int→Int→Int→Option X) (e:Z2) (f:Bool) (G:Z2) (H:Int) (I:Z2) (J:Int) (c:Z2) (g:Z2) (h:Int) (i:Z4) (j:Int) (k:Z6) (l:Int) (m:Int) (o:Int) (p:Int) (q:Z2) (r:Int) (s:Z4) (t:Int) (u:Z6) (v:Int) (w:Bool) (x:Int) (y:Int) (z:Int) (A:Int) (B:Nat) (C:Nat) (D:Nat) (E:Nat):Option X:=
 (F.zo n I).bind fun d =>
  bif !(d.2.1==(0:Int)) then
   (F.zae n (16:Int) J).bind fun a =>
    kr c a.1.1 a.1.2.1 a.1.2.2.1 a.1.2.2.2.1 a.1.2.2.2.2.1 a.1.2.2.2.2.2.1 a.2.1.1 a.2.1.2.1
  else
  bif d.1==(2:Int) then
   (F.zr n G ([45])).bind fun K =>
    bif K then
     (F.zae n (26:Int) H).bind fun b =>
      kr c b.1.1 b.1.2.1 b.1.2.2.1 b.1.2.2.2.1 b.1.2.2.2.2.1 b.1.2.2.2.2.2.1 b.2.1.1 b.2.1.2.1
    else
     F.ze.C21 n
      (fun L M N O P Q R S T =>
       kr L M N O P Q R S T) e f d.1 c g h i j k l m o p q r s t u v w x y z A B C D E
  else
   F.ze.C21 n
    (fun U V W Y Z a0 a1 a2 a3 =>
     kr U V W Y Z a0 a1 a2 a3) e f d.1 c g h i j k l m o p q r s t u v w x y z A B C D E
noncomputable def F.ze.C10 {X:Type} (n:Nat) (kr:Z2→Z2→Int→Z4→Int→Z6→Int→Int→Int→Option X) (i:Z2) (C:Bool) (g:Z2) (h:Int) (d:Z2) (j:Z2) (k:Int) (l:Z4) (m:Int) (o:Z6) (p:Int) (q:Int) (r:Int) (f:Int) (s:Z2) (t:Int) (u:Z4) (v:Int) (w:Z6) (x:Int) (y:Nat) (z:Nat) (A:Nat) (B:Nat):Option X:=
 (F.zq n g).bind fun a =>
  bif !((a.2.1.1==(0:Int))&&(a.2.1.2.1==(0:Int))) then
   (F.zae n (17:Int) h).bind fun b =>
    kr d b.1.1 b.1.2.1 b.1.2.2.1 b.1.2.2.2.1 b.1.2.2.2.2.1 b.1.2.2.2.2.2.1 b.2.1.1 b.2.1.2.1
  else
  bif !C then
   (F.zae n (11:Int) (d.length:Int)).bind fun c =>
    kr d c.1.1 c.1.2.1 c.1.2.2.1 c.1.2.2.2.1 c.1.2.2.2.2.1 c.1.2.2.2.2.2.1 c.2.1.1 c.2.1.2.1
  else
   (sub d f (d.length:Int)).bind fun D =>
    (F.zx n D ([124])).bind fun e =>
     bif e.2.2.1 then
      F.ze.C16 n
       (fun E G H I J K L M N =>
        kr E G H I J K L M N) i e.2.2.1 g h e.1 f d j k l m o p q r (IntKind.wrap .i64 ((IntKind.wrap .i64 (f+(e.1.length:Int)))+(1:Int))) s t u v w x a.1.1 a.1.2.1 a.1.2.2.1 a.2.1.1 a.2.1.2.1 y z A B
     else
      F.ze.C16 n
       (fun O P Q R S T U V W =>
        kr O P Q R S T U V W) i e.2.2.1 g h e.1 f d j k l m o p q r (IntKind.wrap .i64 (f+(e.1.length:Int))) s t u v w x a.1.1 a.1.2.1 a.1.2.2.1 a.2.1.1 a.2.1.2.1 y z A B
noncomputable def F.ze.C5 {X:Type} (n:Nat) (kr:Z2→Z2→Int→Z4→Int→Z6→Int→Int→Int→Option X) (f:Z2) (A:Bool) (c:Z2) (g:Z2) (h:Int) (i:Z4) (j:Int) (k:Z6) (l:Int) (m:Int) (o:Int) (e:Int) (p:Z2) (q:Int) (r:Z4) (s:Int) (t:Z6) (u:Int) (v:Nat) (w:Nat) (x:Nat) (y:Nat):Option X:=
 (F.zaj n (1:Int) f (1:Int) (200:Int)).bind fun z =>
  bif !((z.1==(0:Int))&&(z.2.1==(0:Int))) then
   (F.zae n (15:Int) (0:Int)).bind fun a =>
    kr c a.1.1 a.1.2.1 a.1.2.2.1 a.1.2.2.2.1 a.1.2.2.2.2.1 a.1.2.2.2.2.2.1 a.2.1.1 a.2.1.2.1
  else
  bif !A then
   (F.zae n (11:Int) (c.length:Int)).bind fun b =>
    kr c b.1.1 b.1.2.1 b.1.2.2.1 b.1.2.2.2.1 b.1.2.2.2.2.1 b.1.2.2.2.2.2.1 b.2.1.1 b.2.1.2.1
  else
   (sub c e (c.length:Int)).bind fun B =>
    (F.zx n B ([124])).bind fun d =>
     bif d.2.2.1 then
      F.ze.C10 n
       (fun C D E G H I J K L =>
        kr C D E G H I J K L) f d.2.2.1 d.1 e c g h i j k l m o (IntKind.wrap .i64 ((IntKind.wrap .i64 (e+(d.1.length:Int)))+(1:Int))) p q r s t u v w x y
     else
      F.ze.C10 n
       (fun M N O P Q R S T U =>
        kr M N O P Q R S T U) f d.2.2.1 d.1 e c g h i j k l m o (IntKind.wrap .i64 (e+(d.1.length:Int))) p q r s t u v w x y
noncomputable def F.ze (n:Nat) (a0:Z2):Option ((Z23)×(Z18)×Unit):=
 (sub a0 (0:Int) (a0.length:Int)).bind fun b =>
  (F.zx n b ([58])).bind fun a =>
   bif a.2.2.1 then
    F.ze.C5 n
     (fun t c d e f g h i j =>
      some (((c,d,e,f,g,h,()),(i,j,()),()))) a.1 a.2.2.1 a0 [] (0:Int) [] (0:Int) [] (0:Int) (0:Int) (0:Int) (IntKind.wrap .i64 ((IntKind.wrap .i64 ((0:Int)+(a.1.length:Int)))+(1:Int))) [] (0:Int) [] (1000000:Int) [] (0:Int) 0 0 0 0
   else
    F.ze.C5 n
     (fun u k l m o p q r s =>
      some (((k,l,m,o,p,q,()),(r,s,()),()))) a.1 a.2.2.1 a0 [] (0:Int) [] (0:Int) [] (0:Int) (0:Int) (0:Int) (IntKind.wrap .i64 ((0:Int)+(a.1.length:Int))) [] (0:Int) [] (1000000:Int) [] (0:Int) 0 0 0 0
noncomputable def F.zk (n:Nat) (a0:Z6):Option (Z6):=
 bif (a0.length:Int)==(a0.length:Int) then
  (sub a0 (0:Int) (a0.length:Int)).bind fun a =>
   some (a)
 else
  none
noncomputable def F.zm.L5.step {X:Type} (n:Nat) (rec:Z25→Int→Z25→Int→Int→Z26→Z26→Z26→Option X) (k0:Z25→Int→Z26→Z26→Z26→Option X) (a:Z25) (b:Int) (d:Z25) (i:Int) (e:Int) (f:Z26) (g:Z26) (c:Z26):Option X:=
 bif decide (e<i) then
  bif decide (0≤e)&&decide (e<((d.2:Nat):Int)) then
   bif Nat.beq d.1 c.1 then
    (idx c.2 e).bind fun h =>
     bif e==(0:Int) then
      bif decide (0≤b)&&decide (b<((a.2:Nat):Int)) then
       bif Nat.beq a.1 c.1 then
        (idx c.2 b).bind fun k =>
         rec (a.1,a.2) (IntKind.wrap .i64 (b+(1:Int))) (d.1,d.2) i (IntKind.wrap .i64 (e+(1:Int))) (f.1,f.2) (g.1,g.2) (a.1,upd c.2 (Int.toNat b) (h.1,h.2))
       else
        none
      else
       none
     else
     bif decide (0≤(IntKind.wrap .i64 (b - (1:Int))))&&decide ((IntKind.wrap .i64 (b - (1:Int)))<((a.2:Nat):Int)) then
      bif Nat.beq a.1 c.1 then
       (idx c.2 (IntKind.wrap .i64 (b - (1:Int)))).bind fun j =>
        bif !((h.1==j.1)&&(h.2==j.2)) then
         bif decide (0≤b)&&decide (b<((a.2:Nat):Int)) then
          bif Nat.beq a.1 c.1 then
           (idx c.2 b).bind fun l =>
            rec (a.1,a.2) (IntKind.wrap .i64 (b+(1:Int))) (d.1,d.2) i (IntKind.wrap .i64 (e+(1:Int))) (f.1,f.2) (g.1,g.2) (a.1,upd c.2 (Int.toNat b) (h.1,h.2))
          else
           none
         else
          none
        else
         rec (a.1,a.2) b (d.1,d.2) i (IntKind.wrap .i64 (e+(1:Int))) (f.1,f.2) (g.1,g.2) (c.1,c.2)
      else
       none
     else
      none
   else
    none
  else
   none
 else
  k0 (a.1,a.2) b (f.1,f.2) (g.1,g.2) (c.1,c.2)
noncomputable def F.zm.L5 {X:Type} (n:Nat) (k0:Z25→Int→Z26→Z26→Z26→Option X):Nat→Z25→Int→Z25→Int→Int→Z26→Z26→Z26→Option X
 | 0=>fun _ _ _ _ _ _ _ _=>none
 | m+1=>fun a b c d e f g h=>F.zm.L5.step n (F.zm.L5 n k0 m) k0 a b c d e f g h
noncomputable def F.zm (n:Nat) (a0:Z6):Option (Z6):=
 bif List.isEmpty a0 then
  both
   (
    bif Nat.beq (sortTags []).length 0&&Nat.blt 0 strMax then
     F.zm.L5 n
      (fun d e q r a =>
       bif Nat.beq d.1 a.1 then
        (sub a.2 (0:Int) e).bind fun f =>
         (F.zk n f).bind fun g =>
          some (g)
       else
        none) n (1,0) (0:Int) (1,0) (0:Int) (0:Int) (1,[]) (1,[]) (1,sortTags [])
    else
     none)
   (
    bif decide ((0+a0.length)*32≤2 ^ 46)&&decide (0<32∧32≤2 ^ 20) then
     bif Nat.beq (sortTags ([]++a0)).length (([]++a0).length)&&Nat.blt (([]++a0).length) strMax then
      F.zm.L5 n
       (fun h i s t b =>
        bif Nat.beq h.1 b.1 then
         (sub b.2 (0:Int) i).bind fun j =>
          (F.zk n j).bind fun k =>
           some (k)
        else
         none) n (2,([]++a0).length) (0:Int) (2,([]++a0).length) ((([]++a0).length:Nat):Int) (0:Int) (1,[]) (1,[]) (2,sortTags ([]++a0))
     else
      none
    else
     none)
 else
 bif decide ((0+a0.length)*32≤2 ^ 46)&&decide (0<32∧32≤2 ^ 20) then
  bif Nat.beq (sortTags ([]++a0)).length (([]++a0).length)&&Nat.blt (([]++a0).length) strMax then
   F.zm.L5 n
    (fun l m u v c =>
     bif Nat.beq l.1 c.1 then
      (sub c.2 (0:Int) m).bind fun o =>
       (F.zk n o).bind fun p =>
        some (p)
     else
      none) n (2,([]++a0).length) (0:Int) (2,([]++a0).length) ((([]++a0).length:Nat):Int) (0:Int) (1,[]) (1,[]) (2,sortTags ([]++a0))
  else
   none
 else
  none
noncomputable def F.za4 (n:Nat):Option (Z27):=
 some (([],[99],[103],[109,115],[104],[100],()))
noncomputable def F.zak.L2.step {X:Type} (n:Nat) (rec:Z2→Z27→Int→Option X) (k0:Unit→Option X) (kr:Int→Int→Option X) (c:Z2) (a:Z27) (b:Int):Option X:=
 bif decide (b<(6:Int)) then
  bif b==(0:Int) then
   bif !(a.1==[]) then
    bif a.1==c then
     kr b (0:Int)
    else
     rec c (a.1,a.2.1,a.2.2.1,a.2.2.2.1,a.2.2.2.2.1,a.2.2.2.2.2.1,()) (IntKind.wrap .i64 (b+(1:Int)))
   else
    rec c (a.1,a.2.1,a.2.2.1,a.2.2.2.1,a.2.2.2.2.1,a.2.2.2.2.2.1,()) (IntKind.wrap .i64 (b+(1:Int)))
  else
  bif b==(1:Int) then
   bif !(a.2.1==[]) then
    bif a.2.1==c then
     kr b (0:Int)
    else
     rec c (a.1,a.2.1,a.2.2.1,a.2.2.2.1,a.2.2.2.2.1,a.2.2.2.2.2.1,()) (IntKind.wrap .i64 (b+(1:Int)))
   else
    rec c (a.1,a.2.1,a.2.2.1,a.2.2.2.1,a.2.2.2.2.1,a.2.2.2.2.2.1,()) (IntKind.wrap .i64 (b+(1:Int)))
  else
  bif b==(2:Int) then
   bif !(a.2.2.1==[]) then
    bif a.2.2.1==c then
     kr b (0:Int)
    else
     rec c (a.1,a.2.1,a.2.2.1,a.2.2.2.1,a.2.2.2.2.1,a.2.2.2.2.2.1,()) (IntKind.wrap .i64 (b+(1:Int)))
   else
    rec c (a.1,a.2.1,a.2.2.1,a.2.2.2.1,a.2.2.2.2.1,a.2.2.2.2.2.1,()) (IntKind.wrap .i64 (b+(1:Int)))
  else
  bif b==(3:Int) then
   bif !(a.2.2.2.1==[]) then
    bif a.2.2.2.1==c then
     kr b (0:Int)
    else
     rec c (a.1,a.2.1,a.2.2.1,a.2.2.2.1,a.2.2.2.2.1,a.2.2.2.2.2.1,()) (IntKind.wrap .i64 (b+(1:Int)))
   else
    rec c (a.1,a.2.1,a.2.2.1,a.2.2.2.1,a.2.2.2.2.1,a.2.2.2.2.2.1,()) (IntKind.wrap .i64 (b+(1:Int)))
  else
  bif b==(4:Int) then
   bif !(a.2.2.2.2.1==[]) then
    bif a.2.2.2.2.1==c then
     kr b (0:Int)
    else
     rec c (a.1,a.2.1,a.2.2.1,a.2.2.2.1,a.2.2.2.2.1,a.2.2.2.2.2.1,()) (IntKind.wrap .i64 (b+(1:Int)))
   else
    rec c (a.1,a.2.1,a.2.2.1,a.2.2.2.1,a.2.2.2.2.1,a.2.2.2.2.2.1,()) (IntKind.wrap .i64 (b+(1:Int)))
  else
  bif b==(5:Int) then
   bif !(a.2.2.2.2.2.1==[]) then
    bif a.2.2.2.2.2.1==c then
     kr b (0:Int)
    else
     rec c (a.1,a.2.1,a.2.2.1,a.2.2.2.1,a.2.2.2.2.1,a.2.2.2.2.2.1,()) (IntKind.wrap .i64 (b+(1:Int)))
   else
    rec c (a.1,a.2.1,a.2.2.1,a.2.2.2.1,a.2.2.2.2.1,a.2.2.2.2.2.1,()) (IntKind.wrap .i64 (b+(1:Int)))
  else
   none
 else
  k0 ()
noncomputable def F.zak.L2 {X:Type} (n:Nat) (k0:Unit→Option X) (kr:Int→Int→Option X):Nat→Z2→Z27→Int→Option X
 | 0=>fun _ _ _=>none
 | m+1=>fun a b c=>F.zak.L2.step n (F.zak.L2 n k0 kr m) k0 kr a b c
noncomputable def F.zak (n:Nat) (a0:Z2):Option ((Int)×(Int)×Unit):=
 (F.za4 n ).bind fun a =>
  F.zak.L2 n
   (fun (_:Unit) =>
    some (((0:Int),(16:Int),())))
   (fun b c =>
    some ((b,c,()))) n a0 (a.1,a.2.1,a.2.2.1,a.2.2.2.1,a.2.2.2.2.1,a.2.2.2.2.2.1,()) (0:Int)
noncomputable def F.za0 (n:Nat) (a0:Z2) (a1:Int) (a2:Int):Option ((Int)×(Z18)×Unit):=
 (F.zaj n (4:Int) a0 (1:Int) (IntKind.wrap .i64 ((a0.length:Int)+(1:Int)))).bind fun a =>
  bif !((a.1==(0:Int))&&(a.2.1==(0:Int))) then
   (F.z8 n a.1 a.2.1).bind fun d =>
    some ((d.1,(d.2.1.1,d.2.1.2.1,()),()))
  else
   (idx a0 (0:Int)).bind fun l =>
    bif ((l).toNat)==(48:Int) then
     bif decide ((a0.length:Int)>(1:Int)) then
      (F.z8 n (11:Int) (0:Int)).bind fun e =>
       some ((e.1,(e.2.1.1,e.2.1.2.1,()),()))
     else
      (O.atoi n a0).bind fun b =>
       bif b.2.1 then
        (F.z8 n (10:Int) (0:Int)).bind fun f =>
         some ((f.1,(f.2.1.1,f.2.1.2.1,()),()))
       else
       bif decide (b.1<a1) then
        (F.z8 n (10:Int) (0:Int)).bind fun g =>
         some ((g.1,(g.2.1.1,g.2.1.2.1,()),()))
       else
       bif decide (b.1>a2) then
        (F.z8 n (10:Int) (0:Int)).bind fun h =>
         some ((h.1,(h.2.1.1,h.2.1.2.1,()),()))
       else
        some ((b.1,((0:Int),(0:Int),()),()))
    else
     (O.atoi n a0).bind fun c =>
      bif c.2.1 then
       (F.z8 n (10:Int) (0:Int)).bind fun i =>
        some ((i.1,(i.2.1.1,i.2.1.2.1,()),()))
      else
      bif decide (c.1<a1) then
       (F.z8 n (10:Int) (0:Int)).bind fun j =>
        some ((j.1,(j.2.1.1,j.2.1.2.1,()),()))
      else
      bif decide (c.1>a2) then
       (F.z8 n (10:Int) (0:Int)).bind fun k =>
        some ((k.1,(k.2.1.1,k.2.1.2.1,()),()))
      else
       some ((c.1,((0:Int),(0:Int),()),()))
noncomputable def F.zav (n:Nat) (a0:Z2):Option ((Int)×(Z18)×Unit):=
 (F.za0 n a0 (1:Int) (1099511627776:Int)).bind fun a =>
  some ((a.1,(a.2.1.1,a.2.1.2.1,()),()))
noncomputable def F.za1 (n:Nat) (a0:Z21):Option (Int):=
 (F.zaj n (2:Int) a0.1 (1:Int) (64:Int)).bind fun a =>
  bif !((a.1==(0:Int))&&(a.2.1==(0:Int))) then
   some ((19:Int))
  else
   (F.zaj n (3:Int) a0.2.1 (0:Int) (100:Int)).bind fun b =>
    bif !((b.1==(0:Int))&&(b.2.1==(0:Int))) then
     some ((19:Int))
    else
     some ((0:Int))
noncomputable def F.zac.L4.step {X:Type} (n:Nat) (rec:Z6→Int→Z20→Int→Int→Int→Int→Nat→Option X) (k0:Z6→Int→Int→Nat→Option X) (kr:Z6→Int→Int→Nat→Option X) (b:Z6) (c:Int) (e:Z20) (f:Int) (d:Int) (g:Int) (h:Int) (i:Nat):Option X:=
 bif decide (d<f) then
  (idx e d).bind fun j =>
   (F.zx n j ([58])).bind fun a =>
    (F.za1 n (a.1,a.2.1,())).bind fun k =>
     bif !(k==(0:Int)) then
      kr [] (19:Int) c 0
     else
     bif a.2.2.1 then
      bif a.2.1==[] then
       kr [] (19:Int) c 0
      else
      bif decide ((b.length+1)*32≤2 ^ 46)&&decide (0<32∧32≤2 ^ 20) then
       bif Nat.beq i b.length then
        rec (b++([(a.1,a.2.1)])) (IntKind.wrap .i64 (c+(IntKind.wrap .i64 ((j.length:Int)+(1:Int))))) e f (IntKind.wrap .i64 (d+(1:Int))) g h ((b++([(a.1,a.2.1)])).length)
       else
        none
      else
       none
     else
     bif decide ((b.length+1)*32≤2 ^ 46)&&decide (0<32∧32≤2 ^ 20) then
      bif Nat.beq i b.length then
       rec (b++([(a.1,a.2.1)])) (IntKind.wrap .i64 (c+(IntKind.wrap .i64 ((j.length:Int)+(1:Int))))) e f (IntKind.wrap .i64 (d+(1:Int))) g h ((b++([(a.1,a.2.1)])).length)
      else
       none
     else
      none
 else
  k0 b g h i
noncomputable def F.zac.L4 {X:Type} (n:Nat) (k0:Z6→Int→Int→Nat→Option X) (kr:Z6→Int→Int→Nat→Option X):Nat→Z6→Int→Z20→Int→Int→Int→Int→Nat→Option X
 | 0=>fun _ _ _ _ _ _ _ _=>none
 | m+1=>fun a b c d e f g h=>F.zac.L4.step n (F.zac.L4 n k0 kr m) k0 kr a b c d e f g h
noncomputable def F.zac (n:Nat) (a0:Z2):Option ((Z6)×(Z18)×Unit):=
 (O.split1 n a0 ([44])).bind fun a =>
  F.zac.L4 n
   (fun b f g h =>
    some ((b,((0:Int),(0:Int),()),())))
   (fun c d e i =>
    some ((c,(d,e,()),()))) n [] (0:Int) a (a.length:Int) (0:Int) (0:Int) (0:Int) 0
noncomputable def F.zf.L9_dog_reader_first.step {X:Type} (n:Nat) (rec:Int→Z20→Int→Int→Z2→Int→Z4→Int→Z6→Int→Int→Int→Z2→Int→Z4→Int→Z6→Int→Int→Int→Int→Int→Int→Int→Nat→Nat→Nat→Option X) (k1:Z2→Int→Z4→Int→Z6→Int→Int→Int→Z2→Int→Z4→Int→Z6→Int→Int→Int→Int→Int→Int→Int→Nat→Nat→Nat→Option X) (kr:Z2→Int→Z4→Int→Z6→Int→Int→Int→Z2→Int→Z4→Int→Z6→Int→Int→Int→Int→Int→Int→Int→Nat→Nat→Nat→Option X) (x:Int) (z:Z20) (A:Int) (y:Int) (d:Z2) (e:Int) (f:Z4) (g:Int) (h:Z6) (i:Int) (j:Int) (k:Int) (l:Z2) (m:Int) (a:Z4) (o:Int) (p:Z6) (q:Int) (c:Int) (r:Int) (s:Int) (t:Int) (B:Int) (C:Int) (u:Nat) (v:Nat) (w:Nat):Option X:=
 bif decide (y<A) then
  (idx z y).bind fun D =>
   (F.zq n D).bind fun b =>
    bif !((b.2.1.1==(0:Int))&&(b.2.1.2.1==(0:Int))) then
     kr d e f g h i j k l m a o p q c r s t (17:Int) (IntKind.wrap .i64 (c+x)) u v w
    else
    bif (a.length:Int)==(64:Int) then
     kr d e f g h i j k l m a o p q c r s t (17:Int) (IntKind.wrap .i64 (c+x)) u v w
    else
    bif decide ((a.length+1)*24≤2 ^ 46)&&decide (0<24∧24≤2 ^ 20) then
     bif Nat.beq w a.length then
      rec (IntKind.wrap .i64 (x+(IntKind.wrap .i64 ((D.length:Int)+(1:Int))))) z A (IntKind.wrap .i64 (y+(1:Int))) d e f g h i j k l m (a++([(b.1.1,b.1.2.1,b.1.2.2.1)])) o p q c r s t B C u v ((a++([(b.1.1,b.1.2.1,b.1.2.2.1)])).length)
     else
      none
    else
     none
 else
  k1 d e f g h i j k l m a o p q c r s t B C u v w
noncomputable def F.zf.L9_dog_reader_first {X:Type} (n:Nat) (k1:Z2→Int→Z4→Int→Z6→Int→Int→Int→Z2→Int→Z4→Int→Z6→Int→Int→Int→Int→Int→Int→Int→Nat→Nat→Nat→Option X) (kr:Z2→Int→Z4→Int→Z6→Int→Int→Int→Z2→Int→Z4→Int→Z6→Int→Int→Int→Int→Int→Int→Int→Nat→Nat→Nat→Option X):Nat→Int→Z20→Int→Int→Z2→Int→Z4→Int→Z6→Int→Int→Int→Z2→Int→Z4→Int→Z6→Int→Int→Int→Int→Int→Int→Int→Nat→Nat→Nat→Option X
 | 0=>fun _ _ _ _ _ _ _ _ _ _ _ _ _ _ _ _ _ _ _ _ _ _ _ _ _ _ _=>none
 | m+1=>fun a b c d e f g h i j k l o p q r s t u v w x y z A B C=>F.zf.L9_dog_reader_first.step n (F.zf.L9_dog_reader_first n k1 kr m) k1 kr a b c d e f g h i j k l o p q r s t u v w x y z A B C
noncomputable def F.zf.L2_dog_reader_more.step {X:Type} (n:Nat) (rec:Z2→Z24→Int→Z2→Int→Z4→Int→Z6→Int→Int→Int→Z2→Int→Z4→Int→Z6→Int→Int→Int→Int→Int→Int→Int→Nat→Nat→Nat→Option X) (k0:Z2→Int→Z4→Int→Z6→Int→Int→Int→Z2→Int→Z4→Int→Z6→Int→Int→Int→Int→Int→Int→Int→Nat→Nat→Nat→Option X) (kr:Z2→Int→Z4→Int→Z6→Int→Int→Int→Z2→Int→Z4→Int→Z6→Int→Int→Int→Int→Int→Int→Int→Nat→Nat→Nat→Option X) (A:Z2) (w:Z24) (b:Int) (d:Z2) (e:Int) (f:Z4) (g:Int) (h:Z6) (i:Int) (j:Int) (k:Int) (l:Z2) (c:Int) (m:Z4) (v:Int) (t:Z6) (u:Int) (a:Int) (x:Int) (o:Int) (p:Int) (y:Int) (z:Int) (q:Nat) (r:Nat) (s:Nat):Option X:=
 bif decide (b<(3:Int)) then
  bif b == (0:Int) then
   (F.zt n A w.1).bind fun E =>
    bif !E.2.1 then
     rec A (w.1,(),w.2.2.1,(),w.2.2.2.2.1,(),()) (IntKind.wrap .i64 (b+(1:Int))) d e f g h i j k l c m v t u a x o p y z q r s
    else
    bif decide (b<x) then
     k0 d e f g h i j k l c m v t u a x o p y z q r s
    else
     (F.zl n E.1).bind fun B =>
      bif !((B.2.1.1==(0:Int))&&(B.2.1.2.1==(0:Int))) then
       kr d e f g h i j k l c m v t u a (IntKind.wrap .i64 (b+(1:Int))) o p (18:Int) (IntKind.wrap .i64 (a+(0:Int))) q r s
      else
      bif c==(2:Int) then
       bif !(B.1==(1000000:Int)) then
        kr d e f g h i j k l c m v t u a (IntKind.wrap .i64 (b+(1:Int))) o p (18:Int) (IntKind.wrap .i64 (a+(0:Int))) q r s
       else
        kr d e f g h i j k l c m B.1 t u a (IntKind.wrap .i64 (b+(1:Int))) o p (0:Int) (0:Int) q r s
      else
       kr d e f g h i j k l c m B.1 t u a (IntKind.wrap .i64 (b+(1:Int))) o p (0:Int) (0:Int) q r s
  else
  bif b == (1:Int) then
   (F.zt n A w.2.2.1).bind fun G =>
    bif !G.2.1 then
     rec A (w.1,(),w.2.2.1,(),w.2.2.2.2.1,(),()) (IntKind.wrap .i64 (b+(1:Int))) d e f g h i j k l c m v t u a x o p y z q r s
    else
    bif decide (b<x) then
     k0 d e f g h i j k l c m v t u a x o p y z q r s
    else
     (F.zac n G.1).bind fun C =>
      bif !((C.2.1.1==(0:Int))&&(C.2.1.2.1==(0:Int))) then
       kr d e f g h i j k l c m v t u a (IntKind.wrap .i64 (b+(1:Int))) o p (19:Int) (IntKind.wrap .i64 (a+(0:Int))) q r s
      else
      bif decide ((C.1.length:Int)>(32:Int)) then
       kr d e f g h i j k l c m v t u a (IntKind.wrap .i64 (b+(1:Int))) o p (19:Int) (IntKind.wrap .i64 (a+(0:Int))) q r s
      else
       (F.zm n C.1).bind fun I =>
        kr d e f g h i j k l c m v I u a (IntKind.wrap .i64 (b+(1:Int))) o p (0:Int) (0:Int) q r s
  else
  bif b==(2:Int) then
   (F.zt n A w.2.2.2.2.1).bind fun H =>
    bif !H.2.1 then
     rec A (w.1,(),w.2.2.1,(),w.2.2.2.2.1,(),()) (IntKind.wrap .i64 (b+(1:Int))) d e f g h i j k l c m v t u a x o p y z q r s
    else
    bif decide (b<x) then
     k0 d e f g h i j k l c m v t u a x o p y z q r s
    else
     (F.zav n H.1).bind fun D =>
      bif !((D.2.1.1==(0:Int))&&(D.2.1.2.1==(0:Int))) then
       kr d e f g h i j k l c m v t u a (IntKind.wrap .i64 (b+(1:Int))) o p (20:Int) (IntKind.wrap .i64 (a+(0:Int))) q r s
      else
       kr d e f g h i j k l c m v t D.1 a (IntKind.wrap .i64 (b+(1:Int))) o p (0:Int) (0:Int) q r s
  else
   none
 else
  k0 d e f g h i j k l c m v t u a x o p y z q r s
noncomputable def F.zf.L2_dog_reader_more {X:Type} (n:Nat) (k0:Z2→Int→Z4→Int→Z6→Int→Int→Int→Z2→Int→Z4→Int→Z6→Int→Int→Int→Int→Int→Int→Int→Nat→Nat→Nat→Option X) (kr:Z2→Int→Z4→Int→Z6→Int→Int→Int→Z2→Int→Z4→Int→Z6→Int→Int→Int→Int→Int→Int→Int→Nat→Nat→Nat→Option X):Nat→Z2→Z24→Int→Z2→Int→Z4→Int→Z6→Int→Int→Int→Z2→Int→Z4→Int→Z6→Int→Int→Int→Int→Int→Int→Int→Nat→Nat→Nat→Option X
 | 0=>fun _ _ _ _ _ _ _ _ _ _ _ _ _ _ _ _ _ _ _ _ _ _ _ _ _ _=>none
 | m+1=>fun a b c d e f g h i j k l o p q r s t u v w x y z A B=>F.zf.L2_dog_reader_more.step n (F.zf.L2_dog_reader_more n k0 kr m) k0 kr a b c d e f g h i j k l o p q r s t u v w x y z A B
noncomputable def F.zf.L8.step {X:Type} (n:Nat) (rec:Z2→Z20→Z20→Int→Int→Z2→Int→Z4→Int→Z6→Int→Int→Int→Z2→Int→Z4→Int→Z6→Int→Int→Int→Int→Int→Nat→Nat→Nat→Option X) (k0:Z2→Z20→Z2→Int→Z4→Int→Z6→Int→Int→Int→Z2→Int→Z4→Int→Z6→Int→Int→Int→Int→Int→Nat→Nat→Nat→Option X) (b:Z2) (c:Z20) (x:Z20) (y:Int) (e:Int) (f:Z2) (g:Int) (h:Z4) (i:Int) (j:Z6) (k:Int) (l:Int) (m:Int) (w:Z2) (z:Int) (o:Z4) (p:Int) (q:Z6) (r:Int) (a:Int) (s:Int) (D:Int) (E:Int) (t:Nat) (u:Nat) (v:Nat):Option X:=
 bif decide (e<y) then
  (idx x e).bind fun d =>
   bif decide (e<(2:Int)) then
    bif e == (0:Int) then
     (F.zx n d ([58])).bind fun B =>
      (F.zaj n (1:Int) B.1 (1:Int) (200:Int)).bind fun K =>
       bif !((K.1==(0:Int))&&(K.2.1==(0:Int))) then
        bif !(false&&((IntKind.wrap .i64 (a+(0:Int)))==(0:Int))) then
         k0 b c f g h i j k l m w z o p q r a s (15:Int) (IntKind.wrap .i64 (a+(0:Int))) t u v
        else
         rec b c x y (IntKind.wrap .i64 (e+(1:Int))) f g h i j k l m w z o p q r (IntKind.wrap .i64 (a+(IntKind.wrap .i64 ((d.length:Int)+(1:Int))))) s (15:Int) (IntKind.wrap .i64 (a+(0:Int))) t u v
       else
       bif !B.2.2.1 then
        bif !(false&&((IntKind.wrap .i64 (a+(d.length:Int)))==(0:Int))) then
         k0 b c f g h i j k l m w z o p q r a s (11:Int) (IntKind.wrap .i64 (a+(d.length:Int))) t u v
        else
         rec b c x y (IntKind.wrap .i64 (e+(1:Int))) f g h i j k l m w z o p q r (IntKind.wrap .i64 (a+(IntKind.wrap .i64 ((d.length:Int)+(1:Int))))) s (11:Int) (IntKind.wrap .i64 (a+(d.length:Int))) t u v
       else
        (O.split1 n B.2.1 ([58])).bind fun L =>
         F.zf.L9_dog_reader_first n
          (fun M N P Q R S T U V W Y Z a0 a1 a2 a3 bU bV bW bY a4 a5 a6 =>
           bif !(true&&true) then
            k0 b c M N P Q R S T U V W Y Z a0 a1 a2 a3 (0:Int) (0:Int) a4 a5 a6
           else
            rec b c x y (IntKind.wrap .i64 (e+(1:Int))) M N P Q R S T U V W Y Z a0 a1 (IntKind.wrap .i64 (a2+(IntKind.wrap .i64 ((d.length:Int)+(1:Int))))) a3 (0:Int) (0:Int) a4 a5 a6)
          (fun a7 a8 a9 aA aB aC aD aE aG aH aI aJ aK aL aM aN bZ c0 G H aO aP aQ =>
           bif !((G==(0:Int))&&(H==(0:Int))) then
            k0 b c a7 a8 a9 aA aB aC aD aE aG aH aI aJ aK aL aM aN G H aO aP aQ
           else
            rec b c x y (IntKind.wrap .i64 (e+(1:Int))) a7 a8 a9 aA aB aC aD aE aG aH aI aJ aK aL (IntKind.wrap .i64 (aM+(IntKind.wrap .i64 ((d.length:Int)+(1:Int))))) aN G H aO aP aQ) n (IntKind.wrap .i64 ((B.1.length:Int)+(1:Int))) L (L.length:Int) (0:Int) f g h i j k l m B.1 z o p q r a s D E (0:Int) (0:Int) t u v
    else
    bif e==(1:Int) then
     (F.zak n d).bind fun A =>
      bif !(A.2.1==(0:Int)) then
       bif !((A.2.1==(0:Int))&&((IntKind.wrap .i64 (a+(0:Int)))==(0:Int))) then
        k0 b c f g h i j k l m w z o p q r a s A.2.1 (IntKind.wrap .i64 (a+(0:Int))) t u v
       else
        rec b c x y (IntKind.wrap .i64 (e+(1:Int))) f g h i j k l m w z o p q r (IntKind.wrap .i64 (a+(IntKind.wrap .i64 ((d.length:Int)+(1:Int))))) s A.2.1 (IntKind.wrap .i64 (a+(0:Int))) t u v
      else
      bif !(true&&true) then
       k0 b c f g h i j k l m w A.1 o p q r a s (0:Int) (0:Int) t u v
      else
       rec b c x y (IntKind.wrap .i64 (e+(1:Int))) f g h i j k l m w A.1 o p q r (IntKind.wrap .i64 (a+(IntKind.wrap .i64 ((d.length:Int)+(1:Int))))) s (0:Int) (0:Int) t u v
    else
     none
   else
    F.zf.L2_dog_reader_more n
     (fun aR aS aT aU aV aW aY aZ b0 b1 b2 b3 b4 b5 C b6 c1 c2 c3 c4 b7 b8 b9 =>
      bif !(false&&((IntKind.wrap .i64 (C+(0:Int)))==(0:Int))) then
       k0 b c aR aS aT aU aV aW aY aZ b0 b1 b2 b3 b4 b5 C b6 (11:Int) (IntKind.wrap .i64 (C+(0:Int))) b7 b8 b9
      else
       rec b c x y (IntKind.wrap .i64 (e+(1:Int))) aR aS aT aU aV aW aY aZ b0 b1 b2 b3 b4 b5 (IntKind.wrap .i64 (C+(IntKind.wrap .i64 ((d.length:Int)+(1:Int))))) b6 (11:Int) (IntKind.wrap .i64 (C+(0:Int))) b7 b8 b9)
     (fun bA bB bC bD bE bG bH bI bJ bK bL bM bN bO bP bQ c5 c6 I J bR bS bT =>
      bif !((I==(0:Int))&&(J==(0:Int))) then
       k0 b c bA bB bC bD bE bG bH bI bJ bK bL bM bN bO bP bQ I J bR bS bT
      else
       rec b c x y (IntKind.wrap .i64 (e+(1:Int))) bA bB bC bD bE bG bH bI bJ bK bL bM bN bO (IntKind.wrap .i64 (bP+(IntKind.wrap .i64 ((d.length:Int)+(1:Int))))) bQ I J bR bS bT) n d ([64],(),[35],(),[84],(),()) (0:Int) f g h i j k l m w z o p q r a s D E (0:Int) (0:Int) t u v
 else
  k0 b c f g h i j k l m w z o p q r a s D E t u v
noncomputable def F.zf.L8 {X:Type} (n:Nat) (k0:Z2→Z20→Z2→Int→Z4→Int→Z6→Int→Int→Int→Z2→Int→Z4→Int→Z6→Int→Int→Int→Int→Int→Nat→Nat→Nat→Option X):Nat→Z2→Z20→Z20→Int→Int→Z2→Int→Z4→Int→Z6→Int→Int→Int→Z2→Int→Z4→Int→Z6→Int→Int→Int→Int→Int→Nat→Nat→Nat→Option X
 | 0=>fun _ _ _ _ _ _ _ _ _ _ _ _ _ _ _ _ _ _ _ _ _ _ _ _ _ _=>none
 | m+1=>fun a b c d e f g h i j k l o p q r s t u v w x y z A B=>F.zf.L8.step n (F.zf.L8 n k0 m) k0 a b c d e f g h i j k l o p q r s t u v w x y z A B
noncomputable def F.zf (n:Nat) (a0:Z2):Option ((Z23)×(Z18)×Unit):=
 bif decide ((a0.length:Int)>(8192:Int)) then
  some ((([],(0:Int),[],(0:Int),[],(0:Int),()),((12:Int),(0:Int),()),()))
 else
  (O.split1 n a0 ([124])).bind fun c =>
   F.zf.L8 n
    (fun d k l m o p q r s t e f g h i j u v a b w x y =>
     bif (a==(0:Int))&&(b==(0:Int)) then
      bif decide ((k.length:Int)<(2:Int)) then
       bif !(false&&((d.length:Int)==(0:Int))) then
        some ((([],(0:Int),[],(0:Int),[],(0:Int),()),((11:Int),(d.length:Int),()),()))
       else
        some (((e,f,g,h,i,j,()),((11:Int),(d.length:Int),()),()))
      else
      bif !((a==(0:Int))&&(b==(0:Int))) then
       some ((([],(0:Int),[],(0:Int),[],(0:Int),()),(a,b,()),()))
      else
       some (((e,f,g,h,i,j,()),(a,b,()),()))
     else
     bif !((a==(0:Int))&&(b==(0:Int))) then
      some ((([],(0:Int),[],(0:Int),[],(0:Int),()),(a,b,()),()))
     else
      some (((e,f,g,h,i,j,()),(a,b,()),()))) n a0 c c (c.length:Int) (0:Int) [] (0:Int) [] (0:Int) [] (0:Int) (0:Int) (0:Int) [] (0:Int) [] (1000000:Int) [] (0:Int) (0:Int) (0:Int) (0:Int) (0:Int) 0 0 0
noncomputable def F.zi.L2_graphite_cut_1.step {X:Type} (n:Nat) (rec:Int→Int→Bool→Z2→Int→Z4→Int→Z6→Int→Int→Int→Z2→Int→Z4→Int→Z6→Int→Int→Int→Z2→Nat→Nat→Nat→Nat→Option X) (k0:Z2→Int→Z4→Int→Z6→Int→Int→Int→Z2→Int→Z4→Int→Z6→Int→Int→Int→Z2→Nat→Nat→Nat→Nat→Option X) (kr:Z2→Int→Z4→Int→Z6→Int→Int→Int→Z2→Int→Z4→Int→Z6→Int→Int→Int→Z2→Nat→Nat→Nat→Nat→Option X) (c:Int) (s:Int) (C:Bool) (d:Z2) (e:Int) (f:Z4) (g:Int) (h:Z6) (i:Int) (j:Int) (k:Int) (x:Z2) (l:Int) (t:Z4) (m:Int) (o:Z6) (u:Int) (y:Int) (z:Int) (b:Z2) (p:Nat) (q:Nat) (v:Nat) (r:Nat):Option X:=
 bif C then
  (sub b c (b.length:Int)).bind fun D =>
   (F.zx n D ([32])).bind fun a =>
    bif s==(0:Int) then
     (F.zaj n (1:Int) a.1 (1:Int) (200:Int)).bind fun B =>
      bif !((B.1==(0:Int))&&(B.2.1==(0:Int))) then
       kr d e f g h i j k a.1 l t m o u (15:Int) c b p q v r
      else
      bif !(a.2.2.1==(decide (s<(2:Int)))) then
       kr d e f g h i j k a.1 l t m o u (11:Int) (IntKind.wrap .i64 (c+(a.1.length:Int))) b p q v r
      else
       rec (IntKind.wrap .i64 (c+(IntKind.wrap .i64 ((a.1.length:Int)+(1:Int))))) (IntKind.wrap .i64 (s+(1:Int))) a.2.2.1 d e f g h i j k a.1 l t m o u y z b p q v r
    else
    bif s==(1:Int) then
     (F.zq n a.1).bind fun w =>
      bif !((w.2.1.1==(0:Int))&&(w.2.1.2.1==(0:Int))) then
       kr d e f g h i j k x l t m o u (17:Int) c b p q v r
      else
      bif !(a.2.2.1==(decide (s<(2:Int)))) then
       kr d e f g h i j k x l ([(w.1.1,w.1.2.1,w.1.2.2.1)]) m o u (11:Int) (IntKind.wrap .i64 (c+(a.1.length:Int))) b p q 1 r
      else
       rec (IntKind.wrap .i64 (c+(IntKind.wrap .i64 ((a.1.length:Int)+(1:Int))))) (IntKind.wrap .i64 (s+(1:Int))) a.2.2.1 d e f g h i j k x l ([(w.1.1,w.1.2.1,w.1.2.2.1)]) m o u y z b p q 1 r
    else
     (F.zav n a.1).bind fun A =>
      bif !((A.2.1.1==(0:Int))&&(A.2.1.2.1==(0:Int))) then
       kr d e f g h i j k x l t m o u (20:Int) c b p q v r
      else
      bif !(a.2.2.1==(decide (s<(2:Int)))) then
       kr d e f g h i j k x l t m o A.1 (11:Int) (IntKind.wrap .i64 (c+(a.1.length:Int))) b p q v r
      else
       rec (IntKind.wrap .i64 (c+(IntKind.wrap .i64 ((a.1.length:Int)+(1:Int))))) (IntKind.wrap .i64 (s+(1:Int))) a.2.2.1 d e f g h i j k x l t m o A.1 y z b p q v r
 else
  k0 d e f g h i j k x l t m o u y z b p q v r
noncomputable def F.zi.L2_graphite_cut_1 {X:Type} (n:Nat) (k0:Z2→Int→Z4→Int→Z6→Int→Int→Int→Z2→Int→Z4→Int→Z6→Int→Int→Int→Z2→Nat→Nat→Nat→Nat→Option X) (kr:Z2→Int→Z4→Int→Z6→Int→Int→Int→Z2→Int→Z4→Int→Z6→Int→Int→Int→Z2→Nat→Nat→Nat→Nat→Option X):Nat→Int→Int→Bool→Z2→Int→Z4→Int→Z6→Int→Int→Int→Z2→Int→Z4→Int→Z6→Int→Int→Int→Z2→Nat→Nat→Nat→Nat→Option X
 | 0=>fun _ _ _ _ _ _ _ _ _ _ _ _ _ _ _ _ _ _ _ _ _ _ _ _=>none
 | m+1=>fun a b c d e f g h i j k l o p q r s t u v w x y z=>F.zi.L2_graphite_cut_1.step n (F.zi.L2_graphite_cut_1 n k0 kr m) k0 kr a b c d e f g h i j k l o p q r s t u v w x y z
noncomputable def F.zi (n:Nat) (a0:Z2):Option ((Z23)×(Z18)×Unit):=
 F.zi.L2_graphite_cut_1 n
  (fun r s t u v w x y e f g h i j a b z A B C D =>
   bif !((a==(0:Int))&&(b==(0:Int))) then
    some ((([],(0:Int),[],(0:Int),[],(0:Int),()),(a,b,()),()))
   else
    some (((e,f,g,h,i,j,()),(a,b,()),())))
  (fun E G H I J K L M k l m o p q c d N O P Q R =>
   bif !((c==(0:Int))&&(d==(0:Int))) then
    some ((([],(0:Int),[],(0:Int),[],(0:Int),()),(c,d,()),()))
   else
    some (((k,l,m,o,p,q,()),(c,d,()),()))) n (0:Int) (0:Int) true [] (0:Int) [] (0:Int) [] (0:Int) (0:Int) (0:Int) [] (2:Int) [] (1000000:Int) [] (0:Int) (0:Int) (0:Int) a0 0 0 0 0
noncomputable def F.zat (n:Nat) (a0:Z2) (a1:Int):Option ((Z23)×(Z18)×Unit):=
 bif a1==(1:Int) then
  bif decide ((a0.length:Int)>(8192:Int)) then
   some ((([],(0:Int),[],(0:Int),[],(0:Int),()),((12:Int),(0:Int),()),()))
  else
   (F.ze n a0).bind fun a =>
    some (((a.1.1,a.1.2.1,a.1.2.2.1,a.1.2.2.2.1,a.1.2.2.2.2.1,a.1.2.2.2.2.2.1,()),(a.2.1.1,a.2.1.2.1,()),()))
 else
 bif a1==(2:Int) then
  bif decide ((a0.length:Int)>(8192:Int)) then
   some ((([],(0:Int),[],(0:Int),[],(0:Int),()),((12:Int),(0:Int),()),()))
  else
   (F.zf n a0).bind fun b =>
    some (((b.1.1,b.1.2.1,b.1.2.2.1,b.1.2.2.2.1,b.1.2.2.2.2.1,b.1.2.2.2.2.2.1,()),(b.2.1.1,b.2.1.2.1,()),()))
 else
 bif a1==(3:Int) then
  bif decide ((a0.length:Int)>(8192:Int)) then
   some ((([],(0:Int),[],(0:Int),[],(0:Int),()),((12:Int),(0:Int),()),()))
  else
   (F.zi n a0).bind fun c =>
    some (((c.1.1,c.1.2.1,c.1.2.2.1,c.1.2.2.2.1,c.1.2.2.2.2.1,c.1.2.2.2.2.2.1,()),(c.2.1.1,c.2.1.2.1,()),()))
 else
  some ((([],(0:Int),[],(0:Int),[],(0:Int),()),((29:Int),(0:Int),()),()))
noncomputable def F.zap (n:Nat) (a0:Z0) (a1:Z0):Option ((Z0)×(Z0)×(Bool)×Unit):=
 (O.bindex n a0 a1).bind fun a =>
  bif decide (a≥(0:Int)) then
   (sub a0 (0:Int) a).bind fun b =>
    (sub a0 (IntKind.wrap .i64 (a+(a1.length:Int))) (a0.length:Int)).bind fun c =>
     some ((b,c,true,()))
  else
   some ((a0,[],false,()))
noncomputable def F.zd.L0_line_pieces_1.step {X:Type} (n:Nat) (rec:Int→Int→Int→Z0→Z13→Z0→Nat→Nat→Option X) (k0:Int→Int→Z0→Z13→Z0→Nat→Nat→Option X) (e:Int) (b:Int) (d:Int) (g:Z0) (c:Z13) (i:Z0) (j:Nat) (f:Nat):Option X:=
 bif decide ((i.length:Int)>(0:Int)) then
  (F.zap n i ([UInt8.ofNat ((10:Int)).toNat])).bind fun a =>
   bif decide (IntKind.wrap .i64 ((IntKind.wrap .i64 (b+(a.1.length:Int))) - d)>e) then
    bif a.2.2.1 then
     bif !(decide (IntKind.wrap .i64 ((IntKind.wrap .i64 ((IntKind.wrap .i64 ((IntKind.wrap .i64 (b+(a.1.length:Int)))+(1:Int))) - (1:Int))) - d)>e)) then
      eqK (some [(.sl Y1 c (.own 2))]) (some [(.sl Y1 c (.own 2))]) (
       bif decide ((c.length+1)*40≤2 ^ 46)&&decide (0<40∧40≤2 ^ 20) then
        bif Nat.beq f c.length then
         rec e (IntKind.wrap .i64 ((IntKind.wrap .i64 (b+(a.1.length:Int)))+(1:Int))) (IntKind.wrap .i64 ((IntKind.wrap .i64 (b+(a.1.length:Int)))+(1:Int))) [] (c++([(d,IntKind.wrap .i64 ((IntKind.wrap .i64 (b+(a.1.length:Int)))+(1:Int)),[],decide (IntKind.wrap .i64 ((IntKind.wrap .i64 ((IntKind.wrap .i64 ((IntKind.wrap .i64 (b+(a.1.length:Int)))+(1:Int))) - (1:Int))) - d)>e))])) a.2.1 0 ((c++([(d,IntKind.wrap .i64 ((IntKind.wrap .i64 (b+(a.1.length:Int)))+(1:Int)),[],decide (IntKind.wrap .i64 ((IntKind.wrap .i64 ((IntKind.wrap .i64 ((IntKind.wrap .i64 (b+(a.1.length:Int)))+(1:Int))) - (1:Int))) - d)>e))])).length)
        else
         none
       else
        none)
     else
      eqK (some [(.sl Y1 c (.own 2))]) (some [(.sl Y1 c (.own 2))]) (
       bif decide ((c.length+1)*40≤2 ^ 46)&&decide (0<40∧40≤2 ^ 20) then
        bif Nat.beq f c.length then
         rec e (IntKind.wrap .i64 ((IntKind.wrap .i64 (b+(a.1.length:Int)))+(1:Int))) (IntKind.wrap .i64 ((IntKind.wrap .i64 (b+(a.1.length:Int)))+(1:Int))) [] (c++([(d,IntKind.wrap .i64 ((IntKind.wrap .i64 (b+(a.1.length:Int)))+(1:Int)),[],decide (IntKind.wrap .i64 ((IntKind.wrap .i64 ((IntKind.wrap .i64 ((IntKind.wrap .i64 (b+(a.1.length:Int)))+(1:Int))) - (1:Int))) - d)>e))])) a.2.1 0 ((c++([(d,IntKind.wrap .i64 ((IntKind.wrap .i64 (b+(a.1.length:Int)))+(1:Int)),[],decide (IntKind.wrap .i64 ((IntKind.wrap .i64 ((IntKind.wrap .i64 ((IntKind.wrap .i64 (b+(a.1.length:Int)))+(1:Int))) - (1:Int))) - d)>e))])).length)
        else
         none
       else
        none)
    else
     rec e (IntKind.wrap .i64 (b+(a.1.length:Int))) d [] c a.2.1 0 f
   else
   bif (g.length:Int)==(g.length:Int) then
    (sub g (0:Int) (g.length:Int)).bind fun h =>
     bif decide ((h.length+a.1.length)*1≤2 ^ 46)&&decide (0<1∧1≤2 ^ 20) then
      bif a.2.2.1 then
       bif !(decide (IntKind.wrap .i64 ((IntKind.wrap .i64 ((IntKind.wrap .i64 ((IntKind.wrap .i64 (b+(a.1.length:Int)))+(1:Int))) - (1:Int))) - d)>e)) then
        eqK (some [(.sl Y1 c (.own 2))]) (some [(.sl Y1 c (.own 2))]) (
         bif decide ((c.length+1)*40≤2 ^ 46)&&decide (0<40∧40≤2 ^ 20) then
          bif Nat.beq f c.length then
           rec e (IntKind.wrap .i64 ((IntKind.wrap .i64 (b+(a.1.length:Int)))+(1:Int))) (IntKind.wrap .i64 ((IntKind.wrap .i64 (b+(a.1.length:Int)))+(1:Int))) [] (c++([(d,IntKind.wrap .i64 ((IntKind.wrap .i64 (b+(a.1.length:Int)))+(1:Int)),h++a.1,decide (IntKind.wrap .i64 ((IntKind.wrap .i64 ((IntKind.wrap .i64 ((IntKind.wrap .i64 (b+(a.1.length:Int)))+(1:Int))) - (1:Int))) - d)>e))])) a.2.1 0 ((c++([(d,IntKind.wrap .i64 ((IntKind.wrap .i64 (b+(a.1.length:Int)))+(1:Int)),h++a.1,decide (IntKind.wrap .i64 ((IntKind.wrap .i64 ((IntKind.wrap .i64 ((IntKind.wrap .i64 (b+(a.1.length:Int)))+(1:Int))) - (1:Int))) - d)>e))])).length)
          else
           none
         else
          none)
       else
        eqK (some [(.sl Y1 c (.own 2))]) (some [(.sl Y1 c (.own 2))]) (
         bif decide ((c.length+1)*40≤2 ^ 46)&&decide (0<40∧40≤2 ^ 20) then
          bif Nat.beq f c.length then
           rec e (IntKind.wrap .i64 ((IntKind.wrap .i64 (b+(a.1.length:Int)))+(1:Int))) (IntKind.wrap .i64 ((IntKind.wrap .i64 (b+(a.1.length:Int)))+(1:Int))) [] (c++([(d,IntKind.wrap .i64 ((IntKind.wrap .i64 (b+(a.1.length:Int)))+(1:Int)),[],decide (IntKind.wrap .i64 ((IntKind.wrap .i64 ((IntKind.wrap .i64 ((IntKind.wrap .i64 (b+(a.1.length:Int)))+(1:Int))) - (1:Int))) - d)>e))])) a.2.1 0 ((c++([(d,IntKind.wrap .i64 ((IntKind.wrap .i64 (b+(a.1.length:Int)))+(1:Int)),[],decide (IntKind.wrap .i64 ((IntKind.wrap .i64 ((IntKind.wrap .i64 ((IntKind.wrap .i64 (b+(a.1.length:Int)))+(1:Int))) - (1:Int))) - d)>e))])).length)
          else
           none
         else
          none)
      else
       rec e (IntKind.wrap .i64 (b+(a.1.length:Int))) d (h++a.1) c a.2.1 ((h++a.1).length) f
     else
      none
   else
    none
 else
  k0 b d g c i j f
noncomputable def F.zd.L0_line_pieces_1 {X:Type} (n:Nat) (k0:Int→Int→Z0→Z13→Z0→Nat→Nat→Option X):Nat→Int→Int→Int→Z0→Z13→Z0→Nat→Nat→Option X
 | 0=>fun _ _ _ _ _ _ _ _=>none
 | m+1=>fun a b c d e f g h=>F.zd.L0_line_pieces_1.step n (F.zd.L0_line_pieces_1 n k0 m) k0 a b c d e f g h
noncomputable def F.zd.L2_sess_Sess_text_1.step {X:Type} (n:Nat) (rec:Z13→Int→Int→Int→Z10→Nat→Option X) (k0:Z10→Nat→Option X) (e:Z13) (f:Int) (d:Int) (g:Int) (c:Z10) (h:Nat):Option X:=
 bif decide (d<f) then
  (idx e d).bind fun a =>
   bif a.2.2.2 then
    bif decide ((c.length+1)*64≤2 ^ 46)&&decide (0<64∧64≤2 ^ 20) then
     bif Nat.beq h c.length then
      rec e f (IntKind.wrap .i64 (d+(1:Int))) g (c++([(2,a.1,a.2.1,[],12,a.1)])) ((c++([(2,a.1,a.2.1,[],12,a.1)])).length)
     else
      none
    else
     none
   else
    (F.zat n a.2.2.1 g).bind fun b =>
     bif !((b.2.1.1==(0:Int))&&(b.2.1.2.1==(0:Int))) then
      bif decide ((c.length+1)*64≤2 ^ 46)&&decide (0<64∧64≤2 ^ 20) then
       bif Nat.beq h c.length then
        rec e f (IntKind.wrap .i64 (d+(1:Int))) g (c++([(2,a.1,a.2.1,[],b.2.1.1,IntKind.wrap .i64 (a.1+b.2.1.2.1))])) ((c++([(2,a.1,a.2.1,[],b.2.1.1,IntKind.wrap .i64 (a.1+b.2.1.2.1))])).length)
       else
        none
      else
       none
     else
     bif decide ((c.length+1)*64≤2 ^ 46)&&decide (0<64∧64≤2 ^ 20) then
      bif Nat.beq h c.length then
       rec e f (IntKind.wrap .i64 (d+(1:Int))) g (c++([(1,a.1,a.2.1,[(b.1.1,b.1.2.1,b.1.2.2.1,b.1.2.2.2.1,b.1.2.2.2.2.1,b.1.2.2.2.2.2.1)],0,0)])) ((c++([(1,a.1,a.2.1,[(b.1.1,b.1.2.1,b.1.2.2.1,b.1.2.2.2.1,b.1.2.2.2.2.1,b.1.2.2.2.2.2.1)],0,0)])).length)
      else
       none
     else
      none
 else
  k0 c h
noncomputable def F.zd.L2_sess_Sess_text_1 {X:Type} (n:Nat) (k0:Z10→Nat→Option X):Nat→Z13→Int→Int→Int→Z10→Nat→Option X
 | 0=>fun _ _ _ _ _ _=>none
 | m+1=>fun a b c d e f=>F.zd.L2_sess_Sess_text_1.step n (F.zd.L2_sess_Sess_text_1 n k0 m) k0 a b c d e f
noncomputable def F.zd.C8 {X:Type} (n:Nat) (kr:Z10→Int→Nat→Option X) (c:Int) (a:Z10) (b:Z10) (d:Nat):Option X:=
 bif !(c==(0:Int)) then
  kr [] c 0
 else
 bif decide ((a.length+b.length)*64≤2 ^ 46)&&decide (0<64∧64≤2 ^ 20) then
  bif Nat.beq d a.length then
   kr (a++b) (0:Int) ((a++b).length)
  else
   none
 else
  none
noncomputable def F.zd.C5 {X:Type} (n:Nat) (kr:Z10→Int→Nat→Option X) (krx1:Z10→Int→Nat→Option X) (e:Int) (a:Z10) (f:Int) (g:Bool) (h:Bool) (i:Int) (d:Int) (c:Int) (j:Bool) (b:Nat):Option X:=
 bif !(e==(0:Int)) then
  kr [] e 0
 else
 bif h then
  F.zd.C8 n
   (fun k l m =>
    kr k l m) (28:Int) a [] b
 else
 bif g then
  F.zd.C8 n
   (fun o p q =>
    kr o p q) (0:Int) a [] b
 else
 bif f==(4:Int) then
  F.zd.C8 n
   (fun r s t =>
    kr r s t) (0:Int) a [] b
 else
 bif j then
  F.zd.C8 n
   (fun u v w =>
    kr u v w) (0:Int) a [] b
 else
 bif d==c then
  F.zd.C8 n
   (fun x y z =>
    kr x y z) (0:Int) a [] b
 else
 bif !(decide (IntKind.wrap .i64 (d - c)>i)) then
  F.zd.C8 n
   (fun A B C =>
    kr A B C) (0:Int) a ([(3,c,d,[],30,c)]) b
 else
  F.zd.C8 n
   (fun D E G =>
    kr D E G) (0:Int) a ([(3,c,d,[],30,c)]) b
noncomputable def F.zd.L0_chunk_Framer_frames_1.step {X:Type} (n:Nat) (rec:Int→Int→Z0→Int→Z16→Z0→Nat→Nat→Option X) (k0:Int→Z0→Int→Z16→Z0→Nat→Nat→Option X) (kr:Int→Z0→Int→Bool→Z16→Z0→Nat→Nat→Nat→Option X) (j:Int) (c:Int) (b:Z0) (h:Int) (d:Z16) (i:Z0) (k:Nat) (f:Nat):Option X:=
 bif decide ((i.length:Int)>(0:Int)) then
  bif decide (h>(0:Int)) then
   (sub i (0:Int) (if (i.length:Int)<(IntKind.wrap .i64 (h - (b.length:Int))) then (i.length:Int) else (IntKind.wrap .i64 (h - (b.length:Int))))).bind fun e =>
    bif decide ((b.length+e.length)*1≤2 ^ 46)&&decide (0<1∧1≤2 ^ 20) then
     bif Nat.beq k b.length then
      (sub i (if (i.length:Int)<(IntKind.wrap .i64 (h - (b.length:Int))) then (i.length:Int) else (IntKind.wrap .i64 (h - (b.length:Int)))) (i.length:Int)).bind fun l =>
       bif h==(0:Int) then
        rec j (IntKind.wrap .i64 (c+(e.length:Int))) (b++e) h d l ((b++e).length) f
       else
       bif decide (((b++e).length:Int)<h) then
        rec j (IntKind.wrap .i64 (c+(e.length:Int))) (b++e) h d l ((b++e).length) f
       else
       bif decide ((d.length+1)*56≤2 ^ 46)&&decide (0<56∧56≤2 ^ 20) then
        bif Nat.beq f d.length then
         rec j (IntKind.wrap .i64 (c+(e.length:Int))) [] (0:Int) (d++([(IntKind.wrap .i64 ((IntKind.wrap .i64 (c+(e.length:Int))) - ((b++e).length:Int)),IntKind.wrap .i64 (c+(e.length:Int)),b++e,(0,0))])) l 0 ((d++([(IntKind.wrap .i64 ((IntKind.wrap .i64 (c+(e.length:Int))) - ((b++e).length:Int)),IntKind.wrap .i64 (c+(e.length:Int)),b++e,(0,0))])).length)
        else
         none
       else
        none
     else
      none
    else
     none
  else
   (sub i (0:Int) (1:Int)).bind fun a =>
    bif decide ((b.length+a.length)*1≤2 ^ 46)&&decide (0<1∧1≤2 ^ 20) then
     bif Nat.beq k b.length then
      (F.zal n (b++a)).bind fun g =>
       bif !((g.2.1.1==(0:Int))&&(g.2.1.2.1==(0:Int))) then
        bif !(g.2.1.1==(0:Int)) then
         bif decide ((d.length+1)*56≤2 ^ 46)&&decide (0<56∧56≤2 ^ 20) then
          bif Nat.beq f d.length then
           kr (IntKind.wrap .i64 (c+(a.length:Int))) [] (0:Int) true (d++([(IntKind.wrap .i64 ((IntKind.wrap .i64 (c+(a.length:Int))) - ((b++a).length:Int)),IntKind.wrap .i64 (c+(a.length:Int)),[],(g.2.1.1,IntKind.wrap .i64 ((IntKind.wrap .i64 (c+(a.length:Int))) - (1:Int))))])) [] 0 ((d++([(IntKind.wrap .i64 ((IntKind.wrap .i64 (c+(a.length:Int))) - ((b++a).length:Int)),IntKind.wrap .i64 (c+(a.length:Int)),[],(g.2.1.1,IntKind.wrap .i64 ((IntKind.wrap .i64 (c+(a.length:Int))) - (1:Int))))])).length) 0
          else
           none
         else
          none
        else
        bif h==(0:Int) then
         rec j (IntKind.wrap .i64 (c+(a.length:Int))) (b++a) h d [] ((b++a).length) f
        else
        bif decide (((b++a).length:Int)<h) then
         rec j (IntKind.wrap .i64 (c+(a.length:Int))) (b++a) h d [] ((b++a).length) f
        else
        bif decide ((d.length+1)*56≤2 ^ 46)&&decide (0<56∧56≤2 ^ 20) then
         bif Nat.beq f d.length then
          rec j (IntKind.wrap .i64 (c+(a.length:Int))) [] (0:Int) (d++([(IntKind.wrap .i64 ((IntKind.wrap .i64 (c+(a.length:Int))) - ((b++a).length:Int)),IntKind.wrap .i64 (c+(a.length:Int)),b++a,(0,0))])) [] 0 ((d++([(IntKind.wrap .i64 ((IntKind.wrap .i64 (c+(a.length:Int))) - ((b++a).length:Int)),IntKind.wrap .i64 (c+(a.length:Int)),b++a,(0,0))])).length)
         else
          none
        else
         none
       else
       bif decide (g.1>(0:Int)) then
        bif decide ((IntKind.wrap .i64 ((IntKind.wrap .i64 (g.1 - ((b++a).length:Int))) - (4:Int)))>j) then
         bif decide ((d.length+1)*56≤2 ^ 46)&&decide (0<56∧56≤2 ^ 20) then
          bif Nat.beq f d.length then
           kr (IntKind.wrap .i64 (c+(a.length:Int))) [] (0:Int) true (d++([(IntKind.wrap .i64 ((IntKind.wrap .i64 (c+(a.length:Int))) - ((b++a).length:Int)),IntKind.wrap .i64 (c+(a.length:Int)),[],(12,IntKind.wrap .i64 ((IntKind.wrap .i64 (c+(a.length:Int))) - (1:Int))))])) [] 0 ((d++([(IntKind.wrap .i64 ((IntKind.wrap .i64 (c+(a.length:Int))) - ((b++a).length:Int)),IntKind.wrap .i64 (c+(a.length:Int)),[],(12,IntKind.wrap .i64 ((IntKind.wrap .i64 (c+(a.length:Int))) - (1:Int))))])).length) 0
          else
           none
         else
          none
        else
         (sub i (1:Int) (i.length:Int)).bind fun m =>
          bif g.1==(0:Int) then
           rec j (IntKind.wrap .i64 (c+(a.length:Int))) (b++a) g.1 d m ((b++a).length) f
          else
          bif decide (((b++a).length:Int)<g.1) then
           rec j (IntKind.wrap .i64 (c+(a.length:Int))) (b++a) g.1 d m ((b++a).length) f
          else
          bif decide ((d.length+1)*56≤2 ^ 46)&&decide (0<56∧56≤2 ^ 20) then
           bif Nat.beq f d.length then
            rec j (IntKind.wrap .i64 (c+(a.length:Int))) [] (0:Int) (d++([(IntKind.wrap .i64 ((IntKind.wrap .i64 (c+(a.length:Int))) - ((b++a).length:Int)),IntKind.wrap .i64 (c+(a.length:Int)),b++a,(0,0))])) m 0 ((d++([(IntKind.wrap .i64 ((IntKind.wrap .i64 (c+(a.length:Int))) - ((b++a).length:Int)),IntKind.wrap .i64 (c+(a.length:Int)),b++a,(0,0))])).length)
           else
            none
          else
           none
       else
        (sub i (1:Int) (i.length:Int)).bind fun o =>
         bif g.1==(0:Int) then
          rec j (IntKind.wrap .i64 (c+(a.length:Int))) (b++a) g.1 d o ((b++a).length) f
         else
         bif decide (((b++a).length:Int)<g.1) then
          rec j (IntKind.wrap .i64 (c+(a.length:Int))) (b++a) g.1 d o ((b++a).length) f
         else
         bif decide ((d.length+1)*56≤2 ^ 46)&&decide (0<56∧56≤2 ^ 20) then
          bif Nat.beq f d.length then
           rec j (IntKind.wrap .i64 (c+(a.length:Int))) [] (0:Int) (d++([(IntKind.wrap .i64 ((IntKind.wrap .i64 (c+(a.length:Int))) - ((b++a).length:Int)),IntKind.wrap .i64 (c+(a.length:Int)),b++a,(0,0))])) o 0 ((d++([(IntKind.wrap .i64 ((IntKind.wrap .i64 (c+(a.length:Int))) - ((b++a).length:Int)),IntKind.wrap .i64 (c+(a.length:Int)),b++a,(0,0))])).length)
          else
           none
         else
          none
     else
      none
    else
     none
 else
  k0 c b h d i k f
noncomputable def F.zd.L0_chunk_Framer_frames_1 {X:Type} (n:Nat) (k0:Int→Z0→Int→Z16→Z0→Nat→Nat→Option X) (kr:Int→Z0→Int→Bool→Z16→Z0→Nat→Nat→Nat→Option X):Nat→Int→Int→Z0→Int→Z16→Z0→Nat→Nat→Option X
 | 0=>fun _ _ _ _ _ _ _ _=>none
 | m+1=>fun a b c d e f g h=>F.zd.L0_chunk_Framer_frames_1.step n (F.zd.L0_chunk_Framer_frames_1 n k0 kr m) k0 kr a b c d e f g h
noncomputable def F.zd.L2_sess_Sess_binary_1.step {X:Type} (n:Nat) (rec:Z16→Int→Int→Bool→Z10→Nat→Option X) (k0:Bool→Z10→Nat→Option X) (kr:Bool→Z10→Nat→Option X) (f:Z16) (g:Int) (e:Int) (h:Bool) (b:Z10) (d:Nat):Option X:=
 bif decide (e<g) then
  (idx f e).bind fun a =>
   bif (a.2.2.2.1==(0:Int))&&(a.2.2.2.2==(0:Int)) then
    (F.zam n a.2.2.1).bind fun c =>
     bif (c.2.1.1==(0:Int))&&(c.2.1.2.1==(0:Int)) then
      bif decide ((b.length+1)*64≤2 ^ 46)&&decide (0<64∧64≤2 ^ 20) then
       bif Nat.beq d b.length then
        rec f g (IntKind.wrap .i64 (e+(1:Int))) false (b++([(1,a.1,a.2.1,c.1,0,0)])) ((b++([(1,a.1,a.2.1,c.1,0,0)])).length)
       else
        none
      else
       none
     else
     bif decide ((b.length+1)*64≤2 ^ 46)&&decide (0<64∧64≤2 ^ 20) then
      bif Nat.beq d b.length then
       kr true (b++([(2,a.1,a.2.1,[],c.2.1.1,IntKind.wrap .i64 (a.1+c.2.1.2.1))])) ((b++([(2,a.1,a.2.1,[],c.2.1.1,IntKind.wrap .i64 (a.1+c.2.1.2.1))])).length)
      else
       none
     else
      none
   else
   bif decide ((b.length+1)*64≤2 ^ 46)&&decide (0<64∧64≤2 ^ 20) then
    bif Nat.beq d b.length then
     kr true (b++([(2,a.1,a.2.1,[],a.2.2.2.1,a.2.2.2.2)])) ((b++([(2,a.1,a.2.1,[],a.2.2.2.1,a.2.2.2.2)])).length)
    else
     none
   else
    none
 else
  k0 h b d
noncomputable def F.zd.L2_sess_Sess_binary_1 {X:Type} (n:Nat) (k0:Bool→Z10→Nat→Option X) (kr:Bool→Z10→Nat→Option X):Nat→Z16→Int→Int→Bool→Z10→Nat→Option X
 | 0=>fun _ _ _ _ _ _=>none
 | m+1=>fun a b c d e f=>F.zd.L2_sess_Sess_binary_1.step n (F.zd.L2_sess_Sess_binary_1 n k0 kr m) k0 kr a b c d e f
noncomputable def F.zd.C5_1 {X:Type} (n:Nat) (kr:Z10→Int→Nat→Option X) (krx1:Z10→Int→Nat→Option X) (e:Int) (a:Z10) (f:Int) (g:Bool) (h:Bool) (c:Int) (d:Z0) (i:Bool) (b:Nat):Option X:=
 bif !(e==(0:Int)) then
  kr [] e 0
 else
 bif h then
  F.zd.C8 n
   (fun j k l =>
    kr j k l) (28:Int) a [] b
 else
 bif g then
  F.zd.C8 n
   (fun m o p =>
    kr m o p) (0:Int) a [] b
 else
 bif f==(4:Int) then
  bif i then
   F.zd.C8 n
    (fun q r s =>
     kr q r s) (0:Int) a [] b
  else
  bif (d.length:Int)==(0:Int) then
   F.zd.C8 n
    (fun t u v =>
     kr t u v) (0:Int) a [] b
  else
   F.zd.C8 n
    (fun w x y =>
     kr w x y) (0:Int) a ([(3,IntKind.wrap .i64 (c - (d.length:Int)),c,[],30,IntKind.wrap .i64 (c - (d.length:Int)))]) b
 else
  F.zd.C8 n
   (fun z A B =>
    kr z A B) (0:Int) a [] b
noncomputable def F.zd (n:Nat) (a0:Int) (a1:Int) (a2:Z0):Option ((Z10)×(Int)×Unit):=
 bif a0 == (1:Int) then
  bif a0 == (1:Int) then
   bif decide (a1<(1:Int)) then
    some (([],(10:Int),()))
   else
   bif decide (a1>(8192:Int)) then
    some (([],(10:Int),()))
   else
    F.zd.L0_line_pieces_1 n
     (fun aE aG e1 t e2 e3 e4 =>
      F.zd.L2_sess_Sess_text_1 n
       (fun aH aI =>
        F.zd.C5 n
         (fun aJ aK e5 =>
          some ((aJ,aK,())))
         (fun aL aM e6 =>
          some ((aL,aM,()))) (0:Int) aH a0 false false a1 aE aG false aI) n t (t.length:Int) (0:Int) a0 [] 0) n a1 (0:Int) (0:Int) [] [] a2 0 0
  else
  bif a0 == (4:Int) then
   bif decide (a1<(1:Int)) then
    some (([],(10:Int),()))
   else
   bif decide (a1>(1048576:Int)) then
    some (([],(10:Int),()))
   else
    (F.zag n a2).bind fun aN =>
     F.zd.L0_chunk_Framer_frames_1 n
      (fun a u e7 v e8 e9 eA =>
       F.zd.L2_sess_Sess_binary_1 n
        (fun g w x =>
         bif g then
          F.zd.C5_1 n
           (fun aO aP eB =>
            some ((aO,aP,())))
           (fun aQ aR eC =>
            some ((aQ,aR,()))) (0:Int) w a0 g false a [] true x
         else
          F.zd.C5_1 n
           (fun aS aT eD =>
            some ((aS,aT,())))
           (fun aU aV eE =>
            some ((aU,aV,()))) (0:Int) w a0 g false a u false x)
        (fun h y z =>
         bif h then
          F.zd.C5_1 n
           (fun aW aY eG =>
            some ((aW,aY,())))
           (fun aZ b0 eH =>
            some ((aZ,b0,()))) (0:Int) y a0 h false a [] true z
         else
          F.zd.C5_1 n
           (fun b1 b2 eI =>
            some ((b1,b2,())))
           (fun b3 b4 eJ =>
            some ((b3,b4,()))) (0:Int) y a0 h false a u false z) n v (v.length:Int) (0:Int) false [] 0)
      (fun b A eK B C eL eM eN eO =>
       F.zd.L2_sess_Sess_binary_1 n
        (fun i D E =>
         bif i then
          F.zd.C5_1 n
           (fun b5 b6 eP =>
            some ((b5,b6,())))
           (fun b7 b8 eQ =>
            some ((b7,b8,()))) (0:Int) D a0 i false b [] true E
         else
          F.zd.C5_1 n
           (fun b9 bA eR =>
            some ((b9,bA,())))
           (fun bB bC eS =>
            some ((bB,bC,()))) (0:Int) D a0 i false b A B E)
        (fun j G H =>
         bif j then
          F.zd.C5_1 n
           (fun bD bE eT =>
            some ((bD,bE,())))
           (fun bG bH eU =>
            some ((bG,bH,()))) (0:Int) G a0 j false b [] true H
         else
          F.zd.C5_1 n
           (fun bI bJ eV =>
            some ((bI,bJ,())))
           (fun bK bL eW =>
            some ((bK,bL,()))) (0:Int) G a0 j false b A B H) n C (C.length:Int) (0:Int) false [] 0) n a1 (0:Int) [] (0:Int) [] aN 0 0
  else
   some (([],(29:Int),()))
 else
 bif a0 == (2:Int) then
  bif a0 == (2:Int) then
   bif decide (a1<(1:Int)) then
    some (([],(10:Int),()))
   else
   bif decide (a1>(8192:Int)) then
    some (([],(10:Int),()))
   else
    F.zd.L0_line_pieces_1 n
     (fun bM bN eY I eZ f0 f1 =>
      F.zd.L2_sess_Sess_text_1 n
       (fun bO bP =>
        F.zd.C5 n
         (fun bQ bR f2 =>
          some ((bQ,bR,())))
         (fun bS bT f3 =>
          some ((bS,bT,()))) (0:Int) bO a0 false false a1 bM bN false bP) n I (I.length:Int) (0:Int) a0 [] 0) n a1 (0:Int) (0:Int) [] [] a2 0 0
  else
  bif a0 == (4:Int) then
   bif decide (a1<(1:Int)) then
    some (([],(10:Int),()))
   else
   bif decide (a1>(1048576:Int)) then
    some (([],(10:Int),()))
   else
    (F.zag n a2).bind fun bU =>
     F.zd.L0_chunk_Framer_frames_1 n
      (fun c J f4 K f5 f6 f7 =>
       F.zd.L2_sess_Sess_binary_1 n
        (fun k L M =>
         bif k then
          F.zd.C5_1 n
           (fun bV bW f8 =>
            some ((bV,bW,())))
           (fun bY bZ f9 =>
            some ((bY,bZ,()))) (0:Int) L a0 k false c [] true M
         else
          F.zd.C5_1 n
           (fun c0 c1 fA =>
            some ((c0,c1,())))
           (fun c2 c3 fB =>
            some ((c2,c3,()))) (0:Int) L a0 k false c J false M)
        (fun l N O =>
         bif l then
          F.zd.C5_1 n
           (fun c4 c5 fC =>
            some ((c4,c5,())))
           (fun c6 c7 fD =>
            some ((c6,c7,()))) (0:Int) N a0 l false c [] true O
         else
          F.zd.C5_1 n
           (fun c8 c9 fE =>
            some ((c8,c9,())))
           (fun cA cB fG =>
            some ((cA,cB,()))) (0:Int) N a0 l false c J false O) n K (K.length:Int) (0:Int) false [] 0)
      (fun d P fH Q R fI fJ fK fL =>
       F.zd.L2_sess_Sess_binary_1 n
        (fun m S T =>
         bif m then
          F.zd.C5_1 n
           (fun cC cD fM =>
            some ((cC,cD,())))
           (fun cE cG fN =>
            some ((cE,cG,()))) (0:Int) S a0 m false d [] true T
         else
          F.zd.C5_1 n
           (fun cH cI fO =>
            some ((cH,cI,())))
           (fun cJ cK fP =>
            some ((cJ,cK,()))) (0:Int) S a0 m false d P Q T)
        (fun o U V =>
         bif o then
          F.zd.C5_1 n
           (fun cL cM fQ =>
            some ((cL,cM,())))
           (fun cN cO fR =>
            some ((cN,cO,()))) (0:Int) U a0 o false d [] true V
         else
          F.zd.C5_1 n
           (fun cP cQ fS =>
            some ((cP,cQ,())))
           (fun cR cS fT =>
            some ((cR,cS,()))) (0:Int) U a0 o false d P Q V) n R (R.length:Int) (0:Int) false [] 0) n a1 (0:Int) [] (0:Int) [] bU 0 0
  else
   some (([],(29:Int),()))
 else
 bif a0 == (3:Int) then
  bif decide (a1<(1:Int)) then
   some (([],(10:Int),()))
  else
  bif decide (a1>(8192:Int)) then
   some (([],(10:Int),()))
  else
   F.zd.L0_line_pieces_1 n
    (fun cT cU fU W fV fW fY =>
     F.zd.L2_sess_Sess_text_1 n
      (fun cV cW =>
       F.zd.C5 n
        (fun cY cZ fZ =>
         some ((cY,cZ,())))
        (fun d0 d1 g0 =>
         some ((d0,d1,()))) (0:Int) cV a0 false false a1 cT cU false cW) n W (W.length:Int) (0:Int) a0 [] 0) n a1 (0:Int) (0:Int) [] [] a2 0 0
 else
 bif a0 == (4:Int) then
  bif decide (a1<(1:Int)) then
   some (([],(10:Int),()))
  else
  bif decide (a1>(1048576:Int)) then
   some (([],(10:Int),()))
  else
   (F.zag n a2).bind fun d2 =>
    F.zd.L0_chunk_Framer_frames_1 n
     (fun e Y g1 Z g2 g3 g4 =>
      F.zd.L2_sess_Sess_binary_1 n
       (fun p a3 a4 =>
        bif p then
         F.zd.C5_1 n
          (fun d3 d4 g5 =>
           some ((d3,d4,())))
          (fun d5 d6 g6 =>
           some ((d5,d6,()))) (0:Int) a3 a0 p false e [] true a4
        else
         F.zd.C5_1 n
          (fun d7 d8 g7 =>
           some ((d7,d8,())))
          (fun d9 dA g8 =>
           some ((d9,dA,()))) (0:Int) a3 a0 p false e Y false a4)
       (fun q a5 a6 =>
        bif q then
         F.zd.C5_1 n
          (fun dB dC g9 =>
           some ((dB,dC,())))
          (fun dD dE gA =>
           some ((dD,dE,()))) (0:Int) a5 a0 q false e [] true a6
        else
         F.zd.C5_1 n
          (fun dG dH gB =>
           some ((dG,dH,())))
          (fun dI dJ gC =>
           some ((dI,dJ,()))) (0:Int) a5 a0 q false e Y false a6) n Z (Z.length:Int) (0:Int) false [] 0)
     (fun f a7 gD a8 a9 gE gG gH gI =>
      F.zd.L2_sess_Sess_binary_1 n
       (fun r aA aB =>
        bif r then
         F.zd.C5_1 n
          (fun dK dL gJ =>
           some ((dK,dL,())))
          (fun dM dN gK =>
           some ((dM,dN,()))) (0:Int) aA a0 r false f [] true aB
        else
         F.zd.C5_1 n
          (fun dO dP gL =>
           some ((dO,dP,())))
          (fun dQ dR gM =>
           some ((dQ,dR,()))) (0:Int) aA a0 r false f a7 a8 aB)
       (fun s aC aD =>
        bif s then
         F.zd.C5_1 n
          (fun dS dT gN =>
           some ((dS,dT,())))
          (fun dU dV gO =>
           some ((dU,dV,()))) (0:Int) aC a0 s false f [] true aD
        else
         F.zd.C5_1 n
          (fun dW dY gP =>
           some ((dW,dY,())))
          (fun dZ e0 gQ =>
           some ((dZ,e0,()))) (0:Int) aC a0 s false f a7 a8 aD) n a9 (a9.length:Int) (0:Int) false [] 0) n a1 (0:Int) [] (0:Int) [] d2 0 0
 else
  some (([],(29:Int),()))
noncomputable def F.zh.L4.step {X:Type} (n:Nat) (rec:Int→Z2→Int→Z4→Int→Z6→Int→Z2→Int→Z4→Int→Z6→Int→Option X) (k0:Z2→Int→Z4→Int→Z6→Int→Z2→Int→Z4→Int→Z6→Int→Option X) (kr:Bool→Z2→Int→Z4→Int→Z6→Int→Z2→Int→Z4→Int→Z6→Int→Option X) (b:Int) (d:Z2) (e:Int) (a:Z4) (f:Int) (g:Z6) (h:Int) (i:Z2) (j:Int) (c:Z4) (k:Int) (l:Z6) (m:Int):Option X:=
 bif decide (b<(a.length:Int)) then
  (idx a b).bind fun o =>
   (idx c b).bind fun p =>
    bif !((o.1==p.1)&&((o.2.1==p.2.1)&&(o.2.2==p.2.2))) then
     kr false d e a f g h i j c k l m
    else
     rec (IntKind.wrap .i64 (b+(1:Int))) d e a f g h i j c k l m
 else
  k0 d e a f g h i j c k l m
noncomputable def F.zh.L4 {X:Type} (n:Nat) (k0:Z2→Int→Z4→Int→Z6→Int→Z2→Int→Z4→Int→Z6→Int→Option X) (kr:Bool→Z2→Int→Z4→Int→Z6→Int→Z2→Int→Z4→Int→Z6→Int→Option X):Nat→Int→Z2→Int→Z4→Int→Z6→Int→Z2→Int→Z4→Int→Z6→Int→Option X
 | 0=>fun _ _ _ _ _ _ _ _ _ _ _ _ _=>none
 | m+1=>fun a b c d e f g h i j k l o=>F.zh.L4.step n (F.zh.L4 n k0 kr m) k0 kr a b c d e f g h i j k l o
noncomputable def F.zh.L9.step {X:Type} (n:Nat) (rec:Int→Z2→Int→Z4→Int→Z6→Int→Z2→Int→Z4→Int→Z6→Int→Option X) (k2:Z2→Int→Z4→Int→Z6→Int→Z2→Int→Z4→Int→Z6→Int→Option X) (kr:Bool→Z2→Int→Z4→Int→Z6→Int→Z2→Int→Z4→Int→Z6→Int→Option X) (b:Int) (d:Z2) (e:Int) (f:Z4) (g:Int) (a:Z6) (h:Int) (i:Z2) (j:Int) (k:Z4) (l:Int) (c:Z6) (m:Int):Option X:=
 bif decide (b<(a.length:Int)) then
  (idx a b).bind fun o =>
   (idx c b).bind fun p =>
    bif !((o.1==p.1)&&(o.2==p.2)) then
     kr false d e f g a h i j k l c m
    else
     rec (IntKind.wrap .i64 (b+(1:Int))) d e f g a h i j k l c m
 else
  k2 d e f g a h i j k l c m
noncomputable def F.zh.L9 {X:Type} (n:Nat) (k2:Z2→Int→Z4→Int→Z6→Int→Z2→Int→Z4→Int→Z6→Int→Option X) (kr:Bool→Z2→Int→Z4→Int→Z6→Int→Z2→Int→Z4→Int→Z6→Int→Option X):Nat→Int→Z2→Int→Z4→Int→Z6→Int→Z2→Int→Z4→Int→Z6→Int→Option X
 | 0=>fun _ _ _ _ _ _ _ _ _ _ _ _ _=>none
 | m+1=>fun a b c d e f g h i j k l o=>F.zh.L9.step n (F.zh.L9 n k2 kr m) k2 kr a b c d e f g h i j k l o
noncomputable def F.zh (n:Nat) (a0:Z23) (a1:Z23):Option (Bool):=
 bif !(a0.1==a1.1) then
  some (false)
 else
 bif !(a0.2.1==a1.2.1) then
  some (false)
 else
 bif !(a0.2.2.2.1==a1.2.2.2.1) then
  some (false)
 else
 bif !(a0.2.2.2.2.2.1==a1.2.2.2.2.2.1) then
  some (false)
 else
 bif !((a0.2.2.1.length:Int)==(a1.2.2.1.length:Int)) then
  some (false)
 else
 bif !((a0.2.2.2.2.1.length:Int)==(a1.2.2.2.2.1.length:Int)) then
  some (false)
 else
  F.zh.L4 n
   (fun a b c d e f g h i j k l =>
    F.zh.L9 n
     (fun p q r s t u v w x y z A =>
      some (true))
     (fun m B C D E G H I J K L M N =>
      some (m)) n (0:Int) a b c d e f g h i j k l)
   (fun o O P Q R S T U V W Y Z a2 =>
    some (o)) n (0:Int) a0.1 a0.2.1 a0.2.2.1 a0.2.2.2.1 a0.2.2.2.2.1 a0.2.2.2.2.2.1 a1.1 a1.2.1 a1.2.2.1 a1.2.2.2.1 a1.2.2.2.2.1 a1.2.2.2.2.2.1
noncomputable def F.zp.L4.step {X:Type} (n:Nat) (rec:Z8→Z8→Int→Option X) (k0:Unit→Option X) (kr:Bool→Option X) (d:Z8) (e:Z8) (c:Int):Option X:=
 bif decide (c<(d.length:Int)) then
  (idx d c).bind fun a =>
   (idx e c).bind fun b =>
    (F.zh n (a.1,a.2.1,a.2.2.1,a.2.2.2.1,a.2.2.2.2.1,a.2.2.2.2.2,()) (b.1,b.2.1,b.2.2.1,b.2.2.2.1,b.2.2.2.2.1,b.2.2.2.2.2,())).bind fun f =>
     bif !f then
      kr false
     else
      rec d e (IntKind.wrap .i64 (c+(1:Int)))
 else
  k0 ()
noncomputable def F.zp.L4 {X:Type} (n:Nat) (k0:Unit→Option X) (kr:Bool→Option X):Nat→Z8→Z8→Int→Option X
 | 0=>fun _ _ _=>none
 | m+1=>fun a b c=>F.zp.L4.step n (F.zp.L4 n k0 kr m) k0 kr a b c
noncomputable def F.zp (n:Nat) (a0:Z8) (a1:Z8):Option (Bool):=
 bif !((a0.length:Int)==(a1.length:Int)) then
  some (false)
 else
  F.zp.L4 n
   (fun (_:Unit) =>
    some (true))
   (fun a =>
    some (a)) n a0 a1 (0:Int)
noncomputable def F.zao (n:Nat) (a0:Z28) (a1:Z28):Option (Bool):=
 bif a0.1==a1.1 then
  bif a0.2.1==a1.2.1 then
   bif a0.2.2.1==a1.2.2.1 then
    bif a0.2.2.2.2.1==a1.2.2.2.2.1 then
     bif a0.2.2.2.2.2.1==a1.2.2.2.2.2.1 then
      (F.zp n a0.2.2.2.1 a1.2.2.2.1).bind fun a =>
       some (a)
     else
      some (false)
    else
     some (false)
   else
    some (false)
  else
   some (false)
 else
  some (false)
noncomputable def F.zaf (n:Nat):Option (Bool):=
 (F.zd n (1 : Int) (100:Int) ([UInt8.ofNat ((97:Int)).toNat,UInt8.ofNat ((58:Int)).toNat,UInt8.ofNat ((49:Int)).toNat,UInt8.ofNat ((124:Int)).toNat,UInt8.ofNat ((99:Int)).toNat,UInt8.ofNat ((10:Int)).toNat,UInt8.ofNat ((98:Int)).toNat,UInt8.ofNat ((10:Int)).toNat,UInt8.ofNat ((99:Int)).toNat])).bind fun a =>
  (F.zd n (4 : Int) (100:Int) ([UInt8.ofNat ((77:Int)).toNat,UInt8.ofNat ((0:Int)).toNat,UInt8.ofNat ((5:Int)).toNat])).bind fun e =>
   bif !(a.2.1==(0:Int)) then
    some (false)
   else
   bif !((a.1.length:Int)==(3:Int)) then
    some (false)
   else
    (idx a.1 (0 : Int)).bind fun f =>
     bif !(f.1==(1:Int)) then
      some (false)
     else
      (idx a.1 (0 : Int)).bind fun g =>
       bif !(g.2.2.1==(6:Int)) then
        some (false)
       else
        (idx a.1 (0 : Int)).bind fun h =>
         bif !((h.2.2.2.1.length:Int)==(1:Int)) then
          some (false)
         else
          (idx a.1 (0 : Int)).bind fun i =>
           (idx i.2.2.2.1 (0:Int)).bind fun j =>
            bif !(j.1==([97])) then
             some (false)
            else
             (idx a.1 (1:Int)).bind fun b =>
              (F.zao n (b.1,b.2.1,b.2.2.1,b.2.2.2.1,b.2.2.2.2.1,b.2.2.2.2.2,()) ((2:Int),(6:Int),(8:Int),[],(11:Int),(7:Int),())).bind fun k =>
               bif k then
                (idx a.1 (2:Int)).bind fun c =>
                 (F.zao n (c.1,c.2.1,c.2.2.1,c.2.2.2.1,c.2.2.2.2.1,c.2.2.2.2.2,()) ((3:Int),(8:Int),(9:Int),[],(30:Int),(8:Int),())).bind fun l =>
                  bif l then
                   bif e.2.1==(0:Int) then
                    bif (e.1.length:Int)==(1:Int) then
                     (idx e.1 (0:Int)).bind fun d =>
                      (F.zao n (d.1,d.2.1,d.2.2.1,d.2.2.2.1,d.2.2.2.2.1,d.2.2.2.2.2,()) ((2:Int),(0:Int),(2:Int),[],(22:Int),(1:Int),())).bind fun m =>
                       some (m)
                    else
                     some (false)
                   else
                    some (false)
                  else
                   some (false)
               else
                some (false)
noncomputable def F.zw.L4.step {X:Type} (n:Nat) (rec:Z0→Z11→Z1→Int→Int→Nat→Option X) (k0:Z0→Z1→Int→Nat→Option X) (c:Z0) (d:Z11) (b:Z1) (a:Int) (e:Int) (f:Nat):Option X:=
 bif decide (e<(d.length:Int)) then
  (idx d e).bind fun g =>
   bif decide (((IntKind.wrap .i64 ((g.tmod (40:Int))+(40:Int))).tmod (40:Int))>(IntKind.wrap .i64 ((c.length:Int) - a))) then
    (sub c a (IntKind.wrap .i64 (a+(IntKind.wrap .i64 ((c.length:Int) - a))))).bind fun h =>
     bif decide ((b.length+1)*24≤2 ^ 46)&&decide (0<24∧24≤2 ^ 20) then
      bif Nat.beq f b.length then
       rec c d (b++([h])) (IntKind.wrap .i64 (a+(IntKind.wrap .i64 ((c.length:Int) - a)))) (IntKind.wrap .i64 (e+(1:Int))) ((b++([h])).length)
      else
       none
     else
      none
   else
    (sub c a (IntKind.wrap .i64 (a+((IntKind.wrap .i64 ((g.tmod (40:Int))+(40:Int))).tmod (40:Int))))).bind fun i =>
     bif decide ((b.length+1)*24≤2 ^ 46)&&decide (0<24∧24≤2 ^ 20) then
      bif Nat.beq f b.length then
       rec c d (b++([i])) (IntKind.wrap .i64 (a+((IntKind.wrap .i64 ((g.tmod (40:Int))+(40:Int))).tmod (40:Int)))) (IntKind.wrap .i64 (e+(1:Int))) ((b++([i])).length)
      else
       none
     else
      none
 else
  k0 c b a f
noncomputable def F.zw.L4 {X:Type} (n:Nat) (k0:Z0→Z1→Int→Nat→Option X):Nat→Z0→Z11→Z1→Int→Int→Nat→Option X
 | 0=>fun _ _ _ _ _ _=>none
 | m+1=>fun a b c d e f=>F.zw.L4.step n (F.zw.L4 n k0 m) k0 a b c d e f
noncomputable def F.zw (n:Nat) (a0:Z0) (a1:Z11):Option (Z1):=
 F.zw.L4 n
  (fun b a c d =>
   (sub b c (b.length:Int)).bind fun e =>
    bif decide ((a.length+1)*24≤2 ^ 46)&&decide (0<24∧24≤2 ^ 20) then
     bif Nat.beq d a.length then
      some (a++([e]))
     else
      none
    else
     none) n a0 a1 [] (0:Int) (0:Int) 0
noncomputable def F.zu.L4.step {X:Type} (n:Nat) (rec:Z10→Z10→Int→Option X) (k0:Unit→Option X) (kr:Bool→Option X) (d:Z10) (e:Z10) (c:Int):Option X:=
 bif decide (c<(d.length:Int)) then
  (idx d c).bind fun a =>
   (idx e c).bind fun b =>
    (F.zao n (a.1,a.2.1,a.2.2.1,a.2.2.2.1,a.2.2.2.2.1,a.2.2.2.2.2,()) (b.1,b.2.1,b.2.2.1,b.2.2.2.1,b.2.2.2.2.1,b.2.2.2.2.2,())).bind fun f =>
     bif !f then
      kr false
     else
      rec d e (IntKind.wrap .i64 (c+(1:Int)))
 else
  k0 ()
noncomputable def F.zu.L4 {X:Type} (n:Nat) (k0:Unit→Option X) (kr:Bool→Option X):Nat→Z10→Z10→Int→Option X
 | 0=>fun _ _ _=>none
 | m+1=>fun a b c=>F.zu.L4.step n (F.zu.L4 n k0 kr m) k0 kr a b c
noncomputable def F.zu (n:Nat) (a0:Z10) (a1:Z10):Option (Bool):=
 bif !((a0.length:Int)==(a1.length:Int)) then
  some (false)
 else
  F.zu.L4 n
   (fun (_:Unit) =>
    some (true))
   (fun a =>
    some (a)) n a0 a1 (0:Int)
noncomputable def F.zb.C4 {X:Type} (n:Nat) (kr:Bool→Option X) (a:Int):Option X:=
 bif !(a==(0:Int)) then
  (F.zaf n ).bind fun b =>
   kr b
 else
  kr false
noncomputable def F.zb.C31 {X:Type} (n:Nat) (kr:Bool→Option X) (kn:Unit→Option X) (e:Int) (h:Z10) (f:Int) (i:Z10) (g:Int) (a:Int) (b:Bool) (c:Bool) (d:Z0):Option X:=
 (F.zu n h i).bind fun j =>
  bif !j then
   kr false
  else
  bif b then
   bif b then
    bif decide ((0:Int)>e) then
     kr false
    else
    bif g==f then
     bif b then
      kn ()
     else
     bif c then
      kn ()
     else
     bif a==(4:Int) then
      kn ()
     else
     bif !((d.length:Int)==(0:Int)) then
      kr false
     else
      kn ()
    else
     kn ()
   else
   bif c then
    bif decide ((0:Int)>e) then
     kr false
    else
    bif g==f then
     bif b then
      kn ()
     else
     bif c then
      kn ()
     else
     bif a==(4:Int) then
      kn ()
     else
     bif !((d.length:Int)==(0:Int)) then
      kr false
     else
      kn ()
    else
     kn ()
   else
   bif a==(4:Int) then
    bif decide ((0:Int)>e) then
     kr false
    else
    bif g==f then
     bif b then
      kn ()
     else
     bif c then
      kn ()
     else
     bif a==(4:Int) then
      kn ()
     else
     bif !((d.length:Int)==(0:Int)) then
      kr false
     else
      kn ()
    else
     kn ()
   else
   bif decide ((d.length:Int)>e) then
    kr false
   else
   bif g==f then
    bif b then
     kn ()
    else
    bif c then
     kn ()
    else
    bif a==(4:Int) then
     kn ()
    else
    bif !((d.length:Int)==(0:Int)) then
     kr false
    else
     kn ()
   else
    kn ()
  else
  bif c then
   bif b then
    bif decide ((0:Int)>e) then
     kr false
    else
    bif g==f then
     bif b then
      kn ()
     else
     bif c then
      kn ()
     else
     bif a==(4:Int) then
      kn ()
     else
     bif !((d.length:Int)==(0:Int)) then
      kr false
     else
      kn ()
    else
     kn ()
   else
   bif c then
    bif decide ((0:Int)>e) then
     kr false
    else
    bif g==f then
     bif b then
      kn ()
     else
     bif c then
      kn ()
     else
     bif a==(4:Int) then
      kn ()
     else
     bif !((d.length:Int)==(0:Int)) then
      kr false
     else
      kn ()
    else
     kn ()
   else
   bif a==(4:Int) then
    bif decide ((0:Int)>e) then
     kr false
    else
    bif g==f then
     bif b then
      kn ()
     else
     bif c then
      kn ()
     else
     bif a==(4:Int) then
      kn ()
     else
     bif !((d.length:Int)==(0:Int)) then
      kr false
     else
      kn ()
    else
     kn ()
   else
   bif decide ((d.length:Int)>e) then
    kr false
   else
   bif g==f then
    bif b then
     kn ()
    else
    bif c then
     kn ()
    else
    bif a==(4:Int) then
     kn ()
    else
    bif !((d.length:Int)==(0:Int)) then
     kr false
    else
     kn ()
   else
    kn ()
  else
  bif a==(4:Int) then
   bif b then
    bif decide ((0:Int)>e) then
     kr false
    else
    bif g==f then
     bif b then
      kn ()
     else
     bif c then
      kn ()
     else
     bif a==(4:Int) then
      kn ()
     else
     bif !((d.length:Int)==(0:Int)) then
      kr false
     else
      kn ()
    else
     kn ()
   else
   bif c then
    bif decide ((0:Int)>e) then
     kr false
    else
    bif g==f then
     bif b then
      kn ()
     else
     bif c then
      kn ()
     else
     bif a==(4:Int) then
      kn ()
     else
     bif !((d.length:Int)==(0:Int)) then
      kr false
     else
      kn ()
    else
     kn ()
   else
   bif a==(4:Int) then
    bif decide ((0:Int)>e) then
     kr false
    else
    bif g==f then
     bif b then
      kn ()
     else
     bif c then
      kn ()
     else
     bif a==(4:Int) then
      kn ()
     else
     bif !((d.length:Int)==(0:Int)) then
      kr false
     else
      kn ()
    else
     kn ()
   else
   bif decide ((d.length:Int)>e) then
    kr false
   else
   bif g==f then
    bif b then
     kn ()
    else
    bif c then
     kn ()
    else
    bif a==(4:Int) then
     kn ()
    else
    bif !((d.length:Int)==(0:Int)) then
     kr false
    else
     kn ()
   else
    kn ()
  else
  bif decide ((d.length:Int)<(0:Int)) then
   kr false
  else
  bif b then
   bif decide ((0:Int)>e) then
    kr false
   else
   bif g==f then
    bif b then
     kn ()
    else
    bif c then
     kn ()
    else
    bif a==(4:Int) then
     kn ()
    else
    bif !((d.length:Int)==(0:Int)) then
     kr false
    else
     kn ()
   else
    kn ()
  else
  bif c then
   bif decide ((0:Int)>e) then
    kr false
   else
   bif g==f then
    bif b then
     kn ()
    else
    bif c then
     kn ()
    else
    bif a==(4:Int) then
     kn ()
    else
    bif !((d.length:Int)==(0:Int)) then
     kr false
    else
     kn ()
   else
    kn ()
  else
  bif a==(4:Int) then
   bif decide ((0:Int)>e) then
    kr false
   else
   bif g==f then
    bif b then
     kn ()
    else
    bif c then
     kn ()
    else
    bif a==(4:Int) then
     kn ()
    else
    bif !((d.length:Int)==(0:Int)) then
     kr false
    else
     kn ()
   else
    kn ()
  else
  bif decide ((d.length:Int)>e) then
   kr false
  else
  bif g==f then
   bif b then
    kn ()
   else
   bif c then
    kn ()
   else
   bif a==(4:Int) then
    kn ()
   else
   bif !((d.length:Int)==(0:Int)) then
    kr false
   else
    kn ()
  else
   kn ()
noncomputable def F.zb.C20 {X:Type} (n:Nat) (kr:Bool→Option X) (kn:Z10→Int→Nat→Option X) (k:Z0) (f:Int) (l:Z1) (a:Z10) (d:Int) (m:Int) (b:Z10) (o:Int) (p:Int) (g:Int) (h:Bool) (i:Bool) (j:Z0) (q:Nat):Option X:=
 bif decide ((a.length+b.length)*64≤2 ^ 46)&&decide (0<64∧64≤2 ^ 20) then
  bif Nat.beq q a.length then
   (idx l m).bind fun e =>
    (sub k (0:Int) (IntKind.wrap .i64 (d+(e.length:Int)))).bind fun r =>
     (F.zd n o p r).bind fun c =>
      bif !(c.2.1==(0:Int)) then
       kr false
      else
      bif decide ((c.1.length:Int)>(0:Int)) then
       (idx c.1 (IntKind.wrap .i64 ((c.1.length:Int) - (1:Int)))).bind fun s =>
        (idx c.1 (IntKind.wrap .i64 ((c.1.length:Int) - (1:Int)))).bind fun t =>
         bif t.1==(3:Int) then
          (sub c.1 (0:Int) (IntKind.wrap .i64 ((c.1.length:Int) - (1:Int)))).bind fun u =>
           F.zb.C31 n
            (fun v =>
             kr v)
            (fun (_:Unit) =>
             kn (a++b) (IntKind.wrap .i64 (d+(e.length:Int))) ((a++b).length)) f (a++b) (IntKind.wrap .i64 (d+(e.length:Int))) u (-1:Int) g h i j
         else
          F.zb.C31 n
           (fun w =>
            kr w)
           (fun (_:Unit) =>
            kn (a++b) (IntKind.wrap .i64 (d+(e.length:Int))) ((a++b).length)) f (a++b) (IntKind.wrap .i64 (d+(e.length:Int))) c.1 s.2.2.1 g h i j
      else
       F.zb.C31 n
        (fun x =>
         kr x)
        (fun (_:Unit) =>
         kn (a++b) (IntKind.wrap .i64 (d+(e.length:Int))) ((a++b).length)) f (a++b) (IntKind.wrap .i64 (d+(e.length:Int))) c.1 (0:Int) g h i j
  else
   none
 else
  none
noncomputable def F.zb.C18 {X:Type} (n:Nat) (kr:Bool→Option X) (kn:Z10→Int→Nat→Option X) (a:Z0) (b:Int) (c:Z1) (d:Z10) (e:Int) (f:Int) (g:Z10) (h:Int) (i:Int) (j:Int) (k:Int) (l:Bool) (m:Bool) (o:Z0) (p:Nat):Option X:=
 bif !(h==(0:Int)) then
  bif !(h==(28:Int)) then
   kr false
  else
   F.zb.C20 n
    (fun q =>
     kr q)
    (fun r s t =>
     kn r s t) a b c d e f g i j k l m o p
 else
  F.zb.C20 n
   (fun u =>
    kr u)
   (fun v w x =>
    kn v w x) a b c d e f g i j k l m o p
noncomputable def F.zb.L0_line_pieces_1.step {X:Type} (n:Nat) (rec:Int→Int→Int→Z0→Z13→Z0→Nat→Nat→Option X) (k0:Int→Int→Z0→Z13→Z0→Nat→Nat→Option X) (e:Int) (b:Int) (d:Int) (g:Z0) (c:Z13) (i:Z0) (j:Nat) (f:Nat):Option X:=
 bif decide ((i.length:Int)>(0:Int)) then
  (F.zap n i ([UInt8.ofNat ((10:Int)).toNat])).bind fun a =>
   bif decide (IntKind.wrap .i64 ((IntKind.wrap .i64 (b+(a.1.length:Int))) - d)>e) then
    bif a.2.2.1 then
     bif !(decide (IntKind.wrap .i64 ((IntKind.wrap .i64 ((IntKind.wrap .i64 ((IntKind.wrap .i64 (b+(a.1.length:Int)))+(1:Int))) - (1:Int))) - d)>e)) then
      eqK (some [(.sl Y1 c (.own 4))]) (some [(.sl Y1 c (.own 4))]) (
       bif decide ((c.length+1)*40≤2 ^ 46)&&decide (0<40∧40≤2 ^ 20) then
        bif Nat.beq f c.length then
         rec e (IntKind.wrap .i64 ((IntKind.wrap .i64 (b+(a.1.length:Int)))+(1:Int))) (IntKind.wrap .i64 ((IntKind.wrap .i64 (b+(a.1.length:Int)))+(1:Int))) [] (c++([(d,IntKind.wrap .i64 ((IntKind.wrap .i64 (b+(a.1.length:Int)))+(1:Int)),[],decide (IntKind.wrap .i64 ((IntKind.wrap .i64 ((IntKind.wrap .i64 ((IntKind.wrap .i64 (b+(a.1.length:Int)))+(1:Int))) - (1:Int))) - d)>e))])) a.2.1 0 ((c++([(d,IntKind.wrap .i64 ((IntKind.wrap .i64 (b+(a.1.length:Int)))+(1:Int)),[],decide (IntKind.wrap .i64 ((IntKind.wrap .i64 ((IntKind.wrap .i64 ((IntKind.wrap .i64 (b+(a.1.length:Int)))+(1:Int))) - (1:Int))) - d)>e))])).length)
        else
         none
       else
        none)
     else
      eqK (some [(.sl Y1 c (.own 4))]) (some [(.sl Y1 c (.own 4))]) (
       bif decide ((c.length+1)*40≤2 ^ 46)&&decide (0<40∧40≤2 ^ 20) then
        bif Nat.beq f c.length then
         rec e (IntKind.wrap .i64 ((IntKind.wrap .i64 (b+(a.1.length:Int)))+(1:Int))) (IntKind.wrap .i64 ((IntKind.wrap .i64 (b+(a.1.length:Int)))+(1:Int))) [] (c++([(d,IntKind.wrap .i64 ((IntKind.wrap .i64 (b+(a.1.length:Int)))+(1:Int)),[],decide (IntKind.wrap .i64 ((IntKind.wrap .i64 ((IntKind.wrap .i64 ((IntKind.wrap .i64 (b+(a.1.length:Int)))+(1:Int))) - (1:Int))) - d)>e))])) a.2.1 0 ((c++([(d,IntKind.wrap .i64 ((IntKind.wrap .i64 (b+(a.1.length:Int)))+(1:Int)),[],decide (IntKind.wrap .i64 ((IntKind.wrap .i64 ((IntKind.wrap .i64 ((IntKind.wrap .i64 (b+(a.1.length:Int)))+(1:Int))) - (1:Int))) - d)>e))])).length)
        else
         none
       else
        none)
    else
     rec e (IntKind.wrap .i64 (b+(a.1.length:Int))) d [] c a.2.1 0 f
   else
   bif (g.length:Int)==(g.length:Int) then
    (sub g (0:Int) (g.length:Int)).bind fun h =>
     bif decide ((h.length+a.1.length)*1≤2 ^ 46)&&decide (0<1∧1≤2 ^ 20) then
      bif a.2.2.1 then
       bif !(decide (IntKind.wrap .i64 ((IntKind.wrap .i64 ((IntKind.wrap .i64 ((IntKind.wrap .i64 (b+(a.1.length:Int)))+(1:Int))) - (1:Int))) - d)>e)) then
        eqK (some [(.sl Y1 c (.own 4))]) (some [(.sl Y1 c (.own 4))]) (
         bif decide ((c.length+1)*40≤2 ^ 46)&&decide (0<40∧40≤2 ^ 20) then
          bif Nat.beq f c.length then
           rec e (IntKind.wrap .i64 ((IntKind.wrap .i64 (b+(a.1.length:Int)))+(1:Int))) (IntKind.wrap .i64 ((IntKind.wrap .i64 (b+(a.1.length:Int)))+(1:Int))) [] (c++([(d,IntKind.wrap .i64 ((IntKind.wrap .i64 (b+(a.1.length:Int)))+(1:Int)),h++a.1,decide (IntKind.wrap .i64 ((IntKind.wrap .i64 ((IntKind.wrap .i64 ((IntKind.wrap .i64 (b+(a.1.length:Int)))+(1:Int))) - (1:Int))) - d)>e))])) a.2.1 0 ((c++([(d,IntKind.wrap .i64 ((IntKind.wrap .i64 (b+(a.1.length:Int)))+(1:Int)),h++a.1,decide (IntKind.wrap .i64 ((IntKind.wrap .i64 ((IntKind.wrap .i64 ((IntKind.wrap .i64 (b+(a.1.length:Int)))+(1:Int))) - (1:Int))) - d)>e))])).length)
          else
           none
         else
          none)
       else
        eqK (some [(.sl Y1 c (.own 4))]) (some [(.sl Y1 c (.own 4))]) (
         bif decide ((c.length+1)*40≤2 ^ 46)&&decide (0<40∧40≤2 ^ 20) then
          bif Nat.beq f c.length then
           rec e (IntKind.wrap .i64 ((IntKind.wrap .i64 (b+(a.1.length:Int)))+(1:Int))) (IntKind.wrap .i64 ((IntKind.wrap .i64 (b+(a.1.length:Int)))+(1:Int))) [] (c++([(d,IntKind.wrap .i64 ((IntKind.wrap .i64 (b+(a.1.length:Int)))+(1:Int)),[],decide (IntKind.wrap .i64 ((IntKind.wrap .i64 ((IntKind.wrap .i64 ((IntKind.wrap .i64 (b+(a.1.length:Int)))+(1:Int))) - (1:Int))) - d)>e))])) a.2.1 0 ((c++([(d,IntKind.wrap .i64 ((IntKind.wrap .i64 (b+(a.1.length:Int)))+(1:Int)),[],decide (IntKind.wrap .i64 ((IntKind.wrap .i64 ((IntKind.wrap .i64 ((IntKind.wrap .i64 (b+(a.1.length:Int)))+(1:Int))) - (1:Int))) - d)>e))])).length)
          else
           none
         else
          none)
      else
       rec e (IntKind.wrap .i64 (b+(a.1.length:Int))) d (h++a.1) c a.2.1 ((h++a.1).length) f
     else
      none
   else
    none
 else
  k0 b d g c i j f
noncomputable def F.zb.L0_line_pieces_1 {X:Type} (n:Nat) (k0:Int→Int→Z0→Z13→Z0→Nat→Nat→Option X):Nat→Int→Int→Int→Z0→Z13→Z0→Nat→Nat→Option X
 | 0=>fun _ _ _ _ _ _ _ _=>none
 | m+1=>fun a b c d e f g h=>F.zb.L0_line_pieces_1.step n (F.zb.L0_line_pieces_1 n k0 m) k0 a b c d e f g h
noncomputable def F.zb.L15.step {X:Type} (n:Nat) (rec:Z0→Int→Z1→Z10→Int→Int→Int→Int→Int→Bool→Bool→Int→Int→Int→Z0→Bool→Nat→Nat→Option X) (k0:Int→Int→Z0→Nat→Option X) (kr:Bool→Int→Int→Z0→Nat→Option X) (g:Z0) (h:Int) (b:Z1) (q:Z10) (r:Int) (c:Int) (i:Int) (j:Int) (d:Int) (a:Bool) (f:Bool) (o:Int) (k:Int) (l:Int) (e:Z0) (p:Bool) (s:Nat) (m:Nat):Option X:=
 bif decide (c<(b.length:Int)) then
  (idx b c).bind fun A =>
   bif a then
    F.zb.C18 n
     (fun B =>
      kr B k l e m)
     (fun C D E =>
      rec g h b C D (IntKind.wrap .i64 (c+(1:Int))) i j d a f o k l e p E m) g h b q r c [] (28:Int) i j d a f e s
   else
   bif f then
    F.zb.C18 n
     (fun G =>
      kr G k l e m)
     (fun H I J =>
      rec g h b H I (IntKind.wrap .i64 (c+(1:Int))) i j d a f o k l e p J m) g h b q r c [] (28:Int) i j d a f e s
   else
   bif p then
    F.zd.L2_sess_Sess_text_1 n
     (fun x a1 =>
      bif a then
       F.zb.C18 n
        (fun K =>
         kr K k l e m)
        (fun L M N =>
         rec g h b L M (IntKind.wrap .i64 (c+(1:Int))) i j d a f o k l e p N m) g h b q r c x (0:Int) i j d a f e s
      else
       F.zb.C18 n
        (fun O =>
         kr O k l e m)
        (fun P Q R =>
         rec g h b P Q (IntKind.wrap .i64 (c+(1:Int))) i j d a f o k l e p R m) g h b q r c x (0:Int) i j d a f e s) n [] (0:Int) (0:Int) d [] 0
   else
    F.zb.L0_line_pieces_1 n
     (fun u v t y a2 w a3 =>
      F.zd.L2_sess_Sess_text_1 n
       (fun z a4 =>
        bif a then
         F.zb.C18 n
          (fun S =>
           kr S u v t w)
          (fun T U V =>
           rec g h b T U (IntKind.wrap .i64 (c+(1:Int))) i j d a f o u v t p V w) g h b q r c z (0:Int) i j d a f t s
        else
         F.zb.C18 n
          (fun W =>
           kr W u v t w)
          (fun Y Z a0 =>
           rec g h b Y Z (IntKind.wrap .i64 (c+(1:Int))) i j d a f o u v t p a0 w) g h b q r c z (0:Int) i j d a f t s) n y (y.length:Int) (0:Int) d [] 0) n o k l e [] A m 0
 else
  k0 k l e m
noncomputable def F.zb.L15 {X:Type} (n:Nat) (k0:Int→Int→Z0→Nat→Option X) (kr:Bool→Int→Int→Z0→Nat→Option X):Nat→Z0→Int→Z1→Z10→Int→Int→Int→Int→Int→Bool→Bool→Int→Int→Int→Z0→Bool→Nat→Nat→Option X
 | 0=>fun _ _ _ _ _ _ _ _ _ _ _ _ _ _ _ _ _ _=>none
 | m+1=>fun a b c d e f g h i j k l o p q r s t=>F.zb.L15.step n (F.zb.L15 n k0 kr m) k0 kr a b c d e f g h i j k l o p q r s t
noncomputable def F.zb.C11 {X:Type} (n:Nat) (kr:Bool→Option X) (a:Z0) (b:Z11) (c:Int) (d:Int) (e:Int) (f:Int) (g:Bool) (h:Bool) (i:Int) (j:Int) (k:Int) (l:Z0) (m:Bool) (o:Nat):Option X:=
 (F.zw n a b).bind fun p =>
  F.zb.L15 n
   (fun s t u v =>
    (F.zaf n ).bind fun q =>
     kr q)
   (fun r w x y z =>
    kr r) n a c p [] (0:Int) (0:Int) d e f g h i j k l m 0 o
noncomputable def F.zb.C4_1 {X:Type} (n:Nat) (kr:Bool→Option X) (krx1:Bool→Option X) (c:Z0) (d:Z11) (o:Int) (b:Int) (a:Int) (e:Int) (f:Bool) (g:Bool) (h:Int) (i:Int) (j:Int) (k:Z0) (l:Bool) (m:Nat):Option X:=
 bif !(o==(0:Int)) then
  kr false
 else
 bif b==(4:Int) then
  F.zb.C11 n
   (fun p =>
    kr p) c d (IntKind.wrap .i64 (a+(10:Int))) b a e f g h i j k l m
 else
  F.zb.C11 n
   (fun q =>
    kr q) c d a b a e f g h i j k l m
noncomputable def F.zb.C31_1 {X:Type} (n:Nat) (kr:Bool→Option X) (kn:Unit→Option X) (e:Int) (h:Z10) (f:Int) (i:Z10) (g:Int) (a:Int) (b:Bool) (c:Bool) (d:Z0):Option X:=
 (F.zu n h i).bind fun j =>
  bif !j then
   kr false
  else
  bif b then
   bif b then
    bif decide ((0:Int)>e) then
     kr false
    else
    bif g==f then
     bif b then
      kn ()
     else
     bif c then
      kn ()
     else
     bif a==(4:Int) then
      bif !((d.length:Int)==(0:Int)) then
       kr false
      else
       kn ()
     else
      kn ()
    else
     kn ()
   else
   bif c then
    bif decide ((0:Int)>e) then
     kr false
    else
    bif g==f then
     bif b then
      kn ()
     else
     bif c then
      kn ()
     else
     bif a==(4:Int) then
      bif !((d.length:Int)==(0:Int)) then
       kr false
      else
       kn ()
     else
      kn ()
    else
     kn ()
   else
   bif a==(4:Int) then
    bif decide ((d.length:Int)>e) then
     kr false
    else
    bif g==f then
     bif b then
      kn ()
     else
     bif c then
      kn ()
     else
     bif a==(4:Int) then
      bif !((d.length:Int)==(0:Int)) then
       kr false
      else
       kn ()
     else
      kn ()
    else
     kn ()
   else
   bif decide ((0:Int)>e) then
    kr false
   else
   bif g==f then
    bif b then
     kn ()
    else
    bif c then
     kn ()
    else
    bif a==(4:Int) then
     bif !((d.length:Int)==(0:Int)) then
      kr false
     else
      kn ()
    else
     kn ()
   else
    kn ()
  else
  bif c then
   bif b then
    bif decide ((0:Int)>e) then
     kr false
    else
    bif g==f then
     bif b then
      kn ()
     else
     bif c then
      kn ()
     else
     bif a==(4:Int) then
      bif !((d.length:Int)==(0:Int)) then
       kr false
      else
       kn ()
     else
      kn ()
    else
     kn ()
   else
   bif c then
    bif decide ((0:Int)>e) then
     kr false
    else
    bif g==f then
     bif b then
      kn ()
     else
     bif c then
      kn ()
     else
     bif a==(4:Int) then
      bif !((d.length:Int)==(0:Int)) then
       kr false
      else
       kn ()
     else
      kn ()
    else
     kn ()
   else
   bif a==(4:Int) then
    bif decide ((d.length:Int)>e) then
     kr false
    else
    bif g==f then
     bif b then
      kn ()
     else
     bif c then
      kn ()
     else
     bif a==(4:Int) then
      bif !((d.length:Int)==(0:Int)) then
       kr false
      else
       kn ()
     else
      kn ()
    else
     kn ()
   else
   bif decide ((0:Int)>e) then
    kr false
   else
   bif g==f then
    bif b then
     kn ()
    else
    bif c then
     kn ()
    else
    bif a==(4:Int) then
     bif !((d.length:Int)==(0:Int)) then
      kr false
     else
      kn ()
    else
     kn ()
   else
    kn ()
  else
  bif a==(4:Int) then
   bif decide ((d.length:Int)<(0:Int)) then
    kr false
   else
   bif b then
    bif decide ((0:Int)>e) then
     kr false
    else
    bif g==f then
     bif b then
      kn ()
     else
     bif c then
      kn ()
     else
     bif a==(4:Int) then
      bif !((d.length:Int)==(0:Int)) then
       kr false
      else
       kn ()
     else
      kn ()
    else
     kn ()
   else
   bif c then
    bif decide ((0:Int)>e) then
     kr false
    else
    bif g==f then
     bif b then
      kn ()
     else
     bif c then
      kn ()
     else
     bif a==(4:Int) then
      bif !((d.length:Int)==(0:Int)) then
       kr false
      else
       kn ()
     else
      kn ()
    else
     kn ()
   else
   bif a==(4:Int) then
    bif decide ((d.length:Int)>e) then
     kr false
    else
    bif g==f then
     bif b then
      kn ()
     else
     bif c then
      kn ()
     else
     bif a==(4:Int) then
      bif !((d.length:Int)==(0:Int)) then
       kr false
      else
       kn ()
     else
      kn ()
    else
     kn ()
   else
   bif decide ((0:Int)>e) then
    kr false
   else
   bif g==f then
    bif b then
     kn ()
    else
    bif c then
     kn ()
    else
    bif a==(4:Int) then
     bif !((d.length:Int)==(0:Int)) then
      kr false
     else
      kn ()
    else
     kn ()
   else
    kn ()
  else
  bif b then
   bif decide ((0:Int)>e) then
    kr false
   else
   bif g==f then
    bif b then
     kn ()
    else
    bif c then
     kn ()
    else
    bif a==(4:Int) then
     bif !((d.length:Int)==(0:Int)) then
      kr false
     else
      kn ()
    else
     kn ()
   else
    kn ()
  else
  bif c then
   bif decide ((0:Int)>e) then
    kr false
   else
   bif g==f then
    bif b then
     kn ()
    else
    bif c then
     kn ()
    else
    bif a==(4:Int) then
     bif !((d.length:Int)==(0:Int)) then
      kr false
     else
      kn ()
    else
     kn ()
   else
    kn ()
  else
  bif a==(4:Int) then
   bif decide ((d.length:Int)>e) then
    kr false
   else
   bif g==f then
    bif b then
     kn ()
    else
    bif c then
     kn ()
    else
    bif a==(4:Int) then
     bif !((d.length:Int)==(0:Int)) then
      kr false
     else
      kn ()
    else
     kn ()
   else
    kn ()
  else
  bif decide ((0:Int)>e) then
   kr false
  else
  bif g==f then
   bif b then
    kn ()
   else
   bif c then
    kn ()
   else
   bif a==(4:Int) then
    bif !((d.length:Int)==(0:Int)) then
     kr false
    else
     kn ()
   else
    kn ()
  else
   kn ()
noncomputable def F.zb.C20_1 {X:Type} (n:Nat) (kr:Bool→Option X) (kn:Z10→Int→Nat→Option X) (k:Z0) (f:Int) (l:Z1) (a:Z10) (d:Int) (m:Int) (b:Z10) (o:Int) (p:Int) (g:Int) (h:Bool) (i:Bool) (j:Z0) (q:Nat):Option X:=
 bif decide ((a.length+b.length)*64≤2 ^ 46)&&decide (0<64∧64≤2 ^ 20) then
  bif Nat.beq q a.length then
   (idx l m).bind fun e =>
    (sub k (0:Int) (IntKind.wrap .i64 (d+(e.length:Int)))).bind fun r =>
     (F.zd n o p r).bind fun c =>
      bif !(c.2.1==(0:Int)) then
       kr false
      else
      bif decide ((c.1.length:Int)>(0:Int)) then
       (idx c.1 (IntKind.wrap .i64 ((c.1.length:Int) - (1:Int)))).bind fun s =>
        (idx c.1 (IntKind.wrap .i64 ((c.1.length:Int) - (1:Int)))).bind fun t =>
         bif t.1==(3:Int) then
          (sub c.1 (0:Int) (IntKind.wrap .i64 ((c.1.length:Int) - (1:Int)))).bind fun u =>
           F.zb.C31_1 n
            (fun v =>
             kr v)
            (fun (_:Unit) =>
             kn (a++b) (IntKind.wrap .i64 (d+(e.length:Int))) ((a++b).length)) f (a++b) (IntKind.wrap .i64 (d+(e.length:Int))) u (-1:Int) g h i j
         else
          F.zb.C31_1 n
           (fun w =>
            kr w)
           (fun (_:Unit) =>
            kn (a++b) (IntKind.wrap .i64 (d+(e.length:Int))) ((a++b).length)) f (a++b) (IntKind.wrap .i64 (d+(e.length:Int))) c.1 s.2.2.1 g h i j
      else
       F.zb.C31_1 n
        (fun x =>
         kr x)
        (fun (_:Unit) =>
         kn (a++b) (IntKind.wrap .i64 (d+(e.length:Int))) ((a++b).length)) f (a++b) (IntKind.wrap .i64 (d+(e.length:Int))) c.1 (0:Int) g h i j
  else
   none
 else
  none
noncomputable def F.zb.C18_1 {X:Type} (n:Nat) (kr:Bool→Option X) (kn:Z10→Int→Nat→Option X) (a:Z0) (b:Int) (c:Z1) (d:Z10) (e:Int) (f:Int) (g:Z10) (h:Int) (i:Int) (j:Int) (k:Int) (l:Bool) (m:Bool) (o:Z0) (p:Nat):Option X:=
 bif !(h==(0:Int)) then
  bif !(h==(28:Int)) then
   kr false
  else
   F.zb.C20_1 n
    (fun q =>
     kr q)
    (fun r s t =>
     kn r s t) a b c d e f g i j k l m o p
 else
  F.zb.C20_1 n
   (fun u =>
    kr u)
   (fun v w x =>
    kn v w x) a b c d e f g i j k l m o p
noncomputable def F.zb.L15_1.step {X:Type} (n:Nat) (rec:Z0→Int→Z1→Z10→Int→Int→Int→Int→Int→Bool→Bool→Int→Int→Z0→Int→Bool→Nat→Nat→Option X) (k0:Bool→Int→Z0→Int→Bool→Nat→Option X) (kr:Bool→Bool→Int→Z0→Int→Bool→Nat→Option X) (d:Z0) (e:Int) (a:Z1) (j:Z10) (k:Int) (b:Int) (f:Int) (g:Int) (h:Int) (q:Bool) (c:Bool) (i:Int) (l:Int) (m:Z0) (r:Int) (o:Bool) (p:Nat) (s:Nat):Option X:=
 bif decide (b<(a.length:Int)) then
  (idx a b).bind fun R =>
   bif q then
    F.zb.C18_1 n
     (fun S =>
      kr S q l m r o s)
     (fun T U V =>
      rec d e a T U (IntKind.wrap .i64 (b+(1:Int))) f g h q c i l m r o V s) d e a j k b [] (28:Int) f g h q c m p
   else
   bif c then
    F.zb.C18_1 n
     (fun W =>
      kr W q l m r o s)
     (fun Y Z a0 =>
      rec d e a Y Z (IntKind.wrap .i64 (b+(1:Int))) f g h q c i l m r o a0 s) d e a j k b [] (28:Int) f g h q c m p
   else
   bif o then
    F.zd.L2_sess_Sess_binary_1 n
     (fun v J bH =>
      bif v then
       F.zb.C18_1 n
        (fun a1 =>
         kr a1 v l [] (0:Int) true 0)
        (fun a2 a3 a4 =>
         rec d e a a2 a3 (IntKind.wrap .i64 (b+(1:Int))) f g h v c i l [] (0:Int) true a4 0) d e a j k b J (0:Int) f g h v c [] p
      else
       F.zb.C18_1 n
        (fun a5 =>
         kr a5 v l m r o s)
        (fun a6 a7 a8 =>
         rec d e a a6 a7 (IntKind.wrap .i64 (b+(1:Int))) f g h v c i l m r o a8 s) d e a j k b J (0:Int) f g h v c m p)
     (fun w K bI =>
      bif w then
       F.zb.C18_1 n
        (fun a9 =>
         kr a9 w l [] (0:Int) true 0)
        (fun aA aB aC =>
         rec d e a aA aB (IntKind.wrap .i64 (b+(1:Int))) f g h w c i l [] (0:Int) true aC 0) d e a j k b K (0:Int) f g h w c [] p
      else
       F.zb.C18_1 n
        (fun aD =>
         kr aD w l m r o s)
        (fun aE aG aH =>
         rec d e a aE aG (IntKind.wrap .i64 (b+(1:Int))) f g h w c i l m r o aH s) d e a j k b K (0:Int) f g h w c m p) n [] (0:Int) (0:Int) q [] 0
   else
    (F.zag n R).bind fun aI =>
     F.zd.L0_chunk_Framer_frames_1 n
      (fun t B D L bJ E bK =>
       F.zd.L2_sess_Sess_binary_1 n
        (fun x M bL =>
         bif x then
          F.zb.C18_1 n
           (fun aJ =>
            kr aJ x t [] (0:Int) true 0)
           (fun aK aL aM =>
            rec d e a aK aL (IntKind.wrap .i64 (b+(1:Int))) f g h x c i t [] (0:Int) true aM 0) d e a j k b M (0:Int) f g h x c [] p
         else
          F.zb.C18_1 n
           (fun aN =>
            kr aN x t B D o E)
           (fun aO aP aQ =>
            rec d e a aO aP (IntKind.wrap .i64 (b+(1:Int))) f g h x c i t B D o aQ E) d e a j k b M (0:Int) f g h x c B p)
        (fun y N bM =>
         bif y then
          F.zb.C18_1 n
           (fun aR =>
            kr aR y t [] (0:Int) true 0)
           (fun aS aT aU =>
            rec d e a aS aT (IntKind.wrap .i64 (b+(1:Int))) f g h y c i t [] (0:Int) true aU 0) d e a j k b N (0:Int) f g h y c [] p
         else
          F.zb.C18_1 n
           (fun aV =>
            kr aV y t B D o E)
           (fun aW aY aZ =>
            rec d e a aW aY (IntKind.wrap .i64 (b+(1:Int))) f g h y c i t B D o aZ E) d e a j k b N (0:Int) f g h y c B p) n L (L.length:Int) (0:Int) q [] 0)
      (fun u C G H O bN I bO bP =>
       F.zd.L2_sess_Sess_binary_1 n
        (fun z P bQ =>
         bif z then
          F.zb.C18_1 n
           (fun b0 =>
            kr b0 z u [] (0:Int) true 0)
           (fun b1 b2 b3 =>
            rec d e a b1 b2 (IntKind.wrap .i64 (b+(1:Int))) f g h z c i u [] (0:Int) true b3 0) d e a j k b P (0:Int) f g h z c [] p
         else
          F.zb.C18_1 n
           (fun b4 =>
            kr b4 z u C G H I)
           (fun b5 b6 b7 =>
            rec d e a b5 b6 (IntKind.wrap .i64 (b+(1:Int))) f g h z c i u C G H b7 I) d e a j k b P (0:Int) f g h z c C p)
        (fun A Q bR =>
         bif A then
          F.zb.C18_1 n
           (fun b8 =>
            kr b8 A u [] (0:Int) true 0)
           (fun b9 bA bB =>
            rec d e a b9 bA (IntKind.wrap .i64 (b+(1:Int))) f g h A c i u [] (0:Int) true bB 0) d e a j k b Q (0:Int) f g h A c [] p
         else
          F.zb.C18_1 n
           (fun bC =>
            kr bC A u C G H I)
           (fun bD bE bG =>
            rec d e a bD bE (IntKind.wrap .i64 (b+(1:Int))) f g h A c i u C G H bG I) d e a j k b Q (0:Int) f g h A c C p) n O (O.length:Int) (0:Int) q [] 0) n i l m r [] aI s 0
 else
  k0 q l m r o s
noncomputable def F.zb.L15_1 {X:Type} (n:Nat) (k0:Bool→Int→Z0→Int→Bool→Nat→Option X) (kr:Bool→Bool→Int→Z0→Int→Bool→Nat→Option X):Nat→Z0→Int→Z1→Z10→Int→Int→Int→Int→Int→Bool→Bool→Int→Int→Z0→Int→Bool→Nat→Nat→Option X
 | 0=>fun _ _ _ _ _ _ _ _ _ _ _ _ _ _ _ _ _ _=>none
 | m+1=>fun a b c d e f g h i j k l o p q r s t=>F.zb.L15_1.step n (F.zb.L15_1 n k0 kr m) k0 kr a b c d e f g h i j k l o p q r s t
noncomputable def F.zb.C11_1 {X:Type} (n:Nat) (kr:Bool→Option X) (a:Z0) (b:Z11) (c:Int) (d:Int) (e:Int) (f:Int) (g:Bool) (h:Bool) (i:Int) (j:Int) (k:Z0) (l:Int) (m:Bool) (o:Nat):Option X:=
 (F.zw n a b).bind fun p =>
  F.zb.L15_1 n
   (fun s t u v w x =>
    (F.zaf n ).bind fun q =>
     kr q)
   (fun r y z A B C D =>
    kr r) n a c p [] (0:Int) (0:Int) d e f g h i j k l m 0 o
noncomputable def F.zb.C4_2 {X:Type} (n:Nat) (kr:Bool→Option X) (krx1:Bool→Option X) (c:Z0) (d:Z11) (o:Int) (b:Int) (a:Int) (e:Int) (f:Bool) (g:Bool) (h:Int) (i:Int) (j:Z0) (k:Int) (l:Bool) (m:Nat):Option X:=
 bif !(o==(0:Int)) then
  kr false
 else
 bif b==(4:Int) then
  F.zb.C11_1 n
   (fun p =>
    kr p) c d (IntKind.wrap .i64 (a+(10:Int))) b a e f g h i j k l m
 else
  F.zb.C11_1 n
   (fun q =>
    kr q) c d a b a e f g h i j k l m
noncomputable def F.zb (n:Nat) (a0:Z0) (a1:Z18) (a2:Z11):Option (Bool):=
 bif decide ((a0.length:Int)>(1500:Int)) then
  (F.zaf n ).bind fun a =>
   some (a)
 else
 bif decide ((a2.length:Int)>(40:Int)) then
  (F.zaf n ).bind fun b =>
   some (b)
 else
 bif a1.1==(1:Int) then
  bif a1.1==(1:Int) then
   bif decide (a1.2.1<(1:Int)) then
    F.zb.C4 n
     (fun c =>
      some (c)) (10:Int)
   else
   bif decide (a1.2.1>(8192:Int)) then
    F.zb.C4 n
     (fun d =>
      some (d)) (10:Int)
   else
    F.zb.C4_1 n
     (fun e =>
      some (e))
     (fun f =>
      some (f)) a0 a2 (0:Int) a1.1 a1.2.1 a1.1 false false a1.2.1 (0:Int) (0:Int) [] false 0
  else
  bif a1.1==(4:Int) then
   bif decide (a1.2.1<(1:Int)) then
    F.zb.C4 n
     (fun g =>
      some (g)) (10:Int)
   else
   bif decide (a1.2.1>(1048576:Int)) then
    F.zb.C4 n
     (fun h =>
      some (h)) (10:Int)
   else
    F.zb.C4_2 n
     (fun i =>
      some (i))
     (fun j =>
      some (j)) a0 a2 (0:Int) a1.1 a1.2.1 a1.1 false false a1.2.1 (0:Int) [] (0:Int) false 0
  else
   F.zb.C4 n
    (fun k =>
     some (k)) (29:Int)
 else
 bif a1.1==(2:Int) then
  bif a1.1==(2:Int) then
   bif decide (a1.2.1<(1:Int)) then
    F.zb.C4 n
     (fun l =>
      some (l)) (10:Int)
   else
   bif decide (a1.2.1>(8192:Int)) then
    F.zb.C4 n
     (fun m =>
      some (m)) (10:Int)
   else
    F.zb.C4_1 n
     (fun o =>
      some (o))
     (fun p =>
      some (p)) a0 a2 (0:Int) a1.1 a1.2.1 a1.1 false false a1.2.1 (0:Int) (0:Int) [] false 0
  else
  bif a1.1==(4:Int) then
   bif decide (a1.2.1<(1:Int)) then
    F.zb.C4 n
     (fun q =>
      some (q)) (10:Int)
   else
   bif decide (a1.2.1>(1048576:Int)) then
    F.zb.C4 n
     (fun r =>
      some (r)) (10:Int)
   else
    F.zb.C4_2 n
     (fun s =>
      some (s))
     (fun t =>
      some (t)) a0 a2 (0:Int) a1.1 a1.2.1 a1.1 false false a1.2.1 (0:Int) [] (0:Int) false 0
  else
   F.zb.C4 n
    (fun u =>
     some (u)) (29:Int)
 else
 bif a1.1==(3:Int) then
  bif decide (a1.2.1<(1:Int)) then
   F.zb.C4 n
    (fun v =>
     some (v)) (10:Int)
  else
  bif decide (a1.2.1>(8192:Int)) then
   F.zb.C4 n
    (fun w =>
     some (w)) (10:Int)
  else
   F.zb.C4_1 n
    (fun x =>
     some (x))
    (fun y =>
     some (y)) a0 a2 (0:Int) a1.1 a1.2.1 a1.1 false false a1.2.1 (0:Int) (0:Int) [] false 0
 else
 bif a1.1==(4:Int) then
  bif decide (a1.2.1<(1:Int)) then
   F.zb.C4 n
    (fun z =>
     some (z)) (10:Int)
  else
  bif decide (a1.2.1>(1048576:Int)) then
   F.zb.C4 n
    (fun A =>
     some (A)) (10:Int)
  else
   F.zb.C4_2 n
    (fun B =>
     some (B))
    (fun C =>
     some (C)) a0 a2 (0:Int) a1.1 a1.2.1 a1.1 false false a1.2.1 (0:Int) [] (0:Int) false 0
 else
  F.zb.C4 n
   (fun D =>
    some (D)) (29:Int)
end Go.AM
namespace Go.Proofs
open Go.Shelf
def Tryz.lays161_ren:Go.Shelf.Ren:=⟨fun | 161=>201 | 231=>259 | 227=>251 | 233=>260 | 235=>261 | 228=>294 | 197=>301 | 151=>296 | 260=>320 | 152=>317 | 137=>334 | 119=>335 | 224=>132 | 225=>298 | 217=>297 | 266=>318 | n=>n,fun | 9=>9 | 4=>4 | 3=>3 | 5=>5 | 117=>321 | 116=>320 | 0=>0 | 124=>324 | 105=>347 | 21=>21 | 119=>371 | 46=>156 | 139=>374 | 138=>373 | n=>n,fun | 3=>2 | 4=>3 | n=>n⟩
theorem Tryz.lays161:Go.Proofs.Lays.n161 Tryz.prog Tryz.lays161_ren:={
 mixed:=by kernel_rfl
 f119:=Tryz.func335.trans (congrArg some (by kernel_rfl))
 f137:=Tryz.func334.trans (congrArg some (by kernel_rfl))
 f151:=Tryz.func296.trans (congrArg some (by kernel_rfl))
 f152:=Tryz.func317.trans (congrArg some (by kernel_rfl))
 f161:=Tryz.func201.trans (congrArg some (by kernel_rfl))
 f197:=Tryz.func301.trans (congrArg some (by kernel_rfl))
 f217:=Tryz.func297.trans (congrArg some (by kernel_rfl))
 f224:=Tryz.func132.trans (congrArg some (by kernel_rfl))
 f225:=Tryz.func298.trans (congrArg some (by kernel_rfl))
 f227:=Tryz.func251.trans (congrArg some (by kernel_rfl))
 f228:=Tryz.func294.trans (congrArg some (by kernel_rfl))
 f231:=Tryz.func259.trans (congrArg some (by kernel_rfl))
 f233:=Tryz.func260.trans (congrArg some (by kernel_rfl))
 f235:=Tryz.func261.trans (congrArg some (by kernel_rfl))
 f260:=Tryz.func320.trans (congrArg some (by kernel_rfl))
 f266:=Tryz.func318.trans (congrArg some (by kernel_rfl))
 t0:=Tryz.underlying0
 a0:=Tryz.isAgg0
 z0:=Tryz.sizeOf0
 v0:=Tryz.zeroValue0
 t3:=Tryz.underlying3
 a3:=Tryz.isAgg3
 z3:=Tryz.sizeOf3
 v3:=Tryz.zeroValue3
 t4:=Tryz.underlying4
 a4:=Tryz.isAgg4
 z4:=Tryz.sizeOf4
 v4:=Tryz.zeroValue4
 t5:=Tryz.underlying5
 a5:=Tryz.isAgg5
 z5:=Tryz.sizeOf5
 v5:=Tryz.zeroValue5
 t9:=Tryz.underlying9
 a9:=Tryz.isAgg9
 z9:=Tryz.sizeOf9
 v9:=Tryz.zeroValue9
 t21:=Tryz.underlying21
 a21:=Tryz.isAgg21
 z21:=Tryz.sizeOf21
 v21:=Tryz.zeroValue21
 t46:=Tryz.underlying156
 a46:=Tryz.isAgg156
 z46:=Tryz.sizeOf156
 v46:=Tryz.zeroValue156
 t105:=Tryz.underlying347
 a105:=Tryz.isAgg347
 z105:=Tryz.sizeOf347
 v105:=Tryz.zeroValue347
 t116:=Tryz.underlying320
 a116:=Tryz.isAgg320
 z116:=Tryz.sizeOf320
 t117:=Tryz.underlying321
 a117:=Tryz.isAgg321
 z117:=Tryz.sizeOf321
 v117:=Tryz.zeroValue321
 t119:=Tryz.underlying371
 a119:=Tryz.isAgg371
 z119:=Tryz.sizeOf371
 t124:=Tryz.underlying324
 a124:=Tryz.isAgg324
 z124:=Tryz.sizeOf324
 v124:=Tryz.zeroValue324
 t138:=Tryz.underlying373
 a138:=Tryz.isAgg373
 z138:=Tryz.sizeOf373
 v138:=Tryz.zeroValue373
 t139:=Tryz.underlying374
 a139:=Tryz.isAgg374
 z139:=Tryz.sizeOf374
 v139:=Tryz.zeroValue374
 g3:=by kernel_rfl
 g4:=by kernel_rfl }
open Go.RowKit in
theorem Tryz.strings_TrimLeft_one (s:ByteArray) (c:UInt8) (hc:c.toNat<128) (w:World) :
 Calls Tryz.prog 201 #[.string s,.string ⟨#[c]⟩] w fun e w'=>e = .returned (.string ⟨(Lib.trimLeftB s.data.toList c).toArray⟩)∧w'=w:=Any.strings_TrimLeft_one Tryz.lays161 s c hc w
def Tryz.lays162_ren:Go.Shelf.Ren:=⟨fun | 162=>196 | 232=>250 | 227=>251 | 234=>252 | 236=>253 | 228=>294 | 271=>295 | 151=>296 | 120=>316 | 197=>301 | 152=>317 | 260=>320 | 137=>334 | 119=>335 | 224=>132 | 225=>298 | 217=>297 | 266=>318 | n=>n,fun | 9=>9 | 4=>4 | 3=>3 | 5=>5 | 117=>321 | 116=>320 | 0=>0 | 124=>324 | 21=>21 | 105=>347 | 46=>156 | 119=>371 | 139=>374 | 138=>373 | n=>n,fun | 3=>2 | 4=>3 | n=>n⟩
theorem Tryz.lays162:Go.Proofs.Lays.n162 Tryz.prog Tryz.lays162_ren:={
 mixed:=by kernel_rfl
 f119:=Tryz.func335.trans (congrArg some (by kernel_rfl))
 f120:=Tryz.func316.trans (congrArg some (by kernel_rfl))
 f137:=Tryz.func334.trans (congrArg some (by kernel_rfl))
 f151:=Tryz.func296.trans (congrArg some (by kernel_rfl))
 f152:=Tryz.func317.trans (congrArg some (by kernel_rfl))
 f162:=Tryz.func196.trans (congrArg some (by kernel_rfl))
 f197:=Tryz.func301.trans (congrArg some (by kernel_rfl))
 f217:=Tryz.func297.trans (congrArg some (by kernel_rfl))
 f224:=Tryz.func132.trans (congrArg some (by kernel_rfl))
 f225:=Tryz.func298.trans (congrArg some (by kernel_rfl))
 f227:=Tryz.func251.trans (congrArg some (by kernel_rfl))
 f228:=Tryz.func294.trans (congrArg some (by kernel_rfl))
 f232:=Tryz.func250.trans (congrArg some (by kernel_rfl))
 f234:=Tryz.func252.trans (congrArg some (by kernel_rfl))
 f236:=Tryz.func253.trans (congrArg some (by kernel_rfl))
 f260:=Tryz.func320.trans (congrArg some (by kernel_rfl))
 f266:=Tryz.func318.trans (congrArg some (by kernel_rfl))
 f271:=Tryz.func295.trans (congrArg some (by kernel_rfl))
 t0:=Tryz.underlying0
 a0:=Tryz.isAgg0
 z0:=Tryz.sizeOf0
 v0:=Tryz.zeroValue0
 t3:=Tryz.underlying3
 a3:=Tryz.isAgg3
 z3:=Tryz.sizeOf3
 v3:=Tryz.zeroValue3
 t4:=Tryz.underlying4
 a4:=Tryz.isAgg4
 z4:=Tryz.sizeOf4
 v4:=Tryz.zeroValue4
 t5:=Tryz.underlying5
 a5:=Tryz.isAgg5
 z5:=Tryz.sizeOf5
 v5:=Tryz.zeroValue5
 t9:=Tryz.underlying9
 a9:=Tryz.isAgg9
 z9:=Tryz.sizeOf9
 v9:=Tryz.zeroValue9
 t21:=Tryz.underlying21
 a21:=Tryz.isAgg21
 z21:=Tryz.sizeOf21
 v21:=Tryz.zeroValue21
 t46:=Tryz.underlying156
 a46:=Tryz.isAgg156
 z46:=Tryz.sizeOf156
 v46:=Tryz.zeroValue156
 t105:=Tryz.underlying347
 a105:=Tryz.isAgg347
 z105:=Tryz.sizeOf347
 v105:=Tryz.zeroValue347
 t116:=Tryz.underlying320
 a116:=Tryz.isAgg320
 z116:=Tryz.sizeOf320
 t117:=Tryz.underlying321
 a117:=Tryz.isAgg321
 z117:=Tryz.sizeOf321
 v117:=Tryz.zeroValue321
 t119:=Tryz.underlying371
 a119:=Tryz.isAgg371
 z119:=Tryz.sizeOf371
 t124:=Tryz.underlying324
 a124:=Tryz.isAgg324
 z124:=Tryz.sizeOf324
 v124:=Tryz.zeroValue324
 t138:=Tryz.underlying373
 a138:=Tryz.isAgg373
 z138:=Tryz.sizeOf373
 v138:=Tryz.zeroValue373
 t139:=Tryz.underlying374
 a139:=Tryz.isAgg374
 z139:=Tryz.sizeOf374
 v139:=Tryz.zeroValue374
 g3:=by kernel_rfl
 g4:=by kernel_rfl }
open Go.RowKit in
theorem Tryz.strings_TrimRight_one (s:ByteArray) (c:UInt8) (hc:c.toNat<128) (w:World) (hs:s.size≤9223372036854775807) :
 Calls Tryz.prog 196 #[.string s,.string ⟨#[c]⟩] w fun e w'=>e = .returned (.string ⟨(Lib.trimRightB s.data.toList c).toArray⟩)∧w'=w:=Any.strings_TrimRight_one Tryz.lays162 s c hc w hs
def Tryz.laysC172_ren:Go.Shelf.Ren:=⟨fun | 172=>307 | 244=>330 | 245=>331 | 247=>341 | 279=>342 | 280=>343 | 281=>344 | 282=>345 | 287=>347 | 316=>348 | 171=>195 | 205=>349 | 321=>350 | 322=>351 | 243=>249 | 246=>293 | 283=>287 | 284=>288 | 285=>289 | 286=>290 | 129=>311 | 317=>310 | 318=>312 | 319=>313 | 320=>314 | 337=>332 | 338=>333 | n=>n,fun | 9=>9 | 3=>3 | 75=>221 | 76=>222 | 4=>4 | 5=>5 | 167=>380 | 37=>22 | 0=>0 | 85=>381 | 2=>2 | 168=>383 | 53=>121 | 175=>391 | 46=>156 | 210=>395 | 127=>296 | 145=>400 | 143=>398 | 21=>21 | 171=>341 | 173=>343 | 212=>357 | 51=>141 | 20=>20 | 213=>358 | 232=>386 | 233=>387 | 80=>227 | n=>n,fun | 15=>6 | 16=>7 | 17=>1 | 18=>4 | 19=>5 | n=>n⟩
theorem Tryz.laysC172:Go.Proofs.LaysC.n172 Tryz.prog Tryz.laysC172_ren:={
 mixed:=by kernel_rfl
 f129:=Tryz.func311.trans (congrArg some (by kernel_rfl))
 f171:=Tryz.func195.trans (congrArg some (by kernel_rfl))
 f172:=Tryz.func307.trans (congrArg some (by kernel_rfl))
 f205:=Tryz.func349.trans (congrArg some (by kernel_rfl))
 f243:=Tryz.func249.trans (congrArg some (by kernel_rfl))
 f244:=Tryz.func330.trans (congrArg some (by kernel_rfl))
 f245:=Tryz.func331.trans (congrArg some (by kernel_rfl))
 f246:=Tryz.func293.trans (congrArg some (by kernel_rfl))
 f247:=Tryz.func341.trans (congrArg some (by kernel_rfl))
 f279:=Tryz.func342.trans (congrArg some (by kernel_rfl))
 f280:=Tryz.func343.trans (congrArg some (by kernel_rfl))
 f281:=Tryz.func344.trans (congrArg some (by kernel_rfl))
 f282:=Tryz.func345.trans (congrArg some (by kernel_rfl))
 f283:=Tryz.func287.trans (congrArg some (by kernel_rfl))
 f284:=Tryz.func288.trans (congrArg some (by kernel_rfl))
 f285:=Tryz.func289.trans (congrArg some (by kernel_rfl))
 f286:=Tryz.func290.trans (congrArg some (by kernel_rfl))
 f287:=Tryz.func347.trans (congrArg some (by kernel_rfl))
 f316:=Tryz.func348.trans (congrArg some (by kernel_rfl))
 f317:=Tryz.func310.trans (congrArg some (by kernel_rfl))
 f318:=Tryz.func312.trans (congrArg some (by kernel_rfl))
 f319:=Tryz.func313.trans (congrArg some (by kernel_rfl))
 f320:=Tryz.func314.trans (congrArg some (by kernel_rfl))
 f321:=Tryz.func350.trans (congrArg some (by kernel_rfl))
 f322:=Tryz.func351.trans (congrArg some (by kernel_rfl))
 f337:=Tryz.func332.trans (congrArg some (by kernel_rfl))
 f338:=Tryz.func333.trans (congrArg some (by kernel_rfl))
 t0:=Tryz.underlying0
 a0:=Tryz.isAgg0
 z0:=Tryz.sizeOf0
 v0:=Tryz.zeroValue0
 t2:=Tryz.underlying2
 a2:=Tryz.isAgg2
 z2:=Tryz.sizeOf2
 v2:=Tryz.zeroValue2
 t3:=Tryz.underlying3
 a3:=Tryz.isAgg3
 z3:=Tryz.sizeOf3
 v3:=Tryz.zeroValue3
 t4:=Tryz.underlying4
 a4:=Tryz.isAgg4
 z4:=Tryz.sizeOf4
 v4:=Tryz.zeroValue4
 t5:=Tryz.underlying5
 a5:=Tryz.isAgg5
 z5:=Tryz.sizeOf5
 v5:=Tryz.zeroValue5
 t9:=Tryz.underlying9
 a9:=Tryz.isAgg9
 z9:=Tryz.sizeOf9
 v9:=Tryz.zeroValue9
 t20:=Tryz.underlying20
 a20:=Tryz.isAgg20
 z20:=Tryz.sizeOf20
 v20:=Tryz.zeroValue20
 t21:=Tryz.underlying21
 a21:=Tryz.isAgg21
 z21:=Tryz.sizeOf21
 v21:=Tryz.zeroValue21
 t37:=Tryz.underlying22
 a37:=Tryz.isAgg22
 z37:=Tryz.sizeOf22
 v37:=Tryz.zeroValue22
 t46:=Tryz.underlying156
 a46:=Tryz.isAgg156
 z46:=Tryz.sizeOf156
 v46:=Tryz.zeroValue156
 t51:=Tryz.underlying141
 a51:=Tryz.isAgg141
 z51:=Tryz.sizeOf141
 v51:=Tryz.zeroValue141
 t53:=Tryz.underlying121
 a53:=Tryz.isAgg121
 z53:=Tryz.sizeOf121
 v53:=Tryz.zeroValue121
 t75:=Tryz.underlying221
 a75:=Tryz.isAgg221
 z75:=Tryz.sizeOf221
 v75:=Tryz.zeroValue221
 t76:=Tryz.underlying222
 a76:=Tryz.isAgg222
 z76:=Tryz.sizeOf222
 v76:=Tryz.zeroValue222
 t85:=Tryz.underlying381
 a85:=Tryz.isAgg381
 z85:=Tryz.sizeOf381
 v85:=Tryz.zeroValue381
 t127:=Tryz.underlying296
 a127:=Tryz.isAgg296
 z127:=Tryz.sizeOf296
 v127:=Tryz.zeroValue296
 t143:=Tryz.underlying398
 a143:=Tryz.isAgg398
 z143:=Tryz.sizeOf398
 v143:=Tryz.zeroValue398
 t145:=Tryz.underlying400
 a145:=Tryz.isAgg400
 z145:=Tryz.sizeOf400
 v145:=Tryz.zeroValue400
 t167:=Tryz.underlying380
 a167:=Tryz.isAgg380
 z167:=Tryz.sizeOf380
 v167:=Tryz.zeroValue380
 t168:=Tryz.underlying383
 a168:=Tryz.isAgg383
 z168:=Tryz.sizeOf383
 v168:=Tryz.zeroValue383
 t171:=Tryz.underlying341
 a171:=Tryz.isAgg341
 z171:=Tryz.sizeOf341
 v171:=Tryz.zeroValue341
 t173:=Tryz.underlying343
 a173:=Tryz.isAgg343
 z173:=Tryz.sizeOf343
 v173:=Tryz.zeroValue343
 t175:=Tryz.underlying391
 a175:=Tryz.isAgg391
 z175:=Tryz.sizeOf391
 v175:=Tryz.zeroValue391
 t210:=Tryz.underlying395
 a210:=Tryz.isAgg395
 z210:=Tryz.sizeOf395
 v210:=Tryz.zeroValue395
 t212:=Tryz.underlying357
 a212:=Tryz.isAgg357
 z212:=Tryz.sizeOf357
 v212:=Tryz.zeroValue357
 t213:=Tryz.underlying358
 a213:=Tryz.isAgg358
 z213:=Tryz.sizeOf358
 t232:=Tryz.underlying386
 a232:=Tryz.isAgg386
 z232:=Tryz.sizeOf386
 v232:=Tryz.zeroValue386
 t233:=Tryz.underlying387
 a233:=Tryz.isAgg387
 z233:=Tryz.sizeOf387
 v233:=Tryz.zeroValue387
 g15:=by kernel_rfl
 g16:=by kernel_rfl
 g17:=by kernel_rfl
 g18:=by kernel_rfl
 g19:=by kernel_rfl
 t80:=Tryz.underlying227
 a80:=Tryz.isAgg227
 z80:=Tryz.sizeOf227
 v80:=Tryz.zeroValue227
 i0:=by kernel_rfl
 i2:=by kernel_rfl
 i3:=by kernel_rfl
 i4:=by kernel_rfl
 i5:=by kernel_rfl
 i9:=by kernel_rfl
 i20:=by kernel_rfl
 i21:=by kernel_rfl
 i37:=by kernel_rfl
 i46:=by kernel_rfl
 i51:=by kernel_rfl
 i53:=by kernel_rfl
 i75:=by kernel_rfl
 i76:=by kernel_rfl
 i80:=by kernel_rfl
 i85:=by kernel_rfl
 i127:=by kernel_rfl
 i143:=by kernel_rfl
 i145:=by kernel_rfl
 i167:=by kernel_rfl
 i168:=by kernel_rfl
 i171:=by kernel_rfl
 i173:=by kernel_rfl
 i175:=by kernel_rfl
 i210:=by kernel_rfl
 i212:=by kernel_rfl
 i232:=by kernel_rfl
 i233:=by kernel_rfl
 m15:=by kernel_rfl
 m16:=by kernel_rfl
 m17:=by kernel_rfl
 m18:=by kernel_rfl
 m19:=by kernel_rfl
 c0:=by kernel_rfl
 c2:=by kernel_rfl
 c3:=by kernel_rfl
 c4:=by kernel_rfl
 c5:=by kernel_rfl
 c9:=by kernel_rfl
 c20:=by kernel_rfl
 c21:=by kernel_rfl
 c37:=by kernel_rfl
 c46:=by kernel_rfl
 c51:=by kernel_rfl
 c53:=by kernel_rfl
 c75:=by kernel_rfl
 c76:=by kernel_rfl
 c80:=by kernel_rfl
 c85:=by kernel_rfl
 c127:=by kernel_rfl
 c143:=by kernel_rfl
 c145:=by kernel_rfl
 c167:=by kernel_rfl
 c168:=by kernel_rfl
 c171:=by kernel_rfl
 c173:=by kernel_rfl
 c175:=by kernel_rfl
 c210:=by kernel_rfl
 c212:=by kernel_rfl
 c213:=by kernel_rfl
 c232:=by kernel_rfl
 c233:=by kernel_rfl }
open Go.RowKit in
theorem Tryz.strconv_Atoi_ok (s:ByteArray) (hmax:s.size≤9223372036854775806) (v:Int) (h:Lib.atoiAll s.data.toList = .ok v) (w:World) :
 Calls Tryz.prog 307 #[.string s] w fun e w'=>e = .returned (.tuple #[.int .i64 v,.nilIface])∧(w'=w∨∃ t,w'=Lib.bytesWorld w 5 t):=Any.strconv_Atoi_ok Tryz.laysC172 s hmax v h w
def Tryz.lays219_ren:Go.Shelf.Ren:=⟨fun | 219=>254 | 217=>297 | 225=>298 | 224=>132 | 267=>299 | 266=>318 | 314=>319 | n=>n,fun | 9=>9 | 3=>3 | 4=>4 | 5=>5 | 46=>156 | 146=>267 | 51=>141 | n=>n,fun | 1=>0 | n=>n⟩
theorem Tryz.lays219:Go.Proofs.Lays.n219 Tryz.prog Tryz.lays219_ren:={
 mixed:=by kernel_rfl
 f217:=Tryz.func297.trans (congrArg some (by kernel_rfl))
 f219:=Tryz.func254.trans (congrArg some (by kernel_rfl))
 f224:=Tryz.func132.trans (congrArg some (by kernel_rfl))
 f225:=Tryz.func298.trans (congrArg some (by kernel_rfl))
 f266:=Tryz.func318.trans (congrArg some (by kernel_rfl))
 f267:=Tryz.func299.trans (congrArg some (by kernel_rfl))
 f314:=Tryz.func319.trans (congrArg some (by kernel_rfl))
 t3:=Tryz.underlying3
 a3:=Tryz.isAgg3
 z3:=Tryz.sizeOf3
 v3:=Tryz.zeroValue3
 t4:=Tryz.underlying4
 a4:=Tryz.isAgg4
 z4:=Tryz.sizeOf4
 v4:=Tryz.zeroValue4
 t5:=Tryz.underlying5
 a5:=Tryz.isAgg5
 z5:=Tryz.sizeOf5
 v5:=Tryz.zeroValue5
 t9:=Tryz.underlying9
 a9:=Tryz.isAgg9
 z9:=Tryz.sizeOf9
 v9:=Tryz.zeroValue9
 t46:=Tryz.underlying156
 a46:=Tryz.isAgg156
 z46:=Tryz.sizeOf156
 v46:=Tryz.zeroValue156
 t51:=Tryz.underlying141
 a51:=Tryz.isAgg141
 z51:=Tryz.sizeOf141
 v51:=Tryz.zeroValue141
 t146:=Tryz.underlying267
 a146:=Tryz.isAgg267
 z146:=Tryz.sizeOf267
 v146:=Tryz.zeroValue267
 g1:=by kernel_rfl }
open Go.RowKit Go.Lib in
theorem Tryz.stringslite_Index_one (s:ByteArray) (c:UInt8) (w:World) :
 Calls Tryz.prog 254 #[.string s,.string ⟨#[c]⟩] w fun e w'=>e = .returned (.int .i64 (Lib.indexByte s.data.toList c))∧w'=w:=Any.stringslite_Index_one Tryz.lays219 s c w
def Tryz.lays143_ren:Go.Shelf.Ren:=⟨fun | 143=>273 | 219=>254 | 217=>297 | 225=>298 | 224=>132 | 267=>299 | 266=>318 | 314=>319 | n=>n,fun | 9=>9 | 3=>3 | 4=>4 | 5=>5 | 46=>156 | 146=>267 | 51=>141 | n=>n,fun | 1=>0 | n=>n⟩
theorem Tryz.lays143:Go.Proofs.Lays.n143 Tryz.prog Tryz.lays143_ren:={
 mixed:=by kernel_rfl
 f143:=Tryz.func273.trans (congrArg some (by kernel_rfl))
 f217:=Tryz.func297.trans (congrArg some (by kernel_rfl))
 f219:=Tryz.func254.trans (congrArg some (by kernel_rfl))
 f224:=Tryz.func132.trans (congrArg some (by kernel_rfl))
 f225:=Tryz.func298.trans (congrArg some (by kernel_rfl))
 f266:=Tryz.func318.trans (congrArg some (by kernel_rfl))
 f267:=Tryz.func299.trans (congrArg some (by kernel_rfl))
 f314:=Tryz.func319.trans (congrArg some (by kernel_rfl))
 t3:=Tryz.underlying3
 a3:=Tryz.isAgg3
 z3:=Tryz.sizeOf3
 v3:=Tryz.zeroValue3
 t4:=Tryz.underlying4
 a4:=Tryz.isAgg4
 z4:=Tryz.sizeOf4
 v4:=Tryz.zeroValue4
 t5:=Tryz.underlying5
 a5:=Tryz.isAgg5
 z5:=Tryz.sizeOf5
 v5:=Tryz.zeroValue5
 t9:=Tryz.underlying9
 a9:=Tryz.isAgg9
 z9:=Tryz.sizeOf9
 v9:=Tryz.zeroValue9
 t46:=Tryz.underlying156
 a46:=Tryz.isAgg156
 z46:=Tryz.sizeOf156
 v46:=Tryz.zeroValue156
 t51:=Tryz.underlying141
 a51:=Tryz.isAgg141
 z51:=Tryz.sizeOf141
 v51:=Tryz.zeroValue141
 t146:=Tryz.underlying267
 a146:=Tryz.isAgg267
 z146:=Tryz.sizeOf267
 v146:=Tryz.zeroValue267
 g1:=by kernel_rfl }
open Go.RowKit Go.Lib in
theorem Tryz.strings_Index_one (s:ByteArray) (c:UInt8) (w:World) :
 Calls Tryz.prog 273 #[.string s,.string ⟨#[c]⟩] w fun e w'=>e = .returned (.int .i64 (Lib.indexByte s.data.toList c))∧w'=w:=Any.strings_Index_one Tryz.lays143 s c w
def Tryz.lays138_ren:Go.Shelf.Ren:=⟨fun | 138=>272 | 195=>305 | 218=>306 | 143=>273 | 219=>254 | 217=>297 | 225=>298 | 224=>132 | 267=>299 | 266=>318 | 314=>319 | n=>n,fun | 9=>9 | 3=>3 | 4=>4 | 5=>5 | 0=>0 | 46=>156 | 146=>267 | 51=>141 | n=>n,fun | 1=>0 | n=>n⟩
theorem Tryz.lays138:Go.Proofs.Lays.n138 Tryz.prog Tryz.lays138_ren:={
 mixed:=by kernel_rfl
 f138:=Tryz.func272.trans (congrArg some (by kernel_rfl))
 f143:=Tryz.func273.trans (congrArg some (by kernel_rfl))
 f195:=Tryz.func305.trans (congrArg some (by kernel_rfl))
 f217:=Tryz.func297.trans (congrArg some (by kernel_rfl))
 f218:=Tryz.func306.trans (congrArg some (by kernel_rfl))
 f219:=Tryz.func254.trans (congrArg some (by kernel_rfl))
 f224:=Tryz.func132.trans (congrArg some (by kernel_rfl))
 f225:=Tryz.func298.trans (congrArg some (by kernel_rfl))
 f266:=Tryz.func318.trans (congrArg some (by kernel_rfl))
 f267:=Tryz.func299.trans (congrArg some (by kernel_rfl))
 f314:=Tryz.func319.trans (congrArg some (by kernel_rfl))
 t0:=Tryz.underlying0
 a0:=Tryz.isAgg0
 z0:=Tryz.sizeOf0
 v0:=Tryz.zeroValue0
 t3:=Tryz.underlying3
 a3:=Tryz.isAgg3
 z3:=Tryz.sizeOf3
 v3:=Tryz.zeroValue3
 t4:=Tryz.underlying4
 a4:=Tryz.isAgg4
 z4:=Tryz.sizeOf4
 v4:=Tryz.zeroValue4
 t5:=Tryz.underlying5
 a5:=Tryz.isAgg5
 z5:=Tryz.sizeOf5
 v5:=Tryz.zeroValue5
 t9:=Tryz.underlying9
 a9:=Tryz.isAgg9
 z9:=Tryz.sizeOf9
 v9:=Tryz.zeroValue9
 t46:=Tryz.underlying156
 a46:=Tryz.isAgg156
 z46:=Tryz.sizeOf156
 v46:=Tryz.zeroValue156
 t51:=Tryz.underlying141
 a51:=Tryz.isAgg141
 z51:=Tryz.sizeOf141
 v51:=Tryz.zeroValue141
 t146:=Tryz.underlying267
 a146:=Tryz.isAgg267
 z146:=Tryz.sizeOf267
 v146:=Tryz.zeroValue267
 g1:=by kernel_rfl }
open Go.RowKit Go.Lib in
theorem Tryz.strings_Count_one (s:ByteArray) (c:UInt8) (w:World) :
 Calls Tryz.prog 272 #[.string s,.string ⟨#[c]⟩] w fun e w'=>e = .returned (.int .i64 (Lib.countByte s.data.toList c))∧w'=w:=Any.strings_Count_one Tryz.lays138 s c w
def Tryz.lays221_ren:Go.Shelf.Ren:=⟨fun | 221=>213 | 268=>271 | 138=>272 | 143=>273 | 195=>305 | 197=>301 | 218=>306 | 219=>254 | 260=>320 | 217=>297 | 225=>298 | 224=>132 | 267=>299 | 266=>318 | 314=>319 | n=>n,fun | 9=>9 | 3=>3 | 31=>168 | 4=>4 | 0=>0 | 105=>347 | 21=>21 | 5=>5 | 46=>156 | 119=>371 | 139=>374 | 138=>373 | 146=>267 | 51=>141 | n=>n,fun | 1=>0 | 3=>2 | 4=>3 | n=>n⟩
theorem Tryz.lays221:Go.Proofs.Lays.n221 Tryz.prog Tryz.lays221_ren:={
 mixed:=by kernel_rfl
 f138:=Tryz.func272.trans (congrArg some (by kernel_rfl))
 f143:=Tryz.func273.trans (congrArg some (by kernel_rfl))
 f195:=Tryz.func305.trans (congrArg some (by kernel_rfl))
 f197:=Tryz.func301.trans (congrArg some (by kernel_rfl))
 f217:=Tryz.func297.trans (congrArg some (by kernel_rfl))
 f218:=Tryz.func306.trans (congrArg some (by kernel_rfl))
 f219:=Tryz.func254.trans (congrArg some (by kernel_rfl))
 f221:=Tryz.func213.trans (congrArg some (by kernel_rfl))
 f224:=Tryz.func132.trans (congrArg some (by kernel_rfl))
 f225:=Tryz.func298.trans (congrArg some (by kernel_rfl))
 f260:=Tryz.func320.trans (congrArg some (by kernel_rfl))
 f266:=Tryz.func318.trans (congrArg some (by kernel_rfl))
 f267:=Tryz.func299.trans (congrArg some (by kernel_rfl))
 f268:=Tryz.func271.trans (congrArg some (by kernel_rfl))
 f314:=Tryz.func319.trans (congrArg some (by kernel_rfl))
 t0:=Tryz.underlying0
 a0:=Tryz.isAgg0
 z0:=Tryz.sizeOf0
 v0:=Tryz.zeroValue0
 t3:=Tryz.underlying3
 a3:=Tryz.isAgg3
 z3:=Tryz.sizeOf3
 v3:=Tryz.zeroValue3
 t4:=Tryz.underlying4
 a4:=Tryz.isAgg4
 z4:=Tryz.sizeOf4
 v4:=Tryz.zeroValue4
 t5:=Tryz.underlying5
 a5:=Tryz.isAgg5
 z5:=Tryz.sizeOf5
 v5:=Tryz.zeroValue5
 t9:=Tryz.underlying9
 a9:=Tryz.isAgg9
 z9:=Tryz.sizeOf9
 v9:=Tryz.zeroValue9
 t21:=Tryz.underlying21
 a21:=Tryz.isAgg21
 z21:=Tryz.sizeOf21
 v21:=Tryz.zeroValue21
 t31:=Tryz.underlying168
 a31:=Tryz.isAgg168
 z31:=Tryz.sizeOf168
 v31:=Tryz.zeroValue168
 t46:=Tryz.underlying156
 a46:=Tryz.isAgg156
 z46:=Tryz.sizeOf156
 v46:=Tryz.zeroValue156
 t51:=Tryz.underlying141
 a51:=Tryz.isAgg141
 z51:=Tryz.sizeOf141
 v51:=Tryz.zeroValue141
 t105:=Tryz.underlying347
 a105:=Tryz.isAgg347
 z105:=Tryz.sizeOf347
 v105:=Tryz.zeroValue347
 t119:=Tryz.underlying371
 a119:=Tryz.isAgg371
 z119:=Tryz.sizeOf371
 t138:=Tryz.underlying373
 a138:=Tryz.isAgg373
 z138:=Tryz.sizeOf373
 v138:=Tryz.zeroValue373
 t139:=Tryz.underlying374
 a139:=Tryz.isAgg374
 z139:=Tryz.sizeOf374
 v139:=Tryz.zeroValue374
 t146:=Tryz.underlying267
 a146:=Tryz.isAgg267
 z146:=Tryz.sizeOf267
 v146:=Tryz.zeroValue267
 g1:=by kernel_rfl
 g3:=by kernel_rfl
 g4:=by kernel_rfl }
def Tryz.lays264_ren:Go.Shelf.Ren:=⟨fun | 264=>262 | n=>n,fun | 53=>121 | 46=>156 | n=>n,fun | n=>n⟩
theorem Tryz.lays264:Go.Proofs.Lays.n264 Tryz.prog Tryz.lays264_ren:={
 mixed:=by kernel_rfl
 f264:=Tryz.func262.trans (congrArg some (by kernel_rfl))
 t46:=Tryz.underlying156
 a46:=Tryz.isAgg156
 z46:=Tryz.sizeOf156
 v46:=Tryz.zeroValue156
 t53:=Tryz.underlying121
 a53:=Tryz.isAgg121
 z53:=Tryz.sizeOf121
 v53:=Tryz.zeroValue121 }
open Go.RowKit Go.Lib in
theorem Tryz.bits_Mul64 (x y:Nat) (hx:x<18446744073709551616) (hy:y<18446744073709551616) (w:World) :
 Calls Tryz.prog 262 #[.int .u64 x,.int .u64 y] w fun e w'=>e = .returned (.tuple #[.int .u64 ((x*y / 18446744073709551616:Nat):Int),.int .u64 ((x*y % 18446744073709551616:Nat):Int)])∧w'=w:=Any.bits_Mul64 Tryz.lays264 x y hx hy w
def Tryz.lays185_ren:Go.Shelf.Ren:=⟨fun | 185=>90 | 187=>130 | 115=>70 | 253=>131 | 224=>132 | 254=>133 | 255=>188 | 291=>189 | n=>n,fun | 37=>22 | 3=>3 | 4=>4 | 0=>0 | 5=>5 | 46=>156 | 9=>9 | 146=>267 | 51=>141 | n=>n,fun | 1=>0 | n=>n⟩
theorem Tryz.lays185:Go.Proofs.Lays.n185 Tryz.prog Tryz.lays185_ren:={
 mixed:=by kernel_rfl
 f115:=Tryz.func70.trans (congrArg some (by kernel_rfl))
 f185:=Tryz.func90.trans (congrArg some (by kernel_rfl))
 f187:=Tryz.func130.trans (congrArg some (by kernel_rfl))
 f224:=Tryz.func132.trans (congrArg some (by kernel_rfl))
 f253:=Tryz.func131.trans (congrArg some (by kernel_rfl))
 f254:=Tryz.func133.trans (congrArg some (by kernel_rfl))
 f255:=Tryz.func188.trans (congrArg some (by kernel_rfl))
 f291:=Tryz.func189.trans (congrArg some (by kernel_rfl))
 t0:=Tryz.underlying0
 a0:=Tryz.isAgg0
 z0:=Tryz.sizeOf0
 v0:=Tryz.zeroValue0
 t3:=Tryz.underlying3
 a3:=Tryz.isAgg3
 z3:=Tryz.sizeOf3
 v3:=Tryz.zeroValue3
 t4:=Tryz.underlying4
 a4:=Tryz.isAgg4
 z4:=Tryz.sizeOf4
 v4:=Tryz.zeroValue4
 t5:=Tryz.underlying5
 a5:=Tryz.isAgg5
 z5:=Tryz.sizeOf5
 v5:=Tryz.zeroValue5
 t9:=Tryz.underlying9
 a9:=Tryz.isAgg9
 z9:=Tryz.sizeOf9
 v9:=Tryz.zeroValue9
 t37:=Tryz.underlying22
 a37:=Tryz.isAgg22
 z37:=Tryz.sizeOf22
 v37:=Tryz.zeroValue22
 t46:=Tryz.underlying156
 a46:=Tryz.isAgg156
 z46:=Tryz.sizeOf156
 v46:=Tryz.zeroValue156
 t51:=Tryz.underlying141
 a51:=Tryz.isAgg141
 z51:=Tryz.sizeOf141
 v51:=Tryz.zeroValue141
 t146:=Tryz.underlying267
 a146:=Tryz.isAgg267
 z146:=Tryz.sizeOf267
 v146:=Tryz.zeroValue267
 g1:=by kernel_rfl }
open Go.RowKit Go.Lib in
theorem Tryz.bytes_Index_one (b o n c b2 o2 d:Nat) (xs:List Int) (cv:Int) (w:World) (hx:xs.length=n) (hc:∀ i,i<n→w.cell? ⟨b,o+i,none⟩=some (.int .u8 (xs.getD i 0))) (hc2:w.cell? ⟨b2,o2,none⟩=some (.int .u8 cv)) :
 Calls Tryz.prog 90 #[.slice (some ⟨b,o,none⟩) n c,.slice (some ⟨b2,o2,none⟩) 1 d] w fun e w'=>e = .returned (.int .i64 (Lib.indexByte (Lib.bytesOf xs) cv.toNat.toUInt8))∧w'=w:=Any.bytes_Index_one Tryz.lays185 b o n c b2 o2 d xs cv w hx hc hc2
def Tryz.laySort_ren:Go.Shelf.Ren:=⟨fun | 6=>265 | 15=>303 | 14=>302 | 28=>329 | 29=>311 | 20=>321 | 21=>322 | 22=>323 | 23=>324 | 24=>325 | 25=>326 | 26=>327 | 27=>328 | 46=>336 | 47=>337 | 48=>338 | 49=>339 | 50=>340 | 57=>346 | n=>n,fun | 22=>61 | 24=>126 | 25=>331 | 3=>3 | 39=>156 | 0=>0 | 53=>141 | 55=>121 | 4=>4 | 46=>363 | 45=>362 | 50=>260 | 5=>5 | 9=>9 | 66=>375 | 70=>378 | 76=>388 | 77=>389 | n=>n,fun | n=>n⟩
theorem Tryz.laySort:Go.Proofs.SlLaysF0.n6 Tryz.prog Tryz.laySort_ren:={
 mixed:=by kernel_rfl
 f6:=⟨Tryz.f265.name,by decide,Tryz.func265.trans (congrArg some (by kernel_rfl))⟩
 f14:=⟨Tryz.f302.name,by decide,Tryz.func302.trans (congrArg some (by kernel_rfl))⟩
 f15:=Tryz.func303.trans (congrArg some (by kernel_rfl))
 f20:=⟨Tryz.f321.name,by decide,Tryz.func321.trans (congrArg some (by kernel_rfl))⟩
 f21:=⟨Tryz.f322.name,by decide,Tryz.func322.trans (congrArg some (by kernel_rfl))⟩
 f22:=⟨Tryz.f323.name,by decide,Tryz.func323.trans (congrArg some (by kernel_rfl))⟩
 f23:=⟨Tryz.f324.name,by decide,Tryz.func324.trans (congrArg some (by kernel_rfl))⟩
 f24:=⟨Tryz.f325.name,by decide,Tryz.func325.trans (congrArg some (by kernel_rfl))⟩
 f25:=⟨Tryz.f326.name,by decide,Tryz.func326.trans (congrArg some (by kernel_rfl))⟩
 f26:=⟨Tryz.f327.name,by decide,Tryz.func327.trans (congrArg some (by kernel_rfl))⟩
 f27:=⟨Tryz.f328.name,by decide,Tryz.func328.trans (congrArg some (by kernel_rfl))⟩
 f28:=Tryz.func329.trans (congrArg some (by kernel_rfl))
 f29:=Tryz.func311.trans (congrArg some (by kernel_rfl))
 f46:=⟨Tryz.f336.name,by decide,Tryz.func336.trans (congrArg some (by kernel_rfl))⟩
 f47:=Tryz.func337.trans (congrArg some (by kernel_rfl))
 f48:=Tryz.func338.trans (congrArg some (by kernel_rfl))
 f49:=⟨Tryz.f339.name,by decide,Tryz.func339.trans (congrArg some (by kernel_rfl))⟩
 f50:=⟨Tryz.f340.name,by decide,Tryz.func340.trans (congrArg some (by kernel_rfl))⟩
 f57:=⟨Tryz.f346.name,by decide,Tryz.func346.trans (congrArg some (by kernel_rfl))⟩
 t0:=Tryz.underlying0
 a0:=Tryz.isAgg0
 z0:=Tryz.sizeOf0
 v0:=Tryz.zeroValue0
 t3:=Tryz.underlying3
 a3:=Tryz.isAgg3
 z3:=Tryz.sizeOf3
 v3:=Tryz.zeroValue3
 t4:=Tryz.underlying4
 a4:=Tryz.isAgg4
 z4:=Tryz.sizeOf4
 v4:=Tryz.zeroValue4
 t5:=Tryz.underlying5
 a5:=Tryz.isAgg5
 z5:=Tryz.sizeOf5
 v5:=Tryz.zeroValue5
 t9:=Tryz.underlying9
 a9:=Tryz.isAgg9
 z9:=Tryz.sizeOf9
 v9:=Tryz.zeroValue9
 t22:=Tryz.underlying61
 a22:=Tryz.isAgg61
 z22:=Tryz.sizeOf61
 v22:=Tryz.zeroValue61
 t25:=Tryz.underlying331
 a25:=Tryz.isAgg331
 z25:=Tryz.sizeOf331
 v25:=Tryz.zeroValue331
 t39:=Tryz.underlying156
 a39:=Tryz.isAgg156
 z39:=Tryz.sizeOf156
 v39:=Tryz.zeroValue156
 t45:=Tryz.underlying362
 a45:=Tryz.isAgg362
 z45:=Tryz.sizeOf362
 v45:=Tryz.zeroValue362
 t46:=Tryz.underlying363
 a46:=Tryz.isAgg363
 z46:=Tryz.sizeOf363
 v46:=Tryz.zeroValue363
 t50:=Tryz.underlying260
 a50:=Tryz.isAgg260
 z50:=Tryz.sizeOf260
 v50:=Tryz.zeroValue260
 t53:=Tryz.underlying141
 a53:=Tryz.isAgg141
 z53:=Tryz.sizeOf141
 v53:=Tryz.zeroValue141
 t55:=Tryz.underlying121
 a55:=Tryz.isAgg121
 z55:=Tryz.sizeOf121
 v55:=Tryz.zeroValue121
 t66:=Tryz.underlying375
 a66:=Tryz.isAgg375
 z66:=Tryz.sizeOf375
 v66:=Tryz.zeroValue375
 t70:=Tryz.underlying378
 a70:=Tryz.isAgg378
 z70:=Tryz.sizeOf378
 v70:=Tryz.zeroValue378
 t76:=Tryz.underlying388
 a76:=Tryz.isAgg388
 z76:=Tryz.sizeOf388
 v76:=Tryz.zeroValue388
 t77:=Tryz.underlying389
 a77:=Tryz.isAgg389
 z77:=Tryz.sizeOf389
 v77:=Tryz.zeroValue389 }
end Go.Proofs
set_option linter.unusedVariables false
set_option linter.unusedSimpArgs false
namespace Go.Proofs
open Go.Shelf Go.RowKit Go.Lib
set_option maxHeartbeats 1000000 in
theorem Tryz.strings_Split_one (s:ByteArray) (c:UInt8) (w:World) (hs:s.size<4294967281) :
 Calls Tryz.prog 153 #[.string s,.string ⟨#[c]⟩] w fun e w'=>∃ (l:List ByteArray) (t:TypeId),e = .returned (.slice (some ⟨w.heap.size,0,none⟩) l.length l.length)∧w'=w.alloc (.cells (l.map Value.string).toArray t)∧l.map (·.data.toList)=AM.splitL c s.data.toList:=by
 have mixed:Tryz.prog.follows .mixedOrders:=by kernel_rfl
 have h1:1≤(⟨#[c]⟩:ByteArray).size:=Nat.le_refl 1
 have hle:=Lib.countB_le ⟨#[c]⟩ h1 s.size s (Nat.le_refl _)
 have hlen:=Lib.splitB_all ⟨#[c]⟩ h1 0 _ s rfl
 have hcb:Lib.countB s ⟨#[c]⟩=s.data.toList.count c:=Lib.count_one c s.data.toList
 have hI:∀ (x:ByteArray) (cs:Array Value),x.size≤s.size→Calls Tryz.prog 273 #[.string x,.string ⟨#[c]⟩] (w.alloc (.cells cs 9)) fun e w'=>e = .returned (.int .i64 (Lib.indexB x ⟨#[c]⟩))∧w'=w.alloc (.cells cs 9):=
  fun x cs hx=>(Tryz.strings_Index_one x c _).mono fun e w' ⟨he,hw⟩=>⟨by rw [he,← Lib.index_one]; try rfl,hw⟩
 have hC:Calls Tryz.prog 272 #[.string s,.string ⟨#[c]⟩] w fun e w'=>e = .returned (.int .i64 (Lib.countB s ⟨#[c]⟩))∧w'=w:=
  (Tryz.strings_Count_one s c w).mono fun e w' ⟨he,hw⟩=>⟨by rw [he,hcb]; rfl,hw⟩
 have h:=Any.strings_genSplit_core Tryz.lays221 (by kernel_rfl) s ⟨#[c]⟩ 0 (-1) (Lib.countB s ⟨#[c]⟩+1) w hs h1 (Nat.zero_le _) hI hC (by decide) (by decide) (by rw [if_pos (by decide)]; omega)
 rw [Nat.add_sub_cancel,hlen] at h
 have e2:Lib.cellsOf (Lib.splitB ⟨#[c]⟩ 0 (Lib.countB s ⟨#[c]⟩) s) (Lib.countB s ⟨#[c]⟩+1)=((Lib.splitB ⟨#[c]⟩ 0 (Lib.countB s ⟨#[c]⟩) s).map Value.string).toArray:=by rw [← hlen]; exact Lib.cellsOf_full _
 rw [e2] at h
 have hd:(Lib.splitB ⟨#[c]⟩ 0 (Lib.countB s ⟨#[c]⟩) s).map (·.data.toList)=AM.splitL c s.data.toList:=by
  rw [Lib.splitB_data,hcb]
  exact AM.splitK_one c _ _ rfl
 change Calls Tryz.prog 213 _ _ _ at h
 generalize Lib.splitB ⟨#[c]⟩ 0 (Lib.countB s ⟨#[c]⟩) s=l at h hd hlen
 rw [← hlen] at h
 clear e2 hI hC hle hlen hcb
 go_enter Tryz.func153,Tryz.ntmps153
 go_wp2_with (go_at_call 213; refine h.mono ?_; rintro e w' ⟨rfl,hw⟩; rw [hw])
 go_ret
 exact ⟨l,_,rfl,rfl,hd⟩
end Go.Proofs
set_option linter.unusedVariables false
set_option linter.unusedSimpArgs false
namespace Go.Proofs
open Go.Shelf Go.RowKit Go.Sort
set_option maxHeartbeats 1000000 in
theorem Tryz.isNaN_str (s:ByteArray) (w:World):Calls Tryz.prog 304 #[.string s] w fun e w'=>e = .returned (.bool false)∧w'=w:=by
 have mixed:Tryz.prog.follows .mixedOrders:=by kernel_rfl
 go_enter Tryz.func304,Tryz.ntmps304
 go_wp2
 go_ret
 exact ⟨rfl,rfl⟩
theorem Tryz.gtr_str (x y:ByteArray) (w:World):(Go.binOp .gtr 9 (.string x) (.string y)).run Tryz.prog w = .ok (.bool (!(Op.bytesLess x.toList y.toList||x.toList==y.toList))) w:=by simp [Go.binOp,Op.stringOp]
set_option maxHeartbeats 2000000 in
theorem Tryz.compare_str (x y:ByteArray) (w:World):Calls Tryz.prog 268 #[.string x,.string y] w fun e w'=>e = .returned (.int .i64 (if Op.bytesLess x.toList y.toList then -1 else if Op.bytesLess x.toList y.toList||x.toList==y.toList then 0 else 1))∧w'=w:=by
 have mixed:Tryz.prog.follows .mixedOrders:=by kernel_rfl
 go_enter Tryz.func268,Tryz.ntmps268
 go_wp2_with (go_at_call 304; refine (Tryz.isNaN_str _ _).mono ?_; rintro e w' ⟨rfl,rfl⟩)
 all_goals try (
  rw [Tryz.gtr_str]
  simp only [Result.andThen]
  rw [Oper.upon_value]
  generalize hq:(Op.bytesLess x.toList y.toList||x.toList==y.toList)=q
  cases q
  all_goals (simp only [Bool.not_true,Bool.not_false]; go_wp2))
 all_goals (go_ret; refine ⟨?_,rfl⟩; simp_all)
set_option maxHeartbeats 4000000 in
theorem Tryz.or_ints (b:Nat) (p q:Int) (w:World) (h0:w.cell? ⟨b,0,none⟩=some (.int .i64 p)) (h1:w.cell? ⟨b,1,none⟩=some (.int .i64 q)):Calls Tryz.prog 267 #[.slice (some ⟨b,0,none⟩) 2 2] w fun e w'=>e = .returned (.int .i64 (if p=0 then q else p))∧w'=w:=by
 have mixed:Tryz.prog.follows .mixedOrders:=by kernel_rfl
 go_enter Tryz.func267,Tryz.ntmps267
 go_wp2
 refine wp_loop_rounds 3 ?_
 rw [rounds_succ]
 by_cases hp:p=0
 · subst hp
   go_wp2
   rw [rounds_succ]
   by_cases hq:q=0
   · subst hq
     go_wp2
     rw [rounds_succ]
     go_wp2
     go_ret
     exact ⟨rfl,rfl⟩
   · go_wp2
     all_goals first | (go_ret; refine ⟨?_,rfl⟩; simp_all) | (exfalso; simp_all)
 · go_wp2
   all_goals first | (go_ret; refine ⟨?_,rfl⟩; simp_all) | (exfalso; simp_all)
set_option maxHeartbeats 8000000 in
set_option maxRecDepth 100000 in
theorem Tryz.cmpTag (x y:AM.TagD) (w:World):Calls Tryz.prog 266 #[.agg (AM.encT x).toArray,.agg (AM.encT y).toArray] w fun e w'=>e = .returned (.int .i64 (AM.cmpL x y))∧∃ q os,w'=grow (w.drewN q) os:=by
 have mixed:Tryz.prog.follows .mixedOrders:=by kernel_rfl
 obtain ⟨k1,v1⟩:=x
 obtain ⟨k2,v2⟩:=y
 show Calls Tryz.prog 266 #[.agg #[.string ⟨k1.toArray⟩,.string ⟨v1.toArray⟩],.agg #[.string ⟨k2.toArray⟩,.string ⟨v2.toArray⟩]] w _
 have hb:∀ l:List UInt8,(⟨l.toArray⟩:ByteArray).toList=l:=fun l=>by rw [AM.ba_toList]
 have c1:∀ W,Calls Tryz.prog 268 #[.string ⟨k1.toArray⟩,.string ⟨k2.toArray⟩] W fun e w'=>e = .returned (.int .i64 (AM.cmpS k1 k2))∧w'=W:=fun W=>by
  have h:=Tryz.compare_str ⟨k1.toArray⟩ ⟨k2.toArray⟩ W
  simp only [hb] at h
  exact h
 have c2:∀ W,Calls Tryz.prog 268 #[.string ⟨v1.toArray⟩,.string ⟨v2.toArray⟩] W fun e w'=>e = .returned (.int .i64 (AM.cmpS v1 v2))∧w'=W:=fun W=>by
  have h:=Tryz.compare_str ⟨v1.toArray⟩ ⟨v2.toArray⟩ W
  simp only [hb] at h
  exact h
 unfold AM.cmpL
 simp only
 clear hb
 generalize AM.cmpS k1 k2=r1 at c1 ⊢
 generalize AM.cmpS v1 v2=r2 at c2 ⊢
 generalize (⟨k1.toArray⟩:ByteArray)=k1 at c1 ⊢
 generalize (⟨k2.toArray⟩:ByteArray)=k2 at c1 ⊢
 generalize (⟨v1.toArray⟩:ByteArray)=v1 at c2 ⊢
 generalize (⟨v2.toArray⟩:ByteArray)=v2 at c2 ⊢
 have c3:∀ (W:World) (b:Nat),W.heap.size=b→Calls Tryz.prog 267 #[.slice (some ⟨b,0,none⟩) 2 2] (W.alloc (.cells #[.int .i64 r1,.int .i64 r2] 3)).drew fun e w'=>e = .returned (.int .i64 (if r1=0 then r2 else r1))∧w'=(W.alloc (.cells #[.int .i64 r1,.int .i64 r2] 3)).drew:=by
  rintro W b rfl
  have hh:(W.alloc (.cells #[.int .i64 r1,.int .i64 r2] 3)).drew.heap[W.heap.size]? = some (.cells #[.int .i64 r1,.int .i64 r2] 3 (0,0)):=World.alloc_heap_new W _
  exact Tryz.or_ints _ r1 r2 _ (by rw [Lib.cell_of_heap hh]; rfl) (by rw [Lib.cell_of_heap hh]; rfl)
 generalize (if r1=0 then r2 else r1)=rr at c3 ⊢
 go_enter Tryz.func266,Tryz.ntmps266
 go_wp2
 go_region_held2 (fun W=>W.cell? ⟨w.heap.size,0,none⟩=some (.string k1)∧W.cell? ⟨w.heap.size,1,none⟩=some (.string v1)∧W.cell? ⟨w.heap.size+1,0,none⟩=some (.string k2)∧W.cell? ⟨w.heap.size+1,1,none⟩=some (.string v2)) (go_keep) (first
  | (go_at_call_of 268 (Value.string k1); refine (c1 _).mono ?_; rintro e w' ⟨rfl,rfl⟩)
  | (go_at_call_of 268 (Value.string v1); refine (c2 _).mono ?_; rintro e w' ⟨rfl,rfl⟩)
  | (go_at_call 267; refine (c3 _ _ (by simp)).mono ?_; rintro e w' ⟨rfl,rfl⟩))
 go_wp2
 go_ret
 exact ⟨rfl,1,_,by rw [alloc_eq_grow,alloc_eq_grow,alloc_eq_grow,grow_grow,grow_grow]; rfl⟩
set_option maxHeartbeats 4000000 in
set_option maxRecDepth 100000 in
theorem Tryz.sort_none (A:Option Addr) (w:World):Calls Tryz.prog 265 #[.slice A 0 0,.func (.func 266) #[] #[]] w fun e w'=>e = .returned (.tuple #[])∧w.grownBy w' none:=by
 have mixed:Tryz.prog.follows .mixedOrders:=by kernel_rfl
 go_enter Tryz.func265,Tryz.ntmps265
 go_wp2
 refine wp_loop_rounds 1 ?_
 rw [rounds_succ]
 go_wp2
 refine wp_loop_rounds 1 ?_
 rw [rounds_succ]
 go_wp2
 go_end0
 all_goals try simp only []
 go_wp2
 try simp only [Exit.inBlock,Exit.then]
 refine bodyPost_ret (results_none rfl _ _ _) rfl ?_
 try simp only []
 go_at_K
 go_wp2
 go_end0
 exact ⟨rfl,⟨rfl,rfl,rfl,Nat.le_refl _,fun _ _ _=>rfl⟩⟩
theorem zlm:AM.PrOK Tryz.prog (fun _=>True) 265 (.sort AM.TyTag 266 AM.sortTags):=by
 refine AM.sort_ok (AM.enters Tryz.func265 (by kernel_rfl) (by decide)) (fun q cap d w hH hq hd => ?_) Tryz.sort_none
 have eg:∀ args w,(callFunc 266 args).run Tryz.prog w = .ok (.enter 266 args) w:=enters_of Tryz.func266 (by kernel_rfl) rfl
 exact AnyQ.slices_SortFunc Tryz.laySort 2 Tryz.isAgg126 Tryz.sizeOf126 AM.encT (fun _=>rfl) (fun x v hv=>by simp [AM.encT] at hv; rcases hv with rfl | rfl<;>rfl) AM.cmpL AM.swoT 266 #[] q 0 cap d w eg (fun _ _ _ _ x y=>Tryz.cmpTag x y _) hH hq hd
end Go.Proofs
set_option linter.unusedVariables false
set_option linter.unusedSimpArgs false
namespace Go.AM
open Go.Proofs Go.RowKit
def longF:List AV→List AV→Option AV
 | [.int .i64 m,_,.int .i64 f,_,_],[.int .i64 e]=>some (.bool (decide (IntKind.wrap .i64 (e - f)>m)))
 | _,_=>none
theorem RepL.uncons {w:World} {G:GS} {vs:List Value} {c:AV} {cs:List AV} (h:RepL w G vs (c::cs)):∃ v us,vs=v::us∧RepV w G v c∧RepL w G us cs:=by
 cases vs with
 | nil=>exact absurd h.1 (by simp)
 | cons v us=>exact ⟨v,us,rfl,h.tail⟩
set_option maxHeartbeats 2000000 in
set_option maxRecDepth 100000 in
theorem znh (b:Nat) (mo fr e:Int) (w:World) (h0:w.cell? ⟨b,0,none⟩=some (.int .i64 mo)) (h2:w.cell? ⟨b,2,none⟩=some (.int .i64 fr)) :
 Calls Tryz.prog 51 #[.pointer (some ⟨b,0,none⟩),.int .i64 e] w fun en w'=>en = .returned (.bool (decide (IntKind.wrap .i64 (e - fr)>mo)))∧w.grownBy w' none:=by
 have mixed:Tryz.prog.follows .mixedOrders=true:=by kernel_rfl
 go_enter Tryz.func51,Tryz.ntmps51
 go_wp2
 go_region
 go_wp2
 go_ret
 refine ⟨?_,rfl,rfl,rfl,Nat.le_refl _,fun _ _ _=>rfl⟩
 show Ending.returned (.bool (decide (mo<wrap64 (e - fr))))=_
 rw [show wrap64 (e - fr)=IntKind.wrap .i64 (e - fr) from by simp [wrap64,IntKind.wrap_i64]]
theorem zme:PrOK Tryz.prog (fun _=>True) 51 (.rd longF):=by
 intro w G b vs t cs ar us v _ hh hcs has hF
 have he:Enters Tryz.prog 51:=enters Tryz.func51 (by kernel_rfl) (by decide)
 unfold longF at hF
 split at hF
 · rename_i m x1 f x3 x4 e
   cases hF
   obtain ⟨v0,u0,e0,r0,hcs⟩:=hcs.uncons
   obtain ⟨v1,u1,e1,r1,hcs⟩:=hcs.uncons
   obtain ⟨v2,u2,e2,r2,hcs⟩:=hcs.uncons
   obtain ⟨y,rfl,ry⟩:=has.one
   obtain ⟨rfl,_⟩:=zj r0
   obtain ⟨rfl,_⟩:=zj r2
   obtain ⟨rfl,_⟩:=zj ry
   have c0:w.cell? ⟨b,0,none⟩=some (.int .i64 m):=by rw [Lib.cell_of_heap hh,← Array.getElem?_toList,e0]; rfl
   have c2:w.cell? ⟨b,2,none⟩=some (.int .i64 f):=by rw [Lib.cell_of_heap hh,← Array.getElem?_toList,e0,e1,e2]; rfl
   refine zan he ((znh b m f e w c0 c2).mono ?_)
   rintro en w' ⟨rfl,hg⟩
   exact ⟨_,rfl,hg,.bool _⟩
 · cases hF
end Go.AM
set_option linter.unusedVariables false
set_option linter.unusedSimpArgs false
namespace Go.AM
open Go.Proofs Go.RowKit
set_option maxHeartbeats 2000000 in
set_option maxRecDepth 100000 in
theorem zpb (b:Nat) (w:World) (h4:w.cell? ⟨b,4,none⟩=some (.bool false)) :
 Calls Tryz.prog 76 #[.pointer (some ⟨b,0,none⟩)] w fun e w'=>e = .returned (.tuple #[])∧w'=w:=by
 have mixed:Tryz.prog.follows .mixedOrders=true:=by kernel_rfl
 go_enter Tryz.func76,Tryz.ntmps76
 go_wp2
 go_end0
 exact ⟨rfl,rfl⟩
set_option maxHeartbeats 2000000 in
set_option maxRecDepth 100000 in
theorem zpc (b:Nat) (w:World) (h4:w.cell? ⟨b,4,none⟩=some (.bool true)) (h2:w.cell? ⟨b,2,none⟩=some (.int .i64 0)) (h3:w.cell? ⟨b,3,none⟩=some (.int .i64 0)) :
 Calls Tryz.prog 76 #[.pointer (some ⟨b,0,none⟩)] w fun e w'=>e = .returned (.tuple #[])∧w'=w:=by
 have mixed:Tryz.prog.follows .mixedOrders=true:=by kernel_rfl
 go_enter Tryz.func76,Tryz.ntmps76
 go_wp2
 go_end0
 exact ⟨rfl,rfl⟩
set_option maxHeartbeats 2000000 in
set_option maxRecDepth 100000 in
theorem zni (b:Nat) (c i:Int) (w:World) (h4:w.cell? ⟨b,4,none⟩=some (.bool true)) (h2:w.cell? ⟨b,2,none⟩=some (.int .i64 c)) (h3:w.cell? ⟨b,3,none⟩=some (.int .i64 i)) (hci:¬(c=0∧i=0)) :
 Calls Tryz.prog 76 #[.pointer (some ⟨b,0,none⟩)] w fun e w'=>e = .panicked (stopE 166 (.pointer (some ⟨b,0,none⟩)))∧w'=w:=by
 have mixed:Tryz.prog.follows .mixedOrders=true:=by kernel_rfl
 by_cases hc:c=0
 · have hi:¬ i=0:=fun e=>hci ⟨hc,e⟩
   go_enter Tryz.func76,Tryz.ntmps76
   go_wp2
   exact ⟨rfl,rfl,rfl⟩
 · go_enter Tryz.func76,Tryz.ntmps76
   go_wp2
   exact ⟨rfl,rfl,rfl⟩
theorem ztw:PrOK Tryz.prog (fun _=>True) 76 (.must 166):=by
 intro w b vs t x y c i tr _ hh hvs
 have he:Enters Tryz.prog 76:=enters Tryz.func76 (by kernel_rfl) (by decide)
 have c2:w.cell? ⟨b,2,none⟩=some (.int .i64 c):=by rw [Lib.cell_of_heap hh,← Array.getElem?_toList,hvs]; rfl
 have c3:w.cell? ⟨b,3,none⟩=some (.int .i64 i):=by rw [Lib.cell_of_heap hh,← Array.getElem?_toList,hvs]; rfl
 have c4:w.cell? ⟨b,4,none⟩=some (.bool tr):=by rw [Lib.cell_of_heap hh,← Array.getElem?_toList,hvs]; rfl
 refine ⟨he _ _,callsIn_wide.2 ?_⟩
 cases tr
 · refine (zpb b w c4).mono ?_
   rintro e w' ⟨rfl,rfl⟩
   exact ⟨rfl,rfl⟩
 · by_cases hci:c=0∧i=0
   · obtain ⟨rfl,rfl⟩:=hci
     refine (zpc b w c4 c2 c3).mono ?_
     rintro e w' ⟨rfl,rfl⟩
     exact ⟨rfl,rfl⟩
   · refine (zni b c i w c4 c2 c3 hci).mono ?_
     rintro e w' ⟨rfl,rfl⟩
     refine ⟨rfl,?_⟩
     rw [if_pos]
     rw [Bool.true_and,Bool.not_eq_true',Bool.and_eq_false_iff,beq_eq_false_iff_ne,beq_eq_false_iff_ne]
     by_cases hc:c=0
     · exact Or.inr fun e=>hci ⟨hc,e⟩
     · exact Or.inl hc
set_option maxHeartbeats 2000000 in
set_option maxRecDepth 100000 in
theorem znj (cv cu cn cf:Nat) (at' co fa no fc ff:Int) (tr:Bool) (w:World)
 (hv:w.cell? ⟨cv,0,none⟩=some (.pointer (some ⟨cu,0,none⟩))) (h1:w.cell? ⟨cu,1,none⟩=some (.int .i64 at')) (h2:w.cell? ⟨cu,2,none⟩=some (.int .i64 co)) (h3:w.cell? ⟨cu,3,none⟩=some (.int .i64 fa)) (h4:w.cell? ⟨cu,4,none⟩=some (.bool tr))
 (hn:w.cell? ⟨cn,0,none⟩=some (.int .i64 no)) (hf0:w.cell? ⟨cf,0,none⟩=some (.int .i64 fc)) (hf1:w.cell? ⟨cf,1,none⟩=some (.int .i64 ff))
 (z4:w.frozen? ⟨cu,4,none⟩=false) (zn:w.frozen? ⟨cn,0,none⟩=false) (zf0:w.frozen? ⟨cf,0,none⟩=false) (zf1:w.frozen? ⟨cf,1,none⟩=false)
 (d1:cu≠cn) (d2:cu≠cf) (d3:cn≠cf) (d4:cv≠cu) (d5:cv≠cn) (d6:cv≠cf) :
 CallsD Tryz.prog 113 #[.pointer (some ⟨cv,0,none⟩),.pointer (some ⟨cn,0,none⟩),.pointer (some ⟨cf,0,none⟩)] .returning w fun e u' w'=>e = .returned (.tuple #[])∧u' = .returning∧w'=((((w.setCell ⟨cu,4,none⟩ (.bool false)).setCell ⟨cn,0,none⟩ (.int .i64 at')).setCell ⟨cf,0,none⟩ (.int .i64 co)).setCell ⟨cf,1,none⟩ (.int .i64 fa)).drew:=by
 have mixed:Tryz.prog.follows .mixedOrders=true:=by kernel_rfl
 refine callsD_of_wpS Tryz.func113 rfl fun c₀ cs hu => ?_
 apply wpS_seq
 apply wpS_region
 simp [wpOpsS,go_sem,recoverD,hu,Tryz.ntmps113,Exit.thenS,hv,h4,z4]
 apply wpS_seq
 apply wpS_seq
 apply wpS_region
 simp [wpOpsS,go_sem,recoverD,hu,Exit.thenS]
 apply wpS_seq
 apply wpS_region
 simp [wpOpsS,go_sem,recoverD,hu,Exit.thenS]
 refine wpS_cond (t:=false) (by simp [Act.eval,Array.replicate]) ?_
 simp only [Bool.false_eq_true,if_false]
 refine wpS_of_wp (wp_skip ?_)
 simp only [Exit.thenS]
 refine wpS_of_wp ?_
 have k:∀ (a:Addr) (v:Value),a≠⟨cu,4,none⟩→w.cell? a=some v→(w.setCell ⟨cu,4,none⟩ (.bool false)).cell? a=some v:=fun a v ha h=>(World.cell?_setCell_other _ _ _ _ (Ne.symm ha)).trans h
 have kv:=k _ _ (by simp [d4]) hv
 have k1:=k _ _ (by simp) h1
 have k2:=k _ _ (by simp) h2
 have k3:=k _ _ (by simp) h3
 have kn:=k _ _ (by simp [Ne.symm d1]) hn
 have kf0:=k _ _ (by simp [Ne.symm d2]) hf0
 have kf1:=k _ _ (by simp [Ne.symm d2]) hf1
 have yn:(w.setCell ⟨cu,4,none⟩ (.bool false)).frozen? ⟨cn,0,none⟩=false:=by simpa using zn
 have yf0:(w.setCell ⟨cu,4,none⟩ (.bool false)).frozen? ⟨cf,0,none⟩=false:=by simpa using zf0
 have yf1:(w.setCell ⟨cu,4,none⟩ (.bool false)).frozen? ⟨cf,1,none⟩=false:=by simpa using zf1
 generalize w.setCell ⟨cu,4,none⟩ (.bool false)=w1 at *
 go_region
 all_goals
  refine ⟨rfl,.returning,?_,.tuple #[],by simp [results,Tryz.results113],rfl,rfl,rfl⟩
  cases c₀
  simp_all
set_option maxHeartbeats 2000000 in
set_option maxRecDepth 100000 in
theorem zkb (cv cu cn cf:Nat) (at' co fa no fc ff:Int) (tr:Bool) (w:World)
 (hv:w.cell? ⟨cv,0,none⟩=some (.pointer (some ⟨cu,0,none⟩))) (h1:w.cell? ⟨cu,1,none⟩=some (.int .i64 at')) (h2:w.cell? ⟨cu,2,none⟩=some (.int .i64 co)) (h3:w.cell? ⟨cu,3,none⟩=some (.int .i64 fa)) (h4:w.cell? ⟨cu,4,none⟩=some (.bool tr))
 (hn:w.cell? ⟨cn,0,none⟩=some (.int .i64 no)) (hf0:w.cell? ⟨cf,0,none⟩=some (.int .i64 fc)) (hf1:w.cell? ⟨cf,1,none⟩=some (.int .i64 ff))
 (z4:w.frozen? ⟨cu,4,none⟩=false) (zn:w.frozen? ⟨cn,0,none⟩=false) (zf0:w.frozen? ⟨cf,0,none⟩=false) (zf1:w.frozen? ⟨cf,1,none⟩=false)
 (d1:cu≠cn) (d2:cu≠cf) (d3:cn≠cf) (d4:cv≠cu) (d5:cv≠cn) (d6:cv≠cf) :
 CallsD Tryz.prog 113 #[.pointer (some ⟨cv,0,none⟩),.pointer (some ⟨cn,0,none⟩),.pointer (some ⟨cf,0,none⟩)] (.panicking [{ v:=.iface 166 (.agg #[.pointer (some ⟨cu,0,none⟩)]),recovered:=false }]) w fun e u' w'=>e = .returned (.tuple #[])∧u' = .panicking [{ v:=.iface 166 (.agg #[.pointer (some ⟨cu,0,none⟩)]),recovered:=true }]∧w'=(((((w.setCell ⟨cu,4,none⟩ (.bool false)).alloc (.cells #[.pointer (some ⟨cu,0,none⟩)] 166)).setCell ⟨cn,0,none⟩ (.int .i64 at')).setCell ⟨cf,0,none⟩ (.int .i64 co)).setCell ⟨cf,1,none⟩ (.int .i64 fa)).drew:=by
 have mixed:Tryz.prog.follows .mixedOrders=true:=by kernel_rfl
 refine callsD_of_wpS Tryz.func113 rfl fun c₀ cs hu => ?_
 apply wpS_seq
 apply wpS_region
 simp [wpOpsS,go_sem,recoverD,hu,Tryz.ntmps113,Exit.thenS,hv,h4,z4]
 have k:∀ (a:Addr) (v:Value),a≠⟨cu,4,none⟩→w.cell? a=some v→(w.setCell ⟨cu,4,none⟩ (.bool false)).cell? a=some v:=fun a v ha h=>(World.cell?_setCell_other _ _ _ _ (Ne.symm ha)).trans h
 have kv:=k _ _ (by simp [d4]) hv
 have k1:=k _ _ (by simp) h1
 have k2:=k _ _ (by simp) h2
 have k3:=k _ _ (by simp) h3
 have kn:=k _ _ (by simp [Ne.symm d1]) hn
 have kf0:=k _ _ (by simp [Ne.symm d2]) hf0
 have kf1:=k _ _ (by simp [Ne.symm d2]) hf1
 have yn:(w.setCell ⟨cu,4,none⟩ (.bool false)).frozen? ⟨cn,0,none⟩=false:=by simpa using zn
 have yf0:(w.setCell ⟨cu,4,none⟩ (.bool false)).frozen? ⟨cf,0,none⟩=false:=by simpa using zf0
 have yf1:(w.setCell ⟨cu,4,none⟩ (.bool false)).frozen? ⟨cf,1,none⟩=false:=by simpa using zf1
 obtain ⟨j,hj,_⟩:=Option.map_eq_some_iff.1 (show (Tryz.prog.info? 164).map (·.size)=some 5 by kernel_rfl)
 have hneq:∀ w:World,(binOp .neq 145 (.pointer (some ⟨cu,0,none⟩)) (.pointer (some ⟨cu,0,none⟩))).run Tryz.prog w = .ok (.bool false) w:=fun w=>Lib.run_neq_ptr_same w _ Tryz.underlying145 hj
 have hta:∀ w:World,(Instr.typeAssert (.iface 166 (.agg #[.pointer (some ⟨cu,0,none⟩)])) 20 166 true).run Tryz.prog w = .ok (.tuple #[.agg #[.pointer (some ⟨cu,0,none⟩)],.bool true]) w:=fun _=>rfl
 generalize w.setCell ⟨cu,4,none⟩ (.bool false)=w1 at *
 apply wpS_seq
 apply wpS_seq
 apply wpS_region
 simp [wpOpsS,go_sem,recoverD,hu,Exit.thenS]
 apply wpS_seq
 apply wpS_region
 simp [wpOpsS,go_sem,recoverD,hu,Exit.thenS]
 refine wpS_cond (t:=true) (by simp [Act.eval,Array.replicate]) ?_
 simp only [if_true]
 apply wpS_seq
 apply wpS_region
 simp [wpOpsS,go_sem,recoverD,hu,Exit.thenS,hta]
 have lv:cv<w1.heap.size:=World.block_lt_of_cell? _ _ kv
 have lu:cu<w1.heap.size:=World.block_lt_of_cell? _ _ k1
 have ln:cn<w1.heap.size:=World.block_lt_of_cell? _ _ kn
 have lf:cf<w1.heap.size:=World.block_lt_of_cell? _ _ kf0
 have hnew:(w1.alloc (.cells #[.pointer (some ⟨cu,0,none⟩)] 166)).cell? ⟨w1.heap.size,0,none⟩=some (.pointer (some ⟨cu,0,none⟩)):=by simp
 replace kv:=(World.cell?_alloc_past (.cells #[.pointer (some ⟨cu,0,none⟩)] 166) cv 0 lv).trans kv
 replace k1:=(World.cell?_alloc_past (.cells #[.pointer (some ⟨cu,0,none⟩)] 166) cu 1 lu).trans k1
 replace k2:=(World.cell?_alloc_past (.cells #[.pointer (some ⟨cu,0,none⟩)] 166) cu 2 lu).trans k2
 replace k3:=(World.cell?_alloc_past (.cells #[.pointer (some ⟨cu,0,none⟩)] 166) cu 3 lu).trans k3
 replace kn:=(World.cell?_alloc_past (.cells #[.pointer (some ⟨cu,0,none⟩)] 166) cn 0 ln).trans kn
 replace kf0:=(World.cell?_alloc_past (.cells #[.pointer (some ⟨cu,0,none⟩)] 166) cf 0 lf).trans kf0
 replace kf1:=(World.cell?_alloc_past (.cells #[.pointer (some ⟨cu,0,none⟩)] 166) cf 1 lf).trans kf1
 replace yn:=(World.frozen?_alloc_past (.cells #[.pointer (some ⟨cu,0,none⟩)] 166) cn 0 ln).trans yn
 replace yf0:=(World.frozen?_alloc_past (.cells #[.pointer (some ⟨cu,0,none⟩)] 166) cf 0 lf).trans yf0
 replace yf1:=(World.frozen?_alloc_past (.cells #[.pointer (some ⟨cu,0,none⟩)] 166) cf 1 lf).trans yf1
 generalize w1.heap.size=q at *
 generalize w1.alloc (.cells #[.pointer (some ⟨cu,0,none⟩)] 166)=w2 at *
 apply wpS_seq
 apply wpS_region
 simp [wpOpsS,go_sem,recoverD,hu,Exit.thenS,hnew,kv,hneq]
 refine wpS_cond (t:=false) (by simp [Act.eval,Array.replicate]) ?_
 simp only [Bool.false_eq_true,if_false]
 refine wpS_of_wp (wp_skip ?_)
 simp only [Exit.thenS]
 refine wpS_of_wp ?_
 go_region
 all_goals
  refine ⟨rfl,.panicking [{ v:=.iface 166 (.agg #[.pointer (some ⟨cu,0,none⟩)]),recovered:=true }],?_,.tuple #[],by simp [results,Tryz.results113],rfl,rfl,rfl⟩
  cases c₀
  simp_all
theorem ztx {W:World→Prop} {F:sdenL [.sl .u8 .unk]→Option (RV.one (.sl .u8 .unk)).den} (hcl:FnOK Tryz.prog W 54 [.sl .u8 .unk] (.one (.sl .u8 .unk)) F) (hF:∀ l:List UInt8,l.length≤70368744177664→F (l,())=some l)
 {B0:Nat} {w0:Wd} {G:GS} {h:H} {w:World} (s:St B0 w0 G h w) (hw:W w) {u:Value} {l:List UInt8} {c:Cap} (hu:RepV w G u (.sl .u8 l c)) (hl:l.length≤70368744177664) :
 Calls Tryz.prog 54 #[u] w fun e w'=>∃ A cc G',e = .returned (.slice A l.length cc)∧Ext G.base G G'∧Keep G.D w w'∧St B0 w0 G' h w'∧RepV w' G' (.slice A l.length cc) (.sl .u8 l .unk):=by
 have he:Enters Tryz.prog 54:=enters Tryz.func54 (by kernel_rfl) (by decide)
 have hu':RepL w ⟨G.D,[],[],[],[],bv0⟩ (#[u]:Array Value).toList (sencL [.sl .u8 .unk] (l,())):=by
  refine ⟨rfl,fun i v a hv ha => ?_⟩
  match i,hv,ha with
  | 0,hv,ha =>
   cases hv; cases ha
   cases hu with
   | sl _ _ _ _ hc _=>exact .sl .u8 l .unk u hc trivial
  | i+1,hv,ha=>simp at hv
 rcases hcl (l,()) l (hF l hl) w G.D #[u] hw hu' (fun b o x=>(s.dat b o x).1) with ⟨h1,h2⟩ | ⟨v,w',h1,h2⟩
 · refine (callsIn_wide.1 h2).mono fun e w' hR => ?_
   cases e with
   | returned v =>
    obtain ⟨av,G',h',x,kp,st,rv,hk⟩:=zf4 s hR (k:=fun a h1=>some (a,h1)) rfl
    simp only [Option.some.injEq,Prod.mk.injEq] at hk
    obtain ⟨rfl,rfl⟩:=hk
    obtain ⟨A,cc,rfl⟩:∃ A cc,v = .slice A l.length cc:=by
     have rv:RepV w' G' v (.sl .u8 l .unk):=rv
     cases rv with
     | sl _ _ _ _ hc _ =>
      simp only [RepC] at hc
      obtain ⟨_,A,cc,_,hv,_⟩:=hc
      exact ⟨A,cc,by simpa using hv⟩
    refine ⟨A,cc,G',rfl,x,kp,?_,rv⟩
    have e:h.tk++(mat [] ((RV.one (.sl .u8 .unk)).enc l)).2=h.tk:=List.append_nil _
    rw [e] at st
    exact st
   | panicked ch=>exact hR.elim
   | outgrown=>exact hR.elim
 · rw [he #[u] w] at h1; cases h1
theorem zfq {n f:Nat} {a c i:Int} {W:World} (h0:W.cell? ⟨n,0,none⟩=some (.int .i64 a)) (h1:W.cell? ⟨f,0,none⟩=some (.int .i64 c)) (h2:W.cell? ⟨f,1,none⟩=some (.int .i64 i)) {tmps:Array Value}
 (t4:tmps[4]?.getD undef = .pointer (some ⟨n,0,none⟩)) (t5:tmps[5]?.getD undef = .pointer (some ⟨f,0,none⟩)):(results Tryz.f81 tmps).run Tryz.prog W = .ok (.tuple #[.int .i64 a,.agg #[.int .i64 c,.int .i64 i]]) W:=by
 simp [results,Tryz.results81,go_sem,t4,t5,h0,h1,h2]
set_option maxHeartbeats 4000000 in
set_option maxRecDepth 100000 in
theorem zvf {W:World→Prop} {F:sdenL [.sl .u8 .unk]→Option (RV.one (.sl .u8 .unk)).den} (hcl:FnOK Tryz.prog W 54 [.sl .u8 .unk] (.one (.sl .u8 .unk)) F) (hF:∀ l:List UInt8,l.length≤70368744177664→F (l,())=some l):PrOK Tryz.prog W 81 (.tryp 166):=by
 intro X B0 w0 G h w vals l c f first cap k r hW hlen s hr hyp
 have he:Enters Tryz.prog 81:=enters Tryz.func81 (by kernel_rfl) (by decide)
 obtain ⟨u,g,hvals,ru,rg⟩:=hr.two
 have hvals':vals=#[u,g]:=Array.ext' (by simpa using hvals)
 subst hvals'
 cases rg with
 | fn _ x y _ _ hx hx1 hy hy1 =>
 refine ⟨he _ _,callsIn_wide.2 ?_⟩
 have i0:∀ (w:World) (G:GS) (k:Int),RepV w G (.int .i64 k) (.int .i64 k):=fun w G k => .int _ _ (by simp)
 obtain ⟨G1,x1,k1,s1,b1,v1⟩:=s.newBox (vs:=#[.int .i64 0]) (cs:=[.int .i64 0]) (.cons (i0 _ _ _) .nil) 3 rfl
 obtain ⟨G2,x2,k2,s2,b2,v2⟩:=s1.newBox (vs:=#[.int .i64 0,.int .i64 0]) (cs:=[.int .i64 0,.int .i64 0]) (.cons (i0 _ _ _) (.cons (i0 _ _ _) .nil)) 76 rfl
 have hc:=ztx hcl hF s2 (hW _ s2.below) ((ru.mono x1 k1).mono x2 k2) hlen
 have hmf:∀ (fn:Fn) (first cap:Array Value) (w:World),(Instr.makeFunc fn first cap).run Tryz.prog w = .ok (.func fn first cap) w:=fun _ _ _ _=>rfl
 have hnil:∀ (fn:Fn) (a b:Array Value) (w:World),(binOp BinOp.eql 151 (.func fn a b) .nilFunc).run Tryz.prog w = .ok (.bool false) w:=fun _ _ _ _=>by kernel_rfl
 go_enter_defers Tryz.func81,Tryz.ntmps81
 go_wp2_with (first | (go_at_call 54; refine hc.mono ?_; rintro e w3 ⟨A,cc,G3,rfl,x3,k3,s3,rv⟩) | (go_at_call 112; go_in))
 obtain ⟨G4,x4,s4⟩:=s3.addHole
 have hcur:RepL w3 G4 (#[.slice A l.length cc,.int .i64 0,.int .i64 0,.int .i64 0,.bool true]:Array Value).toList [.sl .u8 l .unk,.int .i64 0,.int .i64 0,.int .i64 0,.bool true]:=
  .cons (rv.mono x4 (Keep.refl _ _)) (.cons (i0 _ _ _) (.cons (i0 _ _ _) (.cons (i0 _ _ _) (.cons (.bool _) .nil))))
 obtain ⟨G5,x5,k5,s5,b5,v5⟩:=s4.newBox hcur 164 rfl
 have l3:(h.bx++[[AV.int IntKind.i64 0]]++[[AV.int IntKind.i64 0,AV.int IntKind.i64 0]]++[hole]).length=h.bx.length+3:=by simp
 simp only [l3] at b5 v5
 obtain ⟨G6,x6,k6,s6,b6,v6⟩:=s5.fill (q:=h.bx.length+2) (by simp) (vs:=#[.pointer (some ⟨w3.heap.size,0,none⟩)]) (cs:=[.ref (h.bx.length+3) 0]) (.cons (.ref _ _ _ b5 v5) .nil) 145 rfl
 have ebx:(h.bx++[[AV.int IntKind.i64 0]]++[[AV.int IntKind.i64 0,AV.int IntKind.i64 0]]++[hole]++[[AV.sl .u8 l .unk,AV.int .i64 0,AV.int .i64 0,AV.int .i64 0,AV.bool true]]).set (h.bx.length+2) [AV.ref (h.bx.length+3) 0]=h.bx++tryBx h.bx.length l:=by
  simp [tryBx,List.set_append]
 simp only [ebx] at s6
 have y2:=x1.trans (x2.mono (zad x1))
 have y3:=y2.trans (x3.mono (zad y2))
 have y4:=y3.trans (x4.mono (zad y3))
 have y5:=y4.trans (x5.mono (zad y4))
 have y6:=y5.trans (x6.mono (zad y5))
 have z2:=k1.trans x1.D k2
 have z3:=z2.trans y2.D k3
 have z5:=z3.trans y4.D k5
 have z6:=z5.trans y5.D k6
 obtain ⟨c5,u5⟩:=x6.keepB b5 v5
 obtain ⟨b1,v1⟩:=x2.keepB b1 v1
 obtain ⟨b1,v1⟩:=x3.keepB b1 v1
 obtain ⟨b1,v1⟩:=x4.keepB b1 v1
 obtain ⟨b1,v1⟩:=x5.keepB b1 v1
 obtain ⟨b1,v1⟩:=x6.keepB b1 v1
 simp only [List.length_append,List.length_cons,List.length_nil] at b2 v2
 obtain ⟨b2,v2⟩:=x3.keepB b2 v2
 obtain ⟨b2,v2⟩:=x4.keepB b2 v2
 obtain ⟨b2,v2⟩:=x5.keepB b2 v2
 obtain ⟨b2,v2⟩:=x6.keepB b2 v2
 have hs2:(w.alloc (.cells #[.int .i64 0] 3)).heap.size=w.heap.size+1:=Array.size_push ..
 have hs6:(w3.alloc (.cells #[.slice A l.length cc,.int .i64 0,.int .i64 0,.int .i64 0,.bool true] 164)).heap.size=w3.heap.size+1:=Array.size_push ..
 rw [hs2] at b2
 rw [hs6] at b6
 have facts:∀ {G':GS} {h':H} {w':World},Ext G6.base G6 G'→St B0 w0 G' h' w'→∀ {τ:Ty} {l':List τ.den} {sc:Cap} {ra rc ri rx0 ry0 rz0:Int} {rt:Bool},h'.bx[h.bx.length+3]? = some [.sl τ l' sc,.int .i64 ra,.int .i64 rc,.int .i64 ri,.bool rt]→h'.bx[h.bx.length+2]? = some [.ref (h.bx.length+3) 0] →
  h'.bx[h.bx.length+1]? = some [.int .i64 ry0,.int .i64 rz0]→h'.bx[h.bx.length]? = some [.int .i64 rx0] →
  (G'.bx[h.bx.length]? = some (some w.heap.size)∧G'.bx[h.bx.length+1]? = some (some (w.heap.size+1))∧G'.bx[h.bx.length+3]? = some (some w3.heap.size)) ∧
  w'.cell? ⟨w3.heap.size+1,0,none⟩=some (.pointer (some ⟨w3.heap.size,0,none⟩))∧w'.cell? ⟨w3.heap.size,1,none⟩=some (.int .i64 ra)∧w'.cell? ⟨w3.heap.size,2,none⟩=some (.int .i64 rc)∧w'.cell? ⟨w3.heap.size,3,none⟩=some (.int .i64 ri)∧w'.cell? ⟨w3.heap.size,4,none⟩=some (.bool rt) ∧
  w'.cell? ⟨w.heap.size,0,none⟩=some (.int .i64 rx0)∧w'.cell? ⟨w.heap.size+1,0,none⟩=some (.int .i64 ry0)∧w'.cell? ⟨w.heap.size+1,1,none⟩=some (.int .i64 rz0) ∧
  w'.frozen? ⟨w3.heap.size,4,none⟩=false∧w'.frozen? ⟨w.heap.size,0,none⟩=false∧w'.frozen? ⟨w.heap.size+1,0,none⟩=false∧w'.frozen? ⟨w.heap.size+1,1,none⟩=false ∧
  w3.heap.size≠w.heap.size∧w3.heap.size≠w.heap.size+1∧w3.heap.size+1≠w.heap.size∧w3.heap.size+1≠w.heap.size+1:=by
  intro G' h' w' xx st τ l' sc ra rc ri rx0 ry0 rz0 rt e3 e2 e1 e0
  obtain ⟨p0,_⟩:=xx.keepB b1 v1
  obtain ⟨p1,_⟩:=xx.keepB b2 v2
  obtain ⟨p2,_⟩:=xx.keepB b6 v6
  obtain ⟨p3,_⟩:=xx.keepB c5 u5
  obtain ⟨x0,g0,r0,z0⟩:=st.cellI p0 e0 rfl (i:=0) rfl
  obtain ⟨x1,g1,r1,z1⟩:=st.cellI p1 e1 rfl (i:=0) rfl
  obtain ⟨x2,g2,r2,z2⟩:=st.cellI p1 e1 rfl (i:=1) rfl
  obtain ⟨x3,g3,r3,z3⟩:=st.cellI p2 e2 rfl (i:=0) rfl
  obtain ⟨x4,g4,r4,z4⟩:=st.cellI p3 e3 rfl (i:=1) rfl
  obtain ⟨x5,g5,r5,z5⟩:=st.cellI p3 e3 rfl (i:=2) rfl
  obtain ⟨x6,g6,r6,z6⟩:=st.cellI p3 e3 rfl (i:=3) rfl
  obtain ⟨x7,g7,r7,z7⟩:=st.cellI p3 e3 rfl (i:=4) rfl
  obtain ⟨rfl,_⟩:=zj r0
  obtain ⟨rfl,_⟩:=zj r1
  obtain ⟨rfl,_⟩:=zj r2
  obtain ⟨rfl,_⟩:=zj r4
  obtain ⟨rfl,_⟩:=zj r5
  obtain ⟨rfl,_⟩:=zj r6
  obtain rfl:=zah r7
  have hx3:x3 = .pointer (some ⟨w3.heap.size,0,none⟩):=by
   cases r3 with
   | ref _ _ b hb hv =>
    rw [p3] at hb
    obtain rfl:=Option.some.inj (Option.some.inj hb)
    rfl
  subst hx3
  refine ⟨⟨p0,p1,p3⟩,g3,g4,g5,g6,g7,g0,g1,g2,z7,z0,z1,z2,fun e => ?_,fun e => ?_,fun e => ?_,fun e => ?_⟩
  · rw [e] at p3; have:=st.inj _ _ _ p3 p0; omega
  · rw [e] at p3; have:=st.inj _ _ _ p3 p1; omega
  · rw [e] at p2; have:=st.inj _ _ _ p2 p0; omega
  · rw [e] at p2; have:=st.inj _ _ _ p2 p1; omega
 have drewn:∀ w:World,w.grownBy w.drew none:=fun _=>⟨rfl,rfl,rfl,Nat.le_refl _,fun _ _ _=>rfl⟩
 have setb:∀ {bx:List (List AV)} {a b d e C D:List AV},bx[h.bx.length+3]? = some a→bx[h.bx.length+2]? = some b→bx[h.bx.length+1]? = some d→bx[h.bx.length]? = some e →
  (upd (upd bx h.bx.length C) (h.bx.length+1) D)[h.bx.length+3]? = some a∧(upd (upd bx h.bx.length C) (h.bx.length+1) D)[h.bx.length+2]? = some b∧(upd (upd bx h.bx.length C) (h.bx.length+1) D)[h.bx.length+1]? = some D∧(upd (upd bx h.bx.length C) (h.bx.length+1) D)[h.bx.length]? = some C:=by
  intro bx a b d e C D h3 h2 h1 h0
  have l1:=(List.getElem?_eq_some_iff.1 h1).1
  simp only [zk]
  refine ⟨?_,?_,?_,?_⟩
  · rw [List.getElem?_set_ne (by omega),List.getElem?_set_ne (by omega)]; exact h3
  · rw [List.getElem?_set_ne (by omega),List.getElem?_set_ne (by omega)]; exact h2
  · rw [List.getElem?_set,if_pos rfl,if_pos (by rw [List.length_set]; exact l1)]
  · rw [List.getElem?_set_ne (by omega),List.getElem?_set,if_pos rfl,if_pos (by omega)]
 have rx:RepL w G x.toList first:=⟨by simpa using hx,fun i v c hv hc=>hx1 i v c (by simpa using hv) hc⟩
 have ry:RepL w G y.toList cap:=⟨by simpa using hy,fun i v c hv hc=>hy1 i v c (by simpa using hv) hc⟩
 obtain ⟨g1,g2⟩:=hyp G6 _ (x.push (.pointer (some ⟨w3.heap.size,0,none⟩))++y) y6 z6 s6 (by
  rw [Array.toList_append,Array.toList_push]
  exact ((rx.mono y6 z6).append (.cons (.ref _ _ _ c5 u5) .nil)).append (ry.mono y6 z6))
 rw [g1,Oper.upon_enter]
 refine (callsIn_wide.1 g2).mono ?_
 intro e w' hE
 cases e with
 | outgrown=>exact hE.elim
 | returned v =>
  obtain ⟨av,G',h',xx,kx,st,rv',hk⟩:=hE
  obtain ⟨τ,l',sc,ra,rc,ri,rx0,ry0,rz0,rt,e3,e2,e1,e0,hk⟩:=zfp hk
  obtain ⟨⟨p0,p1,p3⟩,kv,kc1,kc2,kc3,kc4,kn,kf0,kf1,zc4,zn,zf0,zf1,d1,d2,d5,d6⟩:=facts xx st e3 e2 e1 e0
  obtain ⟨ka,sa⟩:=st.endTry (a:=ra) (c:=rc) (i:=ri) p0 p1 e0 e1
  have kb:=Keep.of_grown (drewn _) (fun b o x=>(sa.dat b o x).1) (fun _ _ _=>by simp)
  have sb:=sa.grown0 (drewn _)
  obtain ⟨m3,m2,m1,m0⟩:=setb (C:=[.int .i64 ra]) (D:=[.int .i64 rc,.int .i64 ri]) e3 e2 e1 e0
  obtain ⟨_,jv,j1,j2,j3,j4,jn,jf0,jf1,yc4,yn,yf0,yf1,_,_,_,_⟩:=facts xx sb m3 m2 m1 m0
  obtain ⟨kc,sc'⟩:=sb.setI (o:=4) (v:=.bool false) (a:=.bool false) p3 m3 rfl (.bool _) rfl rfl
  have n0:(upd (upd (upd h'.bx h.bx.length [.int .i64 ra]) (h.bx.length+1) [.int .i64 rc,.int .i64 ri]) (h.bx.length+3) [.sl τ l' sc,.int .i64 ra,.int .i64 rc,.int .i64 ri,.bool false])[h.bx.length]? = some [.int .i64 ra]:=by
   rw [zk _ (h.bx.length+3),List.getElem?_set_ne (by omega)]; exact m0
  have n1:(upd (upd (upd h'.bx h.bx.length [.int .i64 ra]) (h.bx.length+1) [.int .i64 rc,.int .i64 ri]) (h.bx.length+3) [.sl τ l' sc,.int .i64 ra,.int .i64 rc,.int .i64 ri,.bool false])[h.bx.length+1]? = some [.int .i64 rc,.int .i64 ri]:=by
   rw [zk _ (h.bx.length+3),List.getElem?_set_ne (by omega)]; exact m1
  obtain ⟨kd,sd⟩:=sc'.endTry (a:=ra) (c:=rc) (i:=ri) p0 p1 n0 n1
  have ke:=Keep.of_grown (drewn _) (fun b o x=>(sd.dat b o x).1) (fun _ _ _=>by simp)
  have se:=sd.grown0 (drewn _)
  have q3:h.bx.length+3<h'.bx.length:=(List.getElem?_eq_some_iff.1 e3).1
  rw [zpa q3] at hk
  have n2:(upd (upd (upd h'.bx h.bx.length [.int .i64 ra]) (h.bx.length+1) [.int .i64 rc,.int .i64 ri]) (h.bx.length+3) [.sl τ l' sc,.int .i64 ra,.int .i64 rc,.int .i64 ri,.bool false])[h.bx.length+2]? = some [.ref (h.bx.length+3) 0]:=by
   rw [zk _ (h.bx.length+3),List.getElem?_set_ne (by omega)]; exact m2
  have n3:(upd (upd (upd h'.bx h.bx.length [.int .i64 ra]) (h.bx.length+1) [.int .i64 rc,.int .i64 ri]) (h.bx.length+3) [.sl τ l' sc,.int .i64 ra,.int .i64 rc,.int .i64 ri,.bool false])[h.bx.length+3]? = some [.sl τ l' sc,.int .i64 ra,.int .i64 rc,.int .i64 ri,.bool false]:=by
   rw [zk _ (h.bx.length+3),List.getElem?_set,if_pos rfl,if_pos (by simp only [zk,List.length_set]; exact q3)]
  obtain ⟨o3,o2,o1,o0⟩:=setb (C:=[.int .i64 ra]) (D:=[.int .i64 rc,.int .i64 ri]) n3 n2 n1 n0
  obtain ⟨_,t0,t1,t2,t3,t4,tn,tf0,tf1,_,_,_,_,_,_,_,_⟩:=facts xx se o3 o2 o1 o0
  go_wp2
  go_region
  go_wp2
  refine leaves_cons (f:=113) (args:=#[.pointer (some ⟨w3.heap.size+1,0,none⟩),.pointer (some ⟨w.heap.size,0,none⟩),.pointer (some ⟨w.heap.size+1,0,none⟩)]) (by simp) (by simp [go_sem]) ?_
  refine (znj _ _ _ _ ra rc ri ra rc ri rt _ jv j1 j2 j3 j4 jn jf0 jf1 yc4 yn yf0 yf1 d1 d2 (by omega) (by omega) d5 d6).mono ?_
  rintro e u' w2 ⟨rfl,rfl,rfl⟩
  refine ⟨.tuple #[.int .i64 ra,.agg #[.int .i64 rc,.int .i64 ri]],?_,?_⟩
  · exact zfq tn tf0 tf1 rfl rfl
  · have yx:=y6.trans (xx.mono (zad y6))
    exact ⟨_,G',_,yx,(((((z6.trans y6.D kx).trans yx.D ka).trans yx.D kb).trans yx.D kc).trans yx.D kd).trans yx.D ke,se,zmd _ _ _ _ _,hk⟩
 | panicked ch =>
  obtain ⟨b,G',h',rfl,hb,xx,kx,st,hk⟩:=hE
  obtain ⟨τ,l',sc,ra,rc,ri,rx0,ry0,rz0,rt,e3,e2,e1,e0,hk⟩:=zfp hk
  obtain ⟨⟨p0,p1,p3⟩,kv,kc1,kc2,kc3,kc4,kn,kf0,kf1,zc4,zn,zf0,zf1,d1,d2,d5,d6⟩:=facts xx st e3 e2 e1 e0
  obtain rfl:b=w3.heap.size:=by
   rw [c5] at hb
   rcases hb with hb | hb
   · exact (Option.some.inj (Option.some.inj hb)).symm
   · cases hb
  obtain ⟨ka,sa⟩:=st.setI (o:=4) (v:=.bool false) (a:=.bool false) p3 e3 rfl (.bool _) rfl rfl
  have hal:∀ (w:World) (o:Obj),w.grownBy (w.alloc o) none:=fun w o=>World.grownBy_alloc w _ none
  have kb:=Keep.of_grown (hal _ (.cells #[.pointer (some ⟨w3.heap.size,0,none⟩)] 166)) (fun b o x=>(sa.dat b o x).1) (fun _ _ _=>by simp)
  have sb:=sa.grown0 (hal _ (.cells #[.pointer (some ⟨w3.heap.size,0,none⟩)] 166))
  have q3:h.bx.length+3<h'.bx.length:=(List.getElem?_eq_some_iff.1 e3).1
  have n0:(upd h'.bx (h.bx.length+3) [.sl τ l' sc,.int .i64 ra,.int .i64 rc,.int .i64 ri,.bool false])[h.bx.length]? = some [.int .i64 rx0]:=by
   rw [zk,List.getElem?_set_ne (by omega)]; exact e0
  have n1:(upd h'.bx (h.bx.length+3) [.sl τ l' sc,.int .i64 ra,.int .i64 rc,.int .i64 ri,.bool false])[h.bx.length+1]? = some [.int .i64 ry0,.int .i64 rz0]:=by
   rw [zk,List.getElem?_set_ne (by omega)]; exact e1
  have n2:(upd h'.bx (h.bx.length+3) [.sl τ l' sc,.int .i64 ra,.int .i64 rc,.int .i64 ri,.bool false])[h.bx.length+2]? = some [.ref (h.bx.length+3) 0]:=by
   rw [zk,List.getElem?_set_ne (by omega)]; exact e2
  have n3:(upd h'.bx (h.bx.length+3) [.sl τ l' sc,.int .i64 ra,.int .i64 rc,.int .i64 ri,.bool false])[h.bx.length+3]? = some [.sl τ l' sc,.int .i64 ra,.int .i64 rc,.int .i64 ri,.bool false]:=by
   rw [zk,List.getElem?_set,if_pos rfl,if_pos q3]
  obtain ⟨kd,sd⟩:=sb.endTry (a:=ra) (c:=rc) (i:=ri) p0 p1 n0 n1
  have ke:=Keep.of_grown (drewn _) (fun b o x=>(sd.dat b o x).1) (fun _ _ _=>by simp)
  have se:=sd.grown0 (drewn _)
  obtain ⟨o3,o2,o1,o0⟩:=setb (C:=[.int .i64 ra]) (D:=[.int .i64 rc,.int .i64 ri]) n3 n2 n1 n0
  obtain ⟨_,t0,t1,t2,t3,t4,tn,tf0,tf1,_,_,_,_,_,_,_,_⟩:=facts xx se o3 o2 o1 o0
  simp only [Exit.then,bodyPostD]
  refine leaves_cons (f:=113) (args:=#[.pointer (some ⟨w3.heap.size+1,0,none⟩),.pointer (some ⟨w.heap.size,0,none⟩),.pointer (some ⟨w.heap.size+1,0,none⟩)]) (by simp) (by simp [go_sem]) ?_
  refine (zkb _ _ _ _ ra rc ri rx0 ry0 rz0 rt _ kv kc1 kc2 kc3 kc4 kn kf0 kf1 zc4 zn zf0 zf1 d1 d2 (by omega) (by omega) d5 d6).mono ?_
  rintro e u' w2 ⟨rfl,rfl,rfl⟩
  refine ⟨.tuple #[.int .i64 ra,.agg #[.int .i64 rc,.int .i64 ri]],?_,?_⟩
  · exact zfq tn tf0 tf1 rfl rfl
  · have yx:=y6.trans (xx.mono (zad y6))
    exact ⟨_,G',_,yx,(((((z6.trans y6.D kx).trans yx.D ka).trans yx.D kb)).trans yx.D kd).trans yx.D ke,se,zmd _ _ _ _ _,hk⟩
end Go.AM
set_option linter.unusedVariables false
set_option linter.unusedSimpArgs false
namespace Go.Proofs
open Go.RowKit Go.AM
set_option maxHeartbeats 6400000 in
set_option maxRecDepth 100000 in
theorem Tryz.words_call (w:World):Calls Tryz.prog 192 #[] w fun e w'=>e = .returned (.map (some w.heap.size))∧w'=w.alloc (.map wordsMap 4):=by
 have mixed:Tryz.prog.follows .mixedOrders:=by kernel_rfl
 have h0:(Instr.makeMap 277 none).run Tryz.prog w = .ok (.map (some w.heap.size)) (w.alloc (.map #[] 0)):=rfl
 have up:=fun es c key v h=>zi4 (P:=Tryz.prog) (t:=277) (k:=3) (e:=9) Tryz.underlying277 Tryz.underlying3 w es c key v h
 have h1:=up #[] 0 1 (.string ⟨#[99]⟩) (by simp)
 have h2:=up #[⟨.int .i64 1,.string ⟨#[99]⟩,0⟩] 1 2 (.string ⟨#[103]⟩) (by simp)
 have h3:=up #[⟨.int .i64 1,.string ⟨#[99]⟩,0⟩,⟨.int .i64 2,.string ⟨#[103]⟩,1⟩] 2 3 (.string ⟨#[109,115]⟩) (by simp)
 have h4:=up #[⟨.int .i64 1,.string ⟨#[99]⟩,0⟩,⟨.int .i64 2,.string ⟨#[103]⟩,1⟩,⟨.int .i64 3,.string ⟨#[109,115]⟩,2⟩] 3 4 (.string ⟨#[104]⟩) (by simp)
 clear up
 simp only [List.push_toArray,List.nil_append,List.cons_append] at h1 h2 h3 h4
 go_enter Tryz.func192,Tryz.ntmps192
 go_wp2
 go_ret
 exact ⟨rfl,rfl⟩
set_option maxHeartbeats 6400000 in
set_option maxRecDepth 100000 in
theorem Tryz.statsd_Word (k:Int) (w:World):Calls Tryz.prog 135 #[.int .i64 k] w fun e w'=>e = .returned (.tuple #[.string ⟨(wordL k).toArray⟩,.int .i64 (wordE k)])∧Below w.heap.size w w':=by
 have mixed:Tryz.prog.follows .mixedOrders:=by kernel_rfl
 have e1:∀ args w,(callFunc 192 args).run Tryz.prog w = .ok (.enter 192 args) w:=enters_of Tryz.func192 (by kernel_rfl) rfl
 have hz:∀ w',(zeroValue 9).run Tryz.prog w' = .ok (.string ⟨#[]⟩) w':=fun w'=>by rfl
 obtain ⟨v,b,hv,hb,hvb,hl⟩:∃ (v:List UInt8) (b:Bool),v=wordL k∧b=decide (k=1∨k=2∨k=3∨k=4)∧(b=false→v=[])∧(Instr.lookup 277 (.map (some w.heap.size)) (.int .i64 k) true).run Tryz.prog (w.alloc (.map wordsMap 4)) = .ok (.tuple #[.string ⟨v.toArray⟩,.bool b]) (w.alloc (.map wordsMap 4)):=by
  by_cases h1:k=1
  · subst h1; exact ⟨[99],true,rfl,rfl,(fun h=>by cases h),zb4 (P:=Tryz.prog) (k:=3) (e:=9) Tryz.underlying277 Tryz.underlying3 w wordsMap 4 1 (i:=0) rfl rfl⟩
  by_cases h2:k=2
  · subst h2; exact ⟨[103],true,rfl,rfl,(fun h=>by cases h),zb4 (P:=Tryz.prog) (k:=3) (e:=9) Tryz.underlying277 Tryz.underlying3 w wordsMap 4 2 (i:=1) rfl rfl⟩
  by_cases h3:k=3
  · subst h3; exact ⟨[109,115],true,rfl,rfl,(fun h=>by cases h),zb4 (P:=Tryz.prog) (k:=3) (e:=9) Tryz.underlying277 Tryz.underlying3 w wordsMap 4 3 (i:=2) rfl rfl⟩
  by_cases h4:k=4
  · subst h4; exact ⟨[104],true,rfl,rfl,(fun h=>by cases h),zb4 (P:=Tryz.prog) (k:=3) (e:=9) Tryz.underlying277 Tryz.underlying3 w wordsMap 4 4 (i:=3) rfl rfl⟩
  refine ⟨[],false,?_,?_,(fun _=>rfl),zi5 (P:=Tryz.prog) (k:=3) (e:=9) Tryz.underlying277 Tryz.underlying3 w wordsMap 4 k ?_ hz⟩
  · unfold wordL; rw [if_neg h1,if_neg h2,if_neg h3,if_neg h4]
  · simp [h1,h2,h3,h4]
  · intro x hx
    simp only [wordsMap,List.mem_cons,List.mem_nil_iff,or_false] at hx
    rcases hx with rfl | rfl | rfl | rfl
    · exact ⟨1,rfl,Ne.symm h1⟩
    · exact ⟨2,rfl,Ne.symm h2⟩
    · exact ⟨3,rfl,Ne.symm h3⟩
    · exact ⟨4,rfl,Ne.symm h4⟩
 have hE:wordE k=if b then 0 else 16:=by subst hb; unfold wordE; simp
 rw [← hv,hE]
 clear hv hE hb hz
 cases b
 · obtain rfl:=hvb rfl
   go_enter Tryz.func135,Tryz.ntmps135
   go_wp2_with (go_at_fn 192; refine (Tryz.words_call _).mono ?_; rintro e w' ⟨rfl,rfl⟩)
   all_goals go_ret2
   all_goals exact ⟨rfl,zij _⟩
 · go_enter Tryz.func135,Tryz.ntmps135
   go_wp2_with (go_at_fn 192; refine (Tryz.words_call _).mono ?_; rintro e w' ⟨rfl,rfl⟩)
   all_goals go_ret2
   all_goals exact ⟨rfl,zij _⟩
end Go.Proofs
