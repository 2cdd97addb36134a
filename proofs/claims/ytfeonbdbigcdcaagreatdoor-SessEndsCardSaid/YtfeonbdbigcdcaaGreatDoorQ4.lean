/- Part 4 of a proof by the abstract machine. -/
import Derived.Test.YtfeonbdbigcdcaaGreatDoorQ3
import Derived.Shelf.Strings.Builder1
import Derived.Shelf.Strings.Builder2
import Derived.Shelf.Strings.OnBuilder
import Derived.Shelf.Strings.Trim
import Derived.Shelf.Small.Utf8
import Derived.Shelf.Small.Bits
import Derived.Shelf.Small.Strs
import Derived.Shelf.Small.Wraps
import Derived.Shelf.Strings.BuilderF
import Derived.Shelf.Strconv.Atoi
import Derived.Shelf.Strconv.Itoa0
import Derived.Shelf.Strconv.Itoa1
import Derived.Shelf.LaysM
import Derived.Shelf.Strconv.Itoa2
import Derived.Shelf.Strconv.Itoa3
import Derived.Shelf.Strconv.AtoiErrFast
import Derived.Shelf.Strconv.ParseIntEmpty
import Derived.Shelf.Strconv.AtoiFail
import Derived.Shelf.Strconv.Clone
import Derived.Shelf.Strconv.SyntaxError
import Derived.Shelf.LaysC
import Derived.Shelf.Strconv.ToError
import Derived.Shelf.Strconv.AtoiErr
import Derived.Shelf.Strconv.ErrVar
import Derived.Shelf.Strconv.Lower
import Derived.Shelf.Strconv.ParseUint10
import Derived.Shelf.Strconv.ParseUint10Empty
import Derived.Shelf.Strconv.ParseUint10Any
import Derived.Shelf.Strconv.ParseInt10
import Derived.Shelf.Strconv.AtoiLong
import Derived.Shelf.Strconv.AtoiInnerAll
import Derived.Shelf.Strconv.RangeError
import Derived.Shelf.Strconv.ToErrorRange
import Derived.Shelf.Strconv.AtoiAll
import Derived.Shelf.Strconv.ErrVarAll
import Derived.Shelf.Strings.Search1
import Derived.Shelf.Strings.Search2
import Derived.Shelf.Strings.Search3
import Derived.Shelf.Strings.Cut
import Derived.Shelf.Strings.Count
import Derived.Shelf.Strings.Shaped
import Derived.Shelf.Strings.Prefix
import Derived.Shelf.Strings.Split
import Derived.Shelf.Strings.SplitShaped
import Derived.Shelf.Unicode.Decode
import Derived.Shelf.Strings.Runes
import Derived.Shelf.Strings.RuneCount
import Derived.Shelf.Strings.AsciiSet
import Derived.Shelf.Strings.Explode
import Derived.Shelf.Bits.Mul64
import Derived.Shelf.Strings.Repeat
import Derived.Shelf.Unicode.DecodeSlow
import Derived.Shelf.Bytes.SlIndexSmall
import Derived.Shelf.Bytes.SlIndexAt
import Derived.Shelf.Bytes.SlSearch0
import Derived.Shelf.Bytes.Small
import Derived.Shelf.Bytes.IndexByte
import Derived.Shelf.SlGeneric
import Derived.Ground.SlsfProg
import Derived.Shelf.SlSortCmp.WholeK
import Derived.Test.YtfeonbdbigcdcaaGreatDoorProg
import Derived.Lib.IndexBytes
import Derived.Lib.Walk
import Derived.WalkKit
import Derived.BigCall
import Derived.BigGuard
import Derived.Deep.RegionHeld2
import Derived.LoopN
import Derived.Lib.Builder
import Derived.WalkLawsBesides
import Derived.Defers
import Derived.Recover
import Derived.BigRegion
import Derived.KernelRfl
set_option linter.unusedVariables false
namespace Go.AM
abbrev Y0:Ty:=.int .i64
abbrev Y1:Ty:=.agg [Y0,Y0,.str,.bool]
abbrev Y2:Ty:=.int .u64
abbrev Y3:Ty:=.agg [.bool,Y2,Y0]
abbrev Y4:Ty:=.agg [.str,.str]
abbrev Y5:Ty:=.sl Y3
abbrev Y6:Ty:=.sl Y4
abbrev Y7:Ty:=.agg [.str,Y0,Y5,Y0,Y6,Y0]
abbrev Y8:Ty:=.sl Y7
abbrev Y9:Ty:=.agg [Y0,Y0,Y0,Y8,Y0,Y0]
abbrev Y10:Ty:=.agg [Y0,Y0]
abbrev Y11:Ty:=.agg [Y0,Y0,(.sl .u8),Y10]
abbrev Y12:Ty:=.sl Y9
abbrev Y13:Ty:=.agg [Y0,Y0,(.sl .u8),Y0,.bool]
abbrev Y14:Ty:=.agg [Y0,Y0,Y0,(.sl .u8),.bool]
abbrev Y15:Ty:=.sl Y1
abbrev Y16:Ty:=.sl Y11
abbrev Y17:Ty:=.int .u32
abbrev Y18:Ty:=.agg [.u8,Y0]
abbrev Y19:Ty:=.agg [Y18,Y18,Y18]
abbrev Y20:Ty:=.agg [(.sl .u8),Y0,Y10,.bool]
abbrev Y21:Ty:=.agg [Y7,Y0,Y0]
abbrev Y22:Ty:=.agg [Y0,.str,.bool]
abbrev Y23:Ty:=.agg [.u8,.u8]
abbrev Y24:Ty:=.agg [.str,.str,.str,.str,.str,.str]
abbrev Z0:Type:=List (UInt8)
abbrev Z1:Type:=List UInt8
abbrev Z2:Type:=(Bool)×(Int)×(Int)
abbrev Z3:Type:=List (Z2)
abbrev Z4:Type:=(Z1)×(Z1)
abbrev Z5:Type:=List (Z4)
abbrev Z6:Type:=(Z1)×(Int)×(Z3)×(Int)×(Z5)×(Int)
abbrev Z7:Type:=List (Z6)
abbrev Z8:Type:=(Int)×(Int)×(Int)×(Z7)×(Int)×(Int)
abbrev Z9:Type:=List (Z8)
abbrev Z10:Type:=(Int)×(Int)×(Z1)×(Bool)
abbrev Z11:Type:=List (Z10)
abbrev Z12:Type:=(Int)×(Int)
abbrev Z13:Type:=(Int)×(Int)×(Z0)×(Z12)
abbrev Z14:Type:=List (Z13)
abbrev Z15:Type:=(Int)×(Int)×(Int)×(Int)×(Int)×(Int)×Unit
abbrev Z16:Type:=(Int)×(Int)×Unit
abbrev Z17:Type:=List (List UInt8×Int)
abbrev Z18:Type:=List (Z1)
abbrev Z19:Type:=(Z1)×(Z1)×Unit
abbrev Z20:Type:=(Bool)×(Int)×(Int)×Unit
abbrev Z21:Type:=(Z1)×(Int)×(Z3)×(Int)×(Z5)×(Int)×Unit
abbrev Z22:Type:=(Z1)×(Unit)×(Z1)×(Unit)×(Z1)×(Unit)×Unit
abbrev Z23:Type:=Nat×Nat
abbrev Z24:Type:=Nat×List (Z4)
abbrev Z25:Type:=(Z1)×(Z1)×(Z1)×(Z1)×(Z1)×(Z1)×Unit
abbrev Z26:Type:=(Int)×(Int)×(Int)×(Z7)×(Int)×(Int)×Unit
noncomputable def F.zj.L2.step {X:Type} (n:Nat) (rec:Z0→Z15→Int→Int→Int→Option X) (k0:Z0→Int→Int→Option X) (kr:Int→Int→Int→Int→Option X) (c:Z0) (a:Z15) (b:Int) (d:Int) (e:Int):Option X:=
 bif decide (b<(3:Int)) then
  bif b==(0:Int) then
   bif decide (b≥(c.length:Int)) then
    kr (0:Int) (0:Int) (0:Int) (0:Int)
   else
    (idx c b).bind fun f =>
     bif !(((f).toNat)==a.1) then
      kr (0:Int) (0:Int) a.2.1 b
     else
      rec c (a.1,a.2.1,a.2.2.1,a.2.2.2.1,a.2.2.2.2.1,a.2.2.2.2.2.1,()) (IntKind.wrap .i64 (b+(1:Int))) d e
  else
  bif b==(1:Int) then
   bif decide (b≥(c.length:Int)) then
    kr (0:Int) (0:Int) (0:Int) (0:Int)
   else
    (idx c b).bind fun g =>
     bif !(((g).toNat)==a.2.2.1) then
      kr (0:Int) (0:Int) a.2.2.2.1 b
     else
      rec c (a.1,a.2.1,a.2.2.1,a.2.2.2.1,a.2.2.2.2.1,a.2.2.2.2.2.1,()) (IntKind.wrap .i64 (b+(1:Int))) d e
  else
  bif b==(2:Int) then
   bif decide (b≥(c.length:Int)) then
    kr (0:Int) (0:Int) (0:Int) (0:Int)
   else
    (idx c b).bind fun h =>
     bif !(((h).toNat)==a.2.2.2.2.1) then
      kr (0:Int) (0:Int) a.2.2.2.2.2.1 b
     else
      rec c (a.1,a.2.1,a.2.2.1,a.2.2.2.1,a.2.2.2.2.1,a.2.2.2.2.2.1,()) (IntKind.wrap .i64 (b+(1:Int))) d e
  else
   none
 else
  k0 c d e
noncomputable def F.zj.L2 {X:Type} (n:Nat) (k0:Z0→Int→Int→Option X) (kr:Int→Int→Int→Int→Option X):Nat→Z0→Z15→Int→Int→Int→Option X
 | 0=>fun _ _ _ _ _=>none
 | m+1=>fun a b c d e=>F.zj.L2.step n (F.zj.L2 n k0 kr m) k0 kr a b c d e
noncomputable def F.zj.L10.step {X:Type} (n:Nat) (rec:Z0→Int→Int→Int→Int→Option X) (k3:Int→Int→Option X) (kr:Int→Int→Int→Int→Option X) (d:Z0) (c:Int) (a:Int) (e:Int) (f:Int):Option X:=
 bif decide (a<(d.length:Int)) then
  (idx d a).bind fun b =>
   bif a==(5:Int) then
    bif decide ((IntKind.wrap .i64 ((b).toNat))≥(128:Int)) then
     kr (0:Int) (0:Int) (12:Int) a
    else
    bif decide ((IntKind.wrap .i64 ((7:Int)*(IntKind.wrap .i64 (a - (3:Int)))))<0) then
     none
    else
    bif decide ((IntKind.wrap .i64 ((b).toNat))≥(128:Int)) then
     rec d (bitsA .or .i64 c (shlA .i64 ((IntKind.wrap .i64 ((b).toNat)).tmod (128:Int)) (IntKind.wrap .i64 ((7:Int)*(IntKind.wrap .i64 (a - (3:Int))))))) (IntKind.wrap .i64 (a+(1:Int))) e f
    else
    bif (IntKind.wrap .i64 ((b).toNat))==(0:Int) then
     bif decide (a>(3:Int)) then
      kr (0:Int) (0:Int) (21:Int) a
     else
     bif decide ((bitsA .or .i64 c (shlA .i64 ((IntKind.wrap .i64 ((b).toNat)).tmod (128:Int)) (IntKind.wrap .i64 ((7:Int)*(IntKind.wrap .i64 (a - (3:Int)))))))>(1048576:Int)) then
      kr (0:Int) (0:Int) (12:Int) a
     else
      kr (IntKind.wrap .i64 (a+(1:Int))) (bitsA .or .i64 c (shlA .i64 ((IntKind.wrap .i64 ((b).toNat)).tmod (128:Int)) (IntKind.wrap .i64 ((7:Int)*(IntKind.wrap .i64 (a - (3:Int))))))) (0:Int) (0:Int)
    else
    bif decide ((bitsA .or .i64 c (shlA .i64 ((IntKind.wrap .i64 ((b).toNat)).tmod (128:Int)) (IntKind.wrap .i64 ((7:Int)*(IntKind.wrap .i64 (a - (3:Int)))))))>(1048576:Int)) then
     kr (0:Int) (0:Int) (12:Int) a
    else
     kr (IntKind.wrap .i64 (a+(1:Int))) (bitsA .or .i64 c (shlA .i64 ((IntKind.wrap .i64 ((b).toNat)).tmod (128:Int)) (IntKind.wrap .i64 ((7:Int)*(IntKind.wrap .i64 (a - (3:Int))))))) (0:Int) (0:Int)
   else
   bif decide ((IntKind.wrap .i64 ((7:Int)*(IntKind.wrap .i64 (a - (3:Int)))))<0) then
    none
   else
   bif decide ((IntKind.wrap .i64 ((b).toNat))≥(128:Int)) then
    rec d (bitsA .or .i64 c (shlA .i64 ((IntKind.wrap .i64 ((b).toNat)).tmod (128:Int)) (IntKind.wrap .i64 ((7:Int)*(IntKind.wrap .i64 (a - (3:Int))))))) (IntKind.wrap .i64 (a+(1:Int))) e f
   else
   bif (IntKind.wrap .i64 ((b).toNat))==(0:Int) then
    bif decide (a>(3:Int)) then
     kr (0:Int) (0:Int) (21:Int) a
    else
    bif decide ((bitsA .or .i64 c (shlA .i64 ((IntKind.wrap .i64 ((b).toNat)).tmod (128:Int)) (IntKind.wrap .i64 ((7:Int)*(IntKind.wrap .i64 (a - (3:Int)))))))>(1048576:Int)) then
     kr (0:Int) (0:Int) (12:Int) a
    else
     kr (IntKind.wrap .i64 (a+(1:Int))) (bitsA .or .i64 c (shlA .i64 ((IntKind.wrap .i64 ((b).toNat)).tmod (128:Int)) (IntKind.wrap .i64 ((7:Int)*(IntKind.wrap .i64 (a - (3:Int))))))) (0:Int) (0:Int)
   else
   bif decide ((bitsA .or .i64 c (shlA .i64 ((IntKind.wrap .i64 ((b).toNat)).tmod (128:Int)) (IntKind.wrap .i64 ((7:Int)*(IntKind.wrap .i64 (a - (3:Int)))))))>(1048576:Int)) then
    kr (0:Int) (0:Int) (12:Int) a
   else
    kr (IntKind.wrap .i64 (a+(1:Int))) (bitsA .or .i64 c (shlA .i64 ((IntKind.wrap .i64 ((b).toNat)).tmod (128:Int)) (IntKind.wrap .i64 ((7:Int)*(IntKind.wrap .i64 (a - (3:Int))))))) (0:Int) (0:Int)
 else
  k3 e f
noncomputable def F.zj.L10 {X:Type} (n:Nat) (k3:Int→Int→Option X) (kr:Int→Int→Int→Int→Option X):Nat→Z0→Int→Int→Int→Int→Option X
 | 0=>fun _ _ _ _ _=>none
 | m+1=>fun a b c d e=>F.zj.L10.step n (F.zj.L10 n k3 kr m) k3 kr a b c d e
noncomputable def F.zj (n:Nat) (a0:Z0):Option ((Int)×(Int)×(Z16)×Unit):=
 F.zj.L2 n
  (fun a b c =>
   F.zj.L10 n
    (fun l m =>
     some (((0:Int),(0:Int),((0:Int),(0:Int),()),())))
    (fun d e f g =>
     some ((d,e,(f,g,()),()))) n a (0:Int) (3:Int) b c)
  (fun h i j k =>
   some ((h,i,(j,k,()),()))) n a0 ((77:Int),(22:Int),(71:Int),(22:Int),(1:Int),(23:Int),()) (0:Int) (0:Int) (0:Int)
noncomputable def F.zaj (n:Nat) (a0:Z0):Option ((Int)×(Z16)×Unit):=
 (F.zj n a0).bind fun a =>
  bif a.1==(0:Int) then
   some (((0:Int),(a.2.2.1.1,a.2.2.1.2.1,()),()))
  else
   some (((IntKind.wrap .i64 ((IntKind.wrap .i64 (a.1+a.2.1))+(4:Int))),(a.2.2.1.1,a.2.2.1.2.1,()),()))
noncomputable def F.zau (n:Nat) (a0:Z0) (a1:Z0):Option (Bool):=
 some (a0==a1)
noncomputable def F.za1 (n:Nat) (a0:Int):Option (Z0):=
 some ([UInt8.ofNat ((IntKind.wrap .u8 (shrA .u32 a0 (24:Int)))).toNat,UInt8.ofNat ((IntKind.wrap .u8 (shrA .u32 a0 (16:Int)))).toNat,UInt8.ofNat ((IntKind.wrap .u8 (shrA .u32 a0 (8:Int)))).toNat,UInt8.ofNat ((IntKind.wrap .u8 (a0))).toNat])
noncomputable def F.zag.L2.step {X:Type} (n:Nat) (rec:Int→Int→Option X) (k0:Int→Option X) (a:Int) (b:Int):Option X:=
 bif decide (b<(8:Int)) then
  rec (bitsA .xor .u32 (shrA .u32 a (1:Int)) (IntKind.wrap .u32 ((bitsA .and .u32 a (1:Int))*(3988292384:Int)))) (IntKind.wrap .i64 (b+(1:Int)))
 else
  k0 a
noncomputable def F.zag.L2 {X:Type} (n:Nat) (k0:Int→Option X):Nat→Int→Int→Option X
 | 0=>fun _ _=>none
 | m+1=>fun a b=>F.zag.L2.step n (F.zag.L2 n k0 m) k0 a b
noncomputable def F.zag (n:Nat) (a0:Int):Option (Int):=
 F.zag.L2 n
  (fun a =>
   some (a)) n a0 (0:Int)
noncomputable def F.zad.L3.step {X:Type} (n:Nat) (rec:Int→Z0→Int→Int→Option X) (k0:Int→Option X) (b:Int) (c:Z0) (d:Int) (a:Int):Option X:=
 bif decide (a<d) then
  (idx c a).bind fun e =>
   (F.zag n (bitsA .xor .u32 b (IntKind.wrap .u32 ((e).toNat)))).bind fun f =>
    rec f c d (IntKind.wrap .i64 (a+(1:Int)))
 else
  k0 b
noncomputable def F.zad.L3 {X:Type} (n:Nat) (k0:Int→Option X):Nat→Int→Z0→Int→Int→Option X
 | 0=>fun _ _ _ _=>none
 | m+1=>fun a b c d=>F.zad.L3.step n (F.zad.L3 n k0 m) k0 a b c d
noncomputable def F.zad (n:Nat) (a0:Int) (a1:Z0):Option (Int):=
 F.zad.L3 n
  (fun a =>
   some ((bitsA .xor .u32 a (4294967295:Int)))) n (bitsA .xor .u32 a0 (4294967295:Int)) a1 (a1.length:Int) (0:Int)
noncomputable def F.za3 (n:Nat) (a0:Z0):Option (Int):=
 (F.zad n (0:Int) a0).bind fun a =>
  some (a)
noncomputable def F.zav (n:Nat) (a0:Z0):Option (Int):=
 bif decide ((IntKind.wrap .i64 ((a0.length:Int) - (4:Int)))<(0:Int)) then
  some ((13:Int))
 else
  (sub a0 (IntKind.wrap .i64 ((a0.length:Int) - (4:Int))) (a0.length:Int)).bind fun a =>
   (sub a0 (0:Int) (IntKind.wrap .i64 ((a0.length:Int) - (4:Int)))).bind fun b =>
    (F.za3 n b).bind fun c =>
     (F.za1 n c).bind fun d =>
      (F.zau n a d).bind fun e =>
       bif !e then
        some ((24:Int))
       else
        some ((0:Int))
noncomputable def F.zab (n:Nat) (a0:Z0):Option (Z0):=
 bif List.isEmpty a0 then
  both
   (
    some ([]))
   (
    bif decide ((0+a0.length)*1≤2 ^ 46)&&decide (0<1∧1≤2 ^ 20) then
     some ([]++a0)
    else
     none)
 else
 bif decide ((0+a0.length)*1≤2 ^ 46)&&decide (0<1∧1≤2 ^ 20) then
  some ([]++a0)
 else
  none
noncomputable def F.zaw (n:Nat) (a0:Int):Option (Bool):=
 bif decide (a0≥(1:Int)) then
  some (decide (a0≤(5:Int)))
 else
  some (false)
noncomputable def F.za0 (n:Nat) (a0:Z19) (a1:Z19):Option (Bool):=
 bif !(a0.1==a1.1) then
  some (Op.bytesLess a0.1 a1.1)
 else
  some (Op.bytesLess a0.2.1 a1.2.1)
noncomputable def F.zar (n:Nat) (a0:Int):Option (Int):=
 bif (bitsA .and .u64 a0 (1:Int))==(1:Int) then
  some ((IntKind.wrap .i64 (bitsA .xor .u64 (IntKind.max .u64) (shrA .u64 a0 (1:Int)))))
 else
  some ((IntKind.wrap .i64 (shrA .u64 a0 (1:Int))))
noncomputable def F.zap (n:Nat) (a0:Int) (a1:Int):Option ((Int)×(Bool)×Unit):=
 (O.mul64 n a0 (10:Int)).bind fun b =>
  (O.add64 n b.2.1 a1 (0:Int)).bind fun a =>
   bif b.1==(0:Int) then
    some ((a.1,a.2.1==(0:Int),()))
   else
    some ((a.1,false,()))
noncomputable def F.zg.L3.step {X:Type} (n:Nat) (rec:Bool→Int→Int→Bool→Int→Int→Option X) (k0:Bool→Int→Int→Bool→Int→Int→Option X) (c:Bool) (a:Int) (b:Int) (d:Bool) (e:Int) (f:Int):Option X:=
 bif (a.tmod (10:Int))==(0:Int) then
  bif decide (b<(18:Int)) then
   rec c (IntKind.wrap .u64 (a.tdiv (10:Int))) (IntKind.wrap .i64 (b+(1:Int))) d e f
  else
   k0 c a b d e f
 else
  k0 c a b d e f
noncomputable def F.zg.L3 {X:Type} (n:Nat) (k0:Bool→Int→Int→Bool→Int→Int→Option X):Nat→Bool→Int→Int→Bool→Int→Int→Option X
 | 0=>fun _ _ _ _ _ _=>none
 | m+1=>fun a b c d e f=>F.zg.L3.step n (F.zg.L3 n k0 m) k0 a b c d e f
noncomputable def F.zg.L5.step {X:Type} (n:Nat) (rec:Bool→Int→Int→Bool→Int→Int→Option X) (k2:Bool→Int→Int→Bool→Int→Int→Option X) (kr:Int→Bool→Int→Int→Bool→Int→Int→Option X) (b:Bool) (c:Int) (a:Int) (d:Bool) (e:Int) (f:Int):Option X:=
 bif decide (a>(18:Int)) then
  (F.zap n c (0:Int)).bind fun g =>
   bif !g.2.1 then
    kr (10:Int) b c a false (0:Int) (0:Int)
   else
    rec b g.1 (IntKind.wrap .i64 (a - (1:Int))) d e f
 else
  k2 b c a d e f
noncomputable def F.zg.L5 {X:Type} (n:Nat) (k2:Bool→Int→Int→Bool→Int→Int→Option X) (kr:Int→Bool→Int→Int→Bool→Int→Int→Option X):Nat→Bool→Int→Int→Bool→Int→Int→Option X
 | 0=>fun _ _ _ _ _ _=>none
 | m+1=>fun a b c d e f=>F.zg.L5.step n (F.zg.L5 n k2 kr m) k2 kr a b c d e f
noncomputable def F.zg (n:Nat) (a0:Z20):Option ((Z20)×(Int)×Unit):=
 bif a0.2.1==(0:Int) then
  some (((false,(0:Int),(0:Int),()),(0:Int),()))
 else
  F.zg.L3 n
   (fun b c d e f g =>
    F.zg.L5 n
     (fun h i a o p q =>
      bif decide (a<(-18:Int)) then
       some (((false,(0:Int),(0:Int),()),(10:Int),()))
      else
       some (((h,i,a,()),(0:Int),())))
     (fun j r s t k l m =>
      some (((k,l,m,()),j,()))) n b c d e f g) n a0.1 a0.2.1 a0.2.2.1 false (0:Int) (0:Int)
noncomputable def F.zax (n:Nat) (a0:Z20):Option (Int):=
 bif !(a0.2.1==(0:Int)) then
  bif decide (a0.2.2.1<(-18:Int)) then
   some ((10:Int))
  else
  bif decide (a0.2.2.1>(18:Int)) then
   some ((10:Int))
  else
   (F.zg n (a0.1,a0.2.1,a0.2.2.1,())).bind fun a =>
    bif !(a.2.1==(0:Int)) then
     some ((21:Int))
    else
    bif !((a.1.1==a0.1)&&((a.1.2.1==a0.2.1)&&(a.1.2.2.1==a0.2.2.1))) then
     some ((21:Int))
    else
     some ((0:Int))
 else
  (F.zg n (a0.1,a0.2.1,a0.2.2.1,())).bind fun b =>
   bif !(b.2.1==(0:Int)) then
    some ((21:Int))
   else
   bif !((b.1.1==a0.1)&&((b.1.2.1==a0.2.1)&&(b.1.2.2.1==a0.2.2.1))) then
    some ((21:Int))
   else
    some ((0:Int))
noncomputable def F.zaq (n:Nat) (a0:Int):Option (Bool):=
 bif decide (a0≥(1:Int)) then
  some (decide (a0≤(4:Int)))
 else
  some (false)
noncomputable def F.zaa (n:Nat) (a0:Int) (a1:Int) (a2:Int):Option (Bool):=
 bif decide (a0≥a1) then
  some (decide (a0≤a2))
 else
  some (false)
noncomputable def F.zas (n:Nat) (a0:Int) (a1:Int):Option (Bool):=
 bif a0==(3:Int) then
  (F.zaa n a1 (33:Int) (126:Int)).bind fun a =>
   bif a then
    bif !(a1==(44:Int)) then
     some (!(a1==(124:Int)))
    else
     some (false)
   else
    some (false)
 else
 bif a0 == (2:Int) then
  bif a1==(47:Int) then
   some (true)
  else
   (F.zaa n a1 (65:Int) (90:Int)).bind fun b =>
    bif b then
     some (true)
    else
     (F.zaa n a1 (97:Int) (122:Int)).bind fun c =>
      bif c then
       some (true)
      else
      bif a1==(95:Int) then
       some (true)
      else
      bif a1==(46:Int) then
       some (true)
      else
      bif a1==(45:Int) then
       some (true)
      else
       (F.zaa n a1 (48:Int) (57:Int)).bind fun d =>
        some (d)
 else
 bif a0==(1:Int) then
  (F.zaa n a1 (65:Int) (90:Int)).bind fun e =>
   bif e then
    some (true)
   else
    (F.zaa n a1 (97:Int) (122:Int)).bind fun f =>
     bif f then
      some (true)
     else
     bif a1==(95:Int) then
      some (true)
     else
     bif a1==(46:Int) then
      some (true)
     else
     bif a1==(45:Int) then
      some (true)
     else
      (F.zaa n a1 (48:Int) (57:Int)).bind fun g =>
       some (g)
 else
 bif a0==(4:Int) then
  (F.zaa n a1 (48:Int) (57:Int)).bind fun h =>
   some (h)
 else
  some (false)
noncomputable def F.zy.L4.step {X:Type} (n:Nat) (rec:Int→Z1→Int→Int→Option X) (k0:Unit→Option X) (kr:Int→Int→Option X) (b:Int) (c:Z1) (d:Int) (a:Int):Option X:=
 bif decide (a<d) then
  (idx c a).bind fun e =>
   (F.zas n b ((e).toNat)).bind fun f =>
    bif !f then
     kr a (0:Int)
    else
     rec b c d (IntKind.wrap .i64 (a+(1:Int)))
 else
  k0 ()
noncomputable def F.zy.L4 {X:Type} (n:Nat) (k0:Unit→Option X) (kr:Int→Int→Option X):Nat→Int→Z1→Int→Int→Option X
 | 0=>fun _ _ _ _=>none
 | m+1=>fun a b c d=>F.zy.L4.step n (F.zy.L4 n k0 kr m) k0 kr a b c d
noncomputable def F.zy (n:Nat) (a0:Int) (a1:Z1):Option ((Int)×(Int)×Unit):=
 (F.zaq n a0).bind fun a =>
  bif !a then
   some (((0:Int),(1:Int),()))
  else
   F.zy.L4 n
    (fun (_:Unit) =>
     some (((-1:Int),(0:Int),())))
    (fun b c =>
     some ((b,c,()))) n a0 a1 (a1.length:Int) (0:Int)
noncomputable def F.z8.L5.step {X:Type} (n:Nat) (rec:Int→Int→Int→Option X) (k0:Int→Option X) (b:Int) (c:Int) (a:Int):Option X:=
 bif decide (a<(256:Int)) then
  (F.zas n b (IntKind.wrap .u8 (a))).bind fun d =>
   bif d then
    rec b (IntKind.wrap .i64 (c+(1:Int))) (IntKind.wrap .i64 (a+(1:Int)))
   else
    rec b c (IntKind.wrap .i64 (a+(1:Int)))
 else
  k0 c
noncomputable def F.z8.L5 {X:Type} (n:Nat) (k0:Int→Option X):Nat→Int→Int→Int→Option X
 | 0=>fun _ _ _=>none
 | m+1=>fun a b c=>F.z8.L5.step n (F.z8.L5 n k0 m) k0 a b c
noncomputable def F.z8 (n:Nat) (a0:Int):Option ((Int)×(Int)×Unit):=
 (F.zaq n a0).bind fun a =>
  bif !a then
   some (((0:Int),(1:Int),()))
  else
   F.z8.L5 n
    (fun b =>
     some ((b,(0:Int),()))) n a0 (0:Int) (0:Int)
noncomputable def F.za.C1_cur_Cur_Fail {X:Type} (n:Nat) (kn:Int→Int→Option X) (a:Int) (b:Int) (c:Bool) (d:Int) (e:Int):Option X:=
 bif c then
  kn a b
 else
  kn d e
noncomputable def F.za.C1_cur_Cur_Take {X:Type} (n:Nat) (kr:Z0→Int→Int→Int→Option X) (d:Int) (e:Z0) (a:Int) (b:Int) (c:Int):Option X:=
 bif !((b==(0:Int))&&(c==(0:Int))) then
  kr [] a b c
 else
 bif decide (d<(0:Int)) then
  bif (b==(0:Int))&&(c==(0:Int)) then
   F.za.C1_cur_Cur_Fail n
    (fun f g =>
     kr [] a f g) (1:Int) a true b c
  else
   F.za.C1_cur_Cur_Fail n
    (fun h i =>
     kr [] a h i) (1:Int) a false b c
 else
 bif decide (d>(IntKind.wrap .i64 ((e.length:Int) - a))) then
  bif (b==(0:Int))&&(c==(0:Int)) then
   F.za.C1_cur_Cur_Fail n
    (fun j k =>
     kr [] a j k) (13:Int) (e.length:Int) true b c
  else
   F.za.C1_cur_Cur_Fail n
    (fun l m =>
     kr [] a l m) (13:Int) (e.length:Int) false b c
 else
  (sub e (IntKind.wrap .i64 ((IntKind.wrap .i64 (a+d)) - d)) (IntKind.wrap .i64 (a+d))).bind fun o =>
   (F.zab n o).bind fun p =>
    kr p (IntKind.wrap .i64 (a+d)) b c
noncomputable def F.za.C1_cur_Cur_Byte {X:Type} (n:Nat) (kr:Int→Int→Int→Int→Option X) (e:Z0) (f:Int) (g:Int) (h:Int):Option X:=
 F.za.C1_cur_Cur_Take n
  (fun a b c d =>
   bif (a.length:Int)==(1:Int) then
    (idx a (0:Int)).bind fun i =>
     kr ((i).toNat) b c d
   else
    kr (0:Int) b c d) (1:Int) e f g h
noncomputable def F.za.L3_varint_read.step {X:Type} (n:Nat) (rec:Int→Int→Z0→Int→Int→Int→Option X) (k0:Int→Int→Int→Int→Int→Option X) (kr:Int→Int→Int→Int→Int→Int→Option X) (f:Int) (a:Int) (g:Z0) (h:Int) (i:Int) (j:Int):Option X:=
 F.za.C1_cur_Cur_Byte n
  (fun b e c d =>
   bif !((c==(0:Int))&&(d==(0:Int))) then
    kr (0:Int) a (13:Int) e c d
   else
   bif (IntKind.wrap .i64 (a+(1:Int)))==(10:Int) then
    bif decide (b>(1:Int)) then
     kr (0:Int) (IntKind.wrap .i64 (a+(1:Int))) (10:Int) e c d
    else
    bif decide ((IntKind.wrap .i64 ((7:Int)*(IntKind.wrap .i64 ((IntKind.wrap .i64 (a+(1:Int))) - (1:Int)))))<0) then
     none
    else
    bif decide (b≥(128:Int)) then
     rec (bitsA .or .u64 f (shlA .u64 (IntKind.wrap .u64 (bitsA .and .u8 b (127:Int))) (IntKind.wrap .i64 ((7:Int)*(IntKind.wrap .i64 ((IntKind.wrap .i64 (a+(1:Int))) - (1:Int))))))) (IntKind.wrap .i64 (a+(1:Int))) g e c d
    else
    bif b==(0:Int) then
     bif decide ((IntKind.wrap .i64 (a+(1:Int)))>(1:Int)) then
      kr (0:Int) (IntKind.wrap .i64 (a+(1:Int))) (21:Int) e c d
     else
      k0 (bitsA .or .u64 f (shlA .u64 (IntKind.wrap .u64 (bitsA .and .u8 b (127:Int))) (IntKind.wrap .i64 ((7:Int)*(IntKind.wrap .i64 ((IntKind.wrap .i64 (a+(1:Int))) - (1:Int))))))) (IntKind.wrap .i64 (a+(1:Int))) e c d
    else
     k0 (bitsA .or .u64 f (shlA .u64 (IntKind.wrap .u64 (bitsA .and .u8 b (127:Int))) (IntKind.wrap .i64 ((7:Int)*(IntKind.wrap .i64 ((IntKind.wrap .i64 (a+(1:Int))) - (1:Int))))))) (IntKind.wrap .i64 (a+(1:Int))) e c d
   else
   bif decide ((IntKind.wrap .i64 ((7:Int)*(IntKind.wrap .i64 ((IntKind.wrap .i64 (a+(1:Int))) - (1:Int)))))<0) then
    none
   else
   bif decide (b≥(128:Int)) then
    rec (bitsA .or .u64 f (shlA .u64 (IntKind.wrap .u64 (bitsA .and .u8 b (127:Int))) (IntKind.wrap .i64 ((7:Int)*(IntKind.wrap .i64 ((IntKind.wrap .i64 (a+(1:Int))) - (1:Int))))))) (IntKind.wrap .i64 (a+(1:Int))) g e c d
   else
   bif b==(0:Int) then
    bif decide ((IntKind.wrap .i64 (a+(1:Int)))>(1:Int)) then
     kr (0:Int) (IntKind.wrap .i64 (a+(1:Int))) (21:Int) e c d
    else
     k0 (bitsA .or .u64 f (shlA .u64 (IntKind.wrap .u64 (bitsA .and .u8 b (127:Int))) (IntKind.wrap .i64 ((7:Int)*(IntKind.wrap .i64 ((IntKind.wrap .i64 (a+(1:Int))) - (1:Int))))))) (IntKind.wrap .i64 (a+(1:Int))) e c d
   else
    k0 (bitsA .or .u64 f (shlA .u64 (IntKind.wrap .u64 (bitsA .and .u8 b (127:Int))) (IntKind.wrap .i64 ((7:Int)*(IntKind.wrap .i64 ((IntKind.wrap .i64 (a+(1:Int))) - (1:Int))))))) (IntKind.wrap .i64 (a+(1:Int))) e c d) g h i j
noncomputable def F.za.L3_varint_read {X:Type} (n:Nat) (k0:Int→Int→Int→Int→Int→Option X) (kr:Int→Int→Int→Int→Int→Int→Option X):Nat→Int→Int→Z0→Int→Int→Int→Option X
 | 0=>fun _ _ _ _ _ _=>none
 | m+1=>fun a b c d e f=>F.za.L3_varint_read.step n (F.za.L3_varint_read n k0 kr m) k0 kr a b c d e f
noncomputable def F.za.C1_varint_Read {X:Type} (n:Nat) (kr:Int→Int→Int→Int→Option X) (e:Z0) (f:Int) (g:Int) (h:Int):Option X:=
 F.za.L3_varint_read n
  (fun i s j k l =>
   kr i j k l)
  (fun m t b a c d =>
   bif !(b==(0:Int)) then
    eqK (some [(.ref 5 0)]) (some [(.ref 5 0)]) (
     bif (c==(0:Int))&&(d==(0:Int)) then
      F.za.C1_cur_Cur_Fail n
       (fun o p =>
        kr (0:Int) a o p) b (IntKind.wrap .i64 (a - (1:Int))) (!(b==(0:Int))) c d
     else
      F.za.C1_cur_Cur_Fail n
       (fun q r =>
        kr (0:Int) a q r) b (IntKind.wrap .i64 (a - (1:Int))) false c d)
   else
    kr m a c d) n (0:Int) (0:Int) e f g h
noncomputable def F.za.C1_dict_check {X:Type} (n:Nat) (kr:Bool→Int→Int→Option X) (e:Int) (f:Z1) (a:Int) (b:Int) (d:Int):Option X:=
 (F.zy n e f).bind fun c =>
  bif c.2.1==(0:Int) then
   bif decide (c.1<(0:Int)) then
    kr true a b
   else
   bif (a==(0:Int))&&(b==(0:Int)) then
    F.za.C1_cur_Cur_Fail n
     (fun g h =>
      kr false g h) (14:Int) (IntKind.wrap .i64 (d+c.1)) true a b
   else
    F.za.C1_cur_Cur_Fail n
     (fun i j =>
      kr false i j) (14:Int) (IntKind.wrap .i64 (d+c.1)) false a b
  else
  bif (a==(0:Int))&&(b==(0:Int)) then
   F.za.C1_cur_Cur_Fail n
    (fun k l =>
     kr false k l) (14:Int) (IntKind.wrap .i64 (d+c.1)) true a b
  else
   F.za.C1_cur_Cur_Fail n
    (fun m o =>
     kr false m o) (14:Int) (IntKind.wrap .i64 (d+c.1)) false a b
noncomputable def F.za.C8_dict_Dict_fresh {X:Type} (n:Nat) (kr:Z1→Int→Int→Int→Z17→Z18→Nat→Option X) (m:Int) (j:Int) (k:Int) (o:Z0) (l:Int) (p:Int) (q:Int) (c:Z17) (a:Z18) (d:Nat):Option X:=
 F.za.C1_cur_Cur_Take n
  (fun b e h i =>
   bif !((h==(0:Int))&&(i==(0:Int))) then
    kr [] e h i c a d
   else
    F.za.C1_dict_check n
     (fun r f g =>
      bif !r then
       kr [] e f g c a d
      else
       mpLook c b (fun w =>
        bif (f==(0:Int))&&(g==(0:Int)) then
         F.za.C1_cur_Cur_Fail n
          (fun s t =>
           kr [] e s t c a d) (21:Int) j true f g
        else
         F.za.C1_cur_Cur_Fail n
          (fun u v =>
           kr [] e u v c a d) (21:Int) j false f g)
        (
         bif decide ((a.length+1)*16≤2 ^ 46)&&decide (0<16∧16≤2 ^ 20) then
          bif Nat.beq d a.length then
           kr b e f g (mpSet c b ((a++([b])).length:Int)) (a++([b])) ((a++([b])).length)
          else
           none
         else
          none)) m b h i l) (IntKind.wrap .i64 (if (200:Int)<k then (200:Int) else k)) o l p q
noncomputable def F.za.C1_dict_Dict_fresh {X:Type} (n:Nat) (kr:Z1→Int→Int→Int→Z17→Z18→Nat→Option X) (l:Int) (b:Int) (f:Z0) (c:Int) (g:Int) (h:Int) (d:Z17) (a:Z18) (e:Nat):Option X:=
 bif decide ((a.length:Int)≥(65536:Int)) then
  bif (g==(0:Int))&&(h==(0:Int)) then
   F.za.C1_cur_Cur_Fail n
    (fun o p =>
     kr [] c o p d a e) (12:Int) b true g h
  else
   F.za.C1_cur_Cur_Fail n
    (fun q r =>
     kr [] c q r d a e) (12:Int) b false g h
 else
  F.za.C1_varint_Read n
   (fun i m j k =>
    bif decide (i>(200:Int)) then
     bif (j==(0:Int))&&(k==(0:Int)) then
      F.za.C1_cur_Cur_Fail n
       (fun s t =>
        F.za.C8_dict_Dict_fresh n
         (fun u v w x y z A =>
          kr u v w x y z A) l b i f m s t d a e) (12:Int) c true j k
     else
      F.za.C1_cur_Cur_Fail n
       (fun B C =>
        F.za.C8_dict_Dict_fresh n
         (fun D E G H I J K =>
          kr D E G H I J K) l b i f m B C d a e) (12:Int) c false j k
    else
     F.za.C8_dict_Dict_fresh n
      (fun L M N O P Q R =>
       kr L M N O P Q R) l b i f m j k d a e) f c g h
noncomputable def F.za.C1_dict_check_1 {X:Type} (n:Nat) (kr:Bool→Int→Int→Option X) (e:Int) (f:Z1) (a:Int) (b:Int) (c:Int):Option X:=
 (F.zy n e f).bind fun d =>
  bif d.2.1==(0:Int) then
   bif decide (d.1<(0:Int)) then
    kr true a b
   else
   bif (a==(0:Int))&&(b==(0:Int)) then
    F.za.C1_cur_Cur_Fail n
     (fun g h =>
      kr false g h) (14:Int) c true a b
   else
    F.za.C1_cur_Cur_Fail n
     (fun i j =>
      kr false i j) (14:Int) c false a b
  else
  bif (a==(0:Int))&&(b==(0:Int)) then
   F.za.C1_cur_Cur_Fail n
    (fun k l =>
     kr false k l) (14:Int) c true a b
  else
   F.za.C1_cur_Cur_Fail n
    (fun m o =>
     kr false m o) (14:Int) c false a b
noncomputable def F.za.C1_dict_Dict_Get {X:Type} (n:Nat) (kr:Z1→Int→Int→Int→Z17→Z18→Nat→Option X) (k:Int) (m:Z0) (b:Int) (g:Int) (h:Int) (c:Z17) (a:Z18) (d:Nat):Option X:=
 eqK (some [(.int .i64 (0:Int)),(.int .i64 (0:Int))]) (some [(.int .i64 (0:Int)),(.int .i64 (0:Int))]) (
  bif !((g==(0:Int))&&(h==(0:Int))) then
   kr [] b g h c a d
  else
   (F.z8 n k).bind fun j =>
    bif !(j.2.1==(0:Int)) then
     bif (g==(0:Int))&&(h==(0:Int)) then
      F.za.C1_cur_Cur_Fail n
       (fun r s =>
        kr [] b r s c a d) j.2.1 b (!(j.2.1==(0:Int))) g h
     else
      F.za.C1_cur_Cur_Fail n
       (fun t u =>
        kr [] b t u c a d) j.2.1 b false g h
    else
     F.za.C1_varint_Read n
      (fun l i e f =>
       eqK (some [(.int .i64 (0:Int)),(.int .i64 (0:Int))]) (some [(.int .i64 (0:Int)),(.int .i64 (0:Int))]) (
        bif !((e==(0:Int))&&(f==(0:Int))) then
         kr [] i e f c a d
        else
        bif l==(0:Int) then
         F.za.C1_dict_Dict_fresh n
          (fun v w x y z A B =>
           kr v w x y z A B) k b m i e f c a d
        else
        bif decide (l>(IntKind.wrap .u64 ((a.length:Int)))) then
         bif (e==(0:Int))&&(f==(0:Int)) then
          F.za.C1_cur_Cur_Fail n
           (fun C D =>
            kr [] i C D c a d) (25:Int) b true e f
         else
          F.za.C1_cur_Cur_Fail n
           (fun E G =>
            kr [] i E G c a d) (25:Int) b false e f
        else
         (idx a (IntKind.wrap .u64 (l - (1:Int)))).bind fun o =>
          F.za.C1_dict_check_1 n
           (fun H p q =>
            bif !H then
             kr [] i p q c a d
            else
             kr o i p q c a d) k o e f b)) m b g h)
noncomputable def F.za.C1_rec_bound_string {X:Type} (n:Nat) (kr:Z1→Int→Int→Int→Z17→Z18→Nat→Option X) (d:Int) (j:Z0) (e:Int) (k:Int) (l:Int) (m:Z17) (o:Z18) (p:Int) (q:Int) (r:Int) (s:Nat):Option X:=
 F.za.C1_dict_Dict_Get n
  (fun a f b c g h i =>
   bif decide ((a.length:Int)≥q) then
    bif !(decide ((a.length:Int)≤r)) then
     bif (b==(0:Int))&&(c==(0:Int)) then
      F.za.C1_cur_Cur_Fail n
       (fun t u =>
        kr a f t u g h i) d e (!(d==(0:Int))) b c
     else
      F.za.C1_cur_Cur_Fail n
       (fun v w =>
        kr a f v w g h i) d e false b c
    else
     kr a f b c g h i
   else
   bif (b==(0:Int))&&(c==(0:Int)) then
    F.za.C1_cur_Cur_Fail n
     (fun x y =>
      kr a f x y g h i) d e (!(d==(0:Int))) b c
   else
    F.za.C1_cur_Cur_Fail n
     (fun z A =>
      kr a f z A g h i) d e false b c) p j e k l m o s
noncomputable def F.za.C1_rec_word {X:Type} (n:Nat) (kr:Z1→Int→Int→Int→Z17→Z18→Nat→Option X) (a:Int) (b:Z0) (c:Int) (d:Int) (e:Int) (f:Z17) (g:Z18) (h:Int) (i:Int) (j:Int) (k:Nat):Option X:=
 F.za.C1_rec_bound_string n
  (fun l m o p q r s =>
   kr l m o p q r s) a b c d e f g h i j k
noncomputable def F.za.C1_rec_bound_int {X:Type} (n:Nat) (kr:Int→Int→Int→Int→Option X) (d:Int) (g:Z0) (e:Int) (h:Int) (i:Int):Option X:=
 F.za.C1_cur_Cur_Byte n
  (fun a f b c =>
   (F.zaw n (IntKind.wrap .i64 (a))).bind fun j =>
    bif !j then
     bif (b==(0:Int))&&(c==(0:Int)) then
      F.za.C1_cur_Cur_Fail n
       (fun k l =>
        kr (IntKind.wrap .i64 (a)) f k l) d e (!(d==(0:Int))) b c
     else
      F.za.C1_cur_Cur_Fail n
       (fun m o =>
        kr (IntKind.wrap .i64 (a)) f m o) d e false b c
    else
     kr (IntKind.wrap .i64 (a)) f b c) g e h i
noncomputable def F.za.C1_rec_bound_uint64 {X:Type} (n:Nat) (kr:Int→Int→Int→Int→Option X) (d:Int) (g:Z0) (e:Int) (h:Int) (i:Int) (j:Int) (k:Int):Option X:=
 F.za.C1_varint_Read n
  (fun a f b c =>
   bif decide (a≥(IntKind.wrap .u64 (j))) then
    bif !(decide (a≤(IntKind.wrap .u64 (k)))) then
     bif (b==(0:Int))&&(c==(0:Int)) then
      F.za.C1_cur_Cur_Fail n
       (fun l m =>
        kr a f l m) d e (!(d==(0:Int))) b c
     else
      F.za.C1_cur_Cur_Fail n
       (fun o p =>
        kr a f o p) d e false b c
    else
     kr a f b c
   else
   bif (b==(0:Int))&&(c==(0:Int)) then
    F.za.C1_cur_Cur_Fail n
     (fun q r =>
      kr a f q r) d e (!(d==(0:Int))) b c
   else
    F.za.C1_cur_Cur_Fail n
     (fun s t =>
      kr a f s t) d e false b c) g e h i
noncomputable def F.za.C1_rec_number {X:Type} (n:Nat) (kr:Int→Int→Int→Int→Option X) (a:Int) (b:Z0) (c:Int) (d:Int) (e:Int) (f:Int) (g:Int):Option X:=
 F.za.C1_rec_bound_uint64 n
  (fun h i j k =>
   kr (IntKind.wrap .i64 (h)) i j k) a b c d e f g
noncomputable def F.za.C1_rec_GetDec {X:Type} (n:Nat) (kr:Int→Int→Int→Bool→Int→Int→Option X) (m:Z0) (g:Int) (o:Int) (p:Int):Option X:=
 F.za.C1_varint_Read n
  (fun d q r s =>
   (F.zar n (shrA .u64 d (1:Int))).bind fun e =>
    F.za.C1_varint_Read n
     (fun f c a b =>
      bif (a==(0:Int))&&(b==(0:Int)) then
       (F.zax n ((bitsA .and .u64 d (1:Int))==(1:Int),f,e,())).bind fun h =>
        bif (a==(0:Int))&&(b==(0:Int)) then
         F.za.C1_cur_Cur_Fail n
          (fun i j =>
           bif !((i==(0:Int))&&(j==(0:Int))) then
            kr c i j false (0:Int) (0:Int)
           else
            kr c i j ((bitsA .and .u64 d (1:Int))==(1:Int)) f e) h g (!(h==(0:Int))) a b
        else
         F.za.C1_cur_Cur_Fail n
          (fun k l =>
           bif !((k==(0:Int))&&(l==(0:Int))) then
            kr c k l false (0:Int) (0:Int)
           else
            kr c k l ((bitsA .and .u64 d (1:Int))==(1:Int)) f e) h g false a b
      else
      bif !((a==(0:Int))&&(b==(0:Int))) then
       kr c a b false (0:Int) (0:Int)
      else
       kr c a b ((bitsA .and .u64 d (1:Int))==(1:Int)) f e) m q r s) m g o p
noncomputable def F.za.C9_rec_Get {X:Type} (n:Nat) (kn:Int→Int→Int→Int→Z3→Nat→Option X) (j:Int) (k:Z0) (l:Int) (m:Int) (o:Int) (b:Z1) (c:Int) (a:Z3) (d:Int) (e:Z5) (f:Int) (p:Nat):Option X:=
 F.za.C1_rec_GetDec n
  (fun q r s g h i =>
   eqK (some [(.str b),(.int .i64 c),(.sl Y3 a (.own 4)),(.int .i64 d),(.sl Y4 e (.own 5)),(.int .i64 f)]) (some [(.str b),(.int .i64 c),(.sl Y3 a (.own 4)),(.int .i64 d),(.sl Y4 e (.own 5)),(.int .i64 f)]) (
    bif decide ((a.length+1)*24≤2 ^ 46)&&decide (0<24∧24≤2 ^ 20) then
     bif Nat.beq p a.length then
      kn (IntKind.wrap .i64 (j - (1:Int))) q r s (a++([(g,h,i)])) ((a++([(g,h,i)])).length)
     else
      none
    else
     none)) k l m o
noncomputable def F.za.L7_rec_Get.step {X:Type} (n:Nat) (rec:Int→Z0→Int→Int→Int→Z1→Int→Z3→Int→Z5→Int→Nat→Option X) (k0:Int→Int→Int→Z3→Nat→Option X) (f:Int) (g:Z0) (c:Int) (a:Int) (b:Int) (h:Z1) (i:Int) (d:Z3) (j:Int) (k:Z5) (l:Int) (e:Nat):Option X:=
 bif decide (f>(0:Int)) then
  bif (a==(0:Int))&&(b==(0:Int)) then
   F.za.C9_rec_Get n
    (fun m o p q r s =>
     rec m g o p q h i r j k l s) f g c a b h i d j k l e
  else
   k0 c a b d e
 else
  k0 c a b d e
noncomputable def F.za.L7_rec_Get {X:Type} (n:Nat) (k0:Int→Int→Int→Z3→Nat→Option X):Nat→Int→Z0→Int→Int→Int→Z1→Int→Z3→Int→Z5→Int→Nat→Option X
 | 0=>fun _ _ _ _ _ _ _ _ _ _ _ _=>none
 | m+1=>fun a b c d e f g h i j k l=>F.za.L7_rec_Get.step n (F.za.L7_rec_Get n k0 m) k0 a b c d e f g h i j k l
noncomputable def F.za.C7_rec_Get {X:Type} (n:Nat) (kn:Int→Int→Int→Z3→Nat→Option X) (a:Int) (b:Z0) (c:Int) (d:Int) (e:Int) (f:Z1) (g:Int) (h:Z3) (i:Int) (j:Z5) (k:Int) (l:Nat):Option X:=
 F.za.L7_rec_Get n
  (fun m o p q r =>
   kn m o p q r) n a b c d e f g h i j k l
noncomputable def F.za.C22_rec_Get {X:Type} (n:Nat) (kn:Int→Int→Option X) (c:Int) (d:Bool) (a:Int) (b:Int):Option X:=
 bif d then
  bif (a==(0:Int))&&(b==(0:Int)) then
   F.za.C1_cur_Cur_Fail n
    (fun e f =>
     kn e f) (21:Int) c true a b
  else
   F.za.C1_cur_Cur_Fail n
    (fun g h =>
     kn g h) (21:Int) c false a b
 else
  kn a b
noncomputable def F.za.C21_rec_Get {X:Type} (n:Nat) (kn:Int→Int→Option X) (a:Int) (b:Int) (c:Int) (d:Int) (f:Z5) (g:Z1) (h:Z1):Option X:=
 bif decide (b>(0:Int)) then
  (idx f (IntKind.wrap .i64 (b - (1:Int)))).bind fun e =>
   (F.za0 n (e.1,e.2,()) (g,h,())).bind fun i =>
    F.za.C22_rec_Get n
     (fun j k =>
      kn j k) a (!i) c d
 else
  F.za.C22_rec_Get n
   (fun l m =>
    kn l m) a false c d
noncomputable def F.za.C23_rec_Get {X:Type} (n:Nat) (kn:Z5→Nat→Option X) (a:Z5) (b:Z1) (c:Z1) (d:Nat):Option X:=
 bif decide ((a.length+1)*32≤2 ^ 46)&&decide (0<32∧32≤2 ^ 20) then
  bif Nat.beq d a.length then
   kn (a++([(b,c)])) ((a++([(b,c)])).length)
  else
   none
 else
  none
noncomputable def F.za.C20_rec_Get {X:Type} (n:Nat) (kn:Int→Int→Z5→Nat→Option X) (d:Int) (e:Int) (f:Int) (a:Z5) (b:Z1) (c:Z1) (g:Nat):Option X:=
 F.za.C21_rec_Get n
  (fun h i =>
   F.za.C23_rec_Get n
    (fun j k =>
     kn h i j k) a b c g) d (a.length:Int) e f a b c
noncomputable def F.za.C19_rec_Get {X:Type} (n:Nat) (kn:Int→Int→Int→Z17→Z18→Z5→Nat→Nat→Option X) (a:Int) (b:Z0) (c:Int) (d:Int) (e:Int) (f:Z17) (g:Z18) (h:Z5) (i:Z1) (j:Nat) (k:Nat):Option X:=
 F.za.C1_rec_word n
  (fun l m o p q r s =>
   F.za.C20_rec_Get n
    (fun t u v w =>
     kn m t u q r v s w) a o p h i l k) (19:Int) b c d e f g (3:Int) (0:Int) (100:Int) j
noncomputable def F.za.C18_rec_Get {X:Type} (n:Nat) (kn:Int→Int→Int→Z17→Z18→Z5→Nat→Nat→Option X) (b:Int) (a:Z0) (c:Int) (d:Int) (e:Int) (f:Z17) (g:Z18) (h:Z5) (i:Nat) (j:Nat):Option X:=
 F.za.C1_rec_word n
  (fun k l m o p q r =>
   F.za.C19_rec_Get n
    (fun s t u v w x y z =>
     kn s t u v w x y z) b a l m o p q h k r j) (19:Int) a c d e f g (2:Int) (1:Int) (64:Int) i
noncomputable def F.za.C17_rec_Get {X:Type} (n:Nat) (kn:Int→Int→Int→Int→Z17→Z18→Z5→Nat→Nat→Option X) (b:Int) (c:Z0) (a:Int) (d:Int) (e:Int) (f:Z17) (g:Z18) (h:Z5) (i:Nat) (j:Nat):Option X:=
 F.za.C18_rec_Get n
  (fun k l m o p q r s =>
   kn (IntKind.wrap .i64 (b - (1:Int))) k l m o p q r s) a c a d e f g h i j
noncomputable def F.za.L15_rec_Get.step {X:Type} (n:Nat) (rec:Int→Z0→Int→Int→Int→Z17→Z18→Z5→Nat→Nat→Option X) (k2:Int→Int→Int→Z17→Z18→Z5→Nat→Nat→Option X) (i:Int) (j:Z0) (c:Int) (a:Int) (b:Int) (d:Z17) (e:Z18) (f:Z5) (g:Nat) (h:Nat):Option X:=
 bif decide (i>(0:Int)) then
  bif (a==(0:Int))&&(b==(0:Int)) then
   F.za.C17_rec_Get n
    (fun k l m o p q r s t =>
     rec k j l m o p q r s t) i j c a b d e f g h
  else
   k2 c a b d e f g h
 else
  k2 c a b d e f g h
noncomputable def F.za.L15_rec_Get {X:Type} (n:Nat) (k2:Int→Int→Int→Z17→Z18→Z5→Nat→Nat→Option X):Nat→Int→Z0→Int→Int→Int→Z17→Z18→Z5→Nat→Nat→Option X
 | 0=>fun _ _ _ _ _ _ _ _ _ _=>none
 | m+1=>fun a b c d e f g h i j=>F.za.L15_rec_Get.step n (F.za.L15_rec_Get n k2 m) k2 a b c d e f g h i j
noncomputable def F.za.C15_rec_Get {X:Type} (n:Nat) (kn:Int→Int→Int→Z17→Z18→Z5→Nat→Nat→Option X) (a:Int) (b:Z0) (c:Int) (d:Int) (e:Int) (f:Z17) (g:Z18) (h:Z5) (i:Nat) (j:Nat):Option X:=
 F.za.L15_rec_Get n
  (fun k l m o p q r s =>
   kn k l m o p q r s) n a b c d e f g h i j
noncomputable def F.za.C25_rec_Get {X:Type} (n:Nat) (kr:Z1→Int→Z3→Int→Z5→Int→Nat→Nat→Option X) (a:Int) (b:Int) (c:Z1) (d:Int) (e:Z3) (f:Int) (g:Z5) (h:Int) (i:Nat) (j:Nat):Option X:=
 bif !((a==(0:Int))&&(b==(0:Int))) then
  kr [] (0:Int) [] (0:Int) [] (0:Int) 0 0
 else
  kr c d e f g h i j
noncomputable def F.za.C24_rec_Get {X:Type} (n:Nat) (kr:Int→Int→Int→Z1→Int→Z3→Int→Z5→Int→Nat→Nat→Option X) (c:Z0) (d:Int) (e:Int) (f:Int) (g:Z1) (h:Int) (i:Z3) (j:Int) (k:Z5) (l:Nat) (m:Nat):Option X:=
 F.za.C1_rec_number n
  (fun o p a b =>
   F.za.C25_rec_Get n
    (fun q r s t u v w x =>
     kr p a b q r s t u v w x) a b g h i j k o l m) (20:Int) c d e f (0:Int) (1099511627776:Int)
noncomputable def F.za.C14_rec_Get {X:Type} (n:Nat) (kr:Int→Int→Int→Z17→Z18→Z1→Int→Z3→Int→Z5→Int→Nat→Nat→Nat→Option X) (a:Z0) (b:Int) (c:Int) (d:Int) (e:Z17) (f:Z18) (g:Z1) (h:Int) (i:Z3) (j:Int) (k:Z5) (l:Nat) (m:Nat) (o:Nat):Option X:=
 F.za.C1_rec_number n
  (fun p q r s =>
   F.za.C15_rec_Get n
    (fun t u v w x y z A =>
     F.za.C24_rec_Get n
      (fun B C D E G H I J K L M =>
       kr B C D w x E G H I J K z L M) a t u v g h i j y m A) p a q r s e f k l o) (19:Int) a b c d (0:Int) (32:Int)
noncomputable def F.za.C13_rec_Get {X:Type} (n:Nat) (kr:Int→Int→Int→Z17→Z18→Z1→Int→Z3→Int→Z5→Int→Nat→Nat→Nat→Option X) (b:Int) (a:Z0) (c:Int) (d:Int) (e:Int) (f:Z17) (g:Z18) (h:Z1) (i:Int) (j:Z3) (k:Z5) (l:Nat) (m:Nat) (o:Nat):Option X:=
 F.za.C1_rec_number n
  (fun p q r s =>
   F.za.C14_rec_Get n
    (fun t u v w x y z A B C D E G H =>
     kr t u v w x y z A B C D E G H) a q r s f g h i j p k l m o) (18:Int) a c d e b (1000000:Int)
noncomputable def F.za.C10_rec_Get {X:Type} (n:Nat) (kr:Int→Int→Int→Z17→Z18→Z1→Int→Z3→Int→Z5→Int→Nat→Nat→Nat→Option X) (b:Z0) (c:Int) (d:Int) (e:Int) (f:Z17) (g:Z18) (h:Z1) (a:Int) (i:Z3) (j:Z5) (k:Nat) (l:Nat) (m:Nat):Option X:=
 bif a==(2:Int) then
  F.za.C13_rec_Get n
   (fun o p q r s t u v w x y z A B =>
    kr o p q r s t u v w x y z A B) (1000000:Int) b c d e f g h a i j k l m
 else
  F.za.C13_rec_Get n
   (fun C D E G H I J K L M N O P Q =>
    kr C D E G H I J K L M N O P Q) (1:Int) b c d e f g h a i j k l m
noncomputable def F.za.C6_rec_Get {X:Type} (n:Nat) (kr:Int→Int→Int→Z17→Z18→Z1→Int→Z3→Int→Z5→Int→Nat→Nat→Nat→Option X) (a:Z0) (e:Int) (f:Int) (g:Int) (h:Z17) (i:Z18) (b:Z1) (c:Int) (j:Z3) (k:Int) (d:Z5) (l:Int) (m:Nat) (o:Nat) (p:Nat):Option X:=
 F.za.C1_rec_number n
  (fun q r s t =>
   F.za.C7_rec_Get n
    (fun u v w x y =>
     F.za.C10_rec_Get n
      (fun z A B C D E G H I J K L M N =>
       kr z A B C D E G H I J K L M N) a u v w h i b c x d m y p) q a r s t b c j k d l o) (17:Int) a e f g (1:Int) (64:Int)
noncomputable def F.za.C5_rec_Get {X:Type} (n:Nat) (kr:Int→Int→Int→Z17→Z18→Z1→Int→Z3→Int→Z5→Int→Nat→Nat→Nat→Option X) (a:Z0) (b:Int) (c:Int) (d:Int) (e:Z17) (f:Z18) (g:Z1) (h:Z3) (i:Int) (j:Z5) (k:Int) (l:Nat) (m:Nat) (o:Nat):Option X:=
 F.za.C1_rec_bound_int n
  (fun p q r s =>
   F.za.C6_rec_Get n
    (fun t u v w x y z A B C D E G H =>
     kr t u v w x y z A B C D E G H) a q r s e f g p h i j k l m o) (16:Int) a b c d
noncomputable def F.za.C3_rec_Get {X:Type} (n:Nat) (kr:Int→Int→Int→Z17→Z18→Z1→Int→Z3→Int→Z5→Int→Nat→Nat→Nat→Option X) (a:Z0) (b:Int) (c:Int) (d:Int) (e:Z17) (f:Z18) (g:Nat):Option X:=
 F.za.C1_rec_word n
  (fun h i j k l m o =>
   F.za.C5_rec_Get n
    (fun p q r s t u v w x y z A B C =>
     kr p q r s t u v w x y z A B C) a i j k l m h [] (0:Int) [] (0:Int) o 0 0) (15:Int) a b c d e f (1:Int) (1:Int) (200:Int) g
noncomputable def F.za.C1_rec_Get {X:Type} (n:Nat) (kr:Int→Int→Int→Z17→Z18→Z1→Int→Z3→Int→Z5→Int→Nat→Nat→Nat→Option X) (g:Z0) (c:Int) (a:Int) (b:Int) (d:Z17) (e:Z18) (f:Nat):Option X:=
 bif !((a==(0:Int))&&(b==(0:Int))) then
  kr c a b d e [] (0:Int) [] (0:Int) [] (0:Int) f 0 0
 else
  F.za.C3_rec_Get n
   (fun h i j k l m o p q r s t u v =>
    kr h i j k l m o p q r s t u v) g c a b d e f
noncomputable def F.za.L6_frame_Payload_1.step {X:Type} (n:Nat) (rec:Int→Int→Z7→Z0→Int→Int→Int→Bool→Z17→Z18→Nat→Nat→Option X) (k0:Z7→Int→Int→Int→Z17→Z18→Nat→Nat→Option X) (k167000005:Z7→Int→Int→Int→Z17→Z18→Nat→Nat→Option X) (j:Int) (k:Int) (a:Z7) (l:Z0) (m:Int) (o:Int) (p:Int) (q:Bool) (r:Z17) (s:Z18) (t:Nat) (u:Nat):Option X:=
 bif decide (k<j) then
  F.za.C1_rec_Get n
   (fun v h i w x b c d e f g y z A =>
    eqK (some [(.sl Y7 a (.own 0))]) (some [(.sl Y7 a (.own 0))]) (
     bif decide ((a.length+1)*88≤2 ^ 46)&&decide (0<88∧88≤2 ^ 20) then
      bif Nat.beq t a.length then
       bif q && !(h==(0:Int)&&i==(0:Int)) then
        k167000005 (a++([(b,c,d,e,f,g)])) v h i w x ((a++([(b,c,d,e,f,g)])).length) y
       else
        rec j (IntKind.wrap .u64 (k+(1:Int))) (a++([(b,c,d,e,f,g)])) l v h i q w x ((a++([(b,c,d,e,f,g)])).length) y
      else
       none
     else
      none)) l m o p r s u
 else
  k0 a m o p r s t u
noncomputable def F.za.L6_frame_Payload_1 {X:Type} (n:Nat) (k0:Z7→Int→Int→Int→Z17→Z18→Nat→Nat→Option X) (k167000005:Z7→Int→Int→Int→Z17→Z18→Nat→Nat→Option X):Nat→Int→Int→Z7→Z0→Int→Int→Int→Bool→Z17→Z18→Nat→Nat→Option X
 | 0=>fun _ _ _ _ _ _ _ _ _ _ _ _=>none
 | m+1=>fun a b c d e f g h i j k l=>F.za.L6_frame_Payload_1.step n (F.za.L6_frame_Payload_1 n k0 k167000005 m) k0 k167000005 a b c d e f g h i j k l
noncomputable def F.za.C3_frame_Payload_1 {X:Type} (n:Nat) (k167000005:Z7→Int→Int→Int→Nat→Option X) (kn:Z7→Int→Int→Int→Nat→Option X) (m:Int) (h:Z7) (i:Z0) (j:Int) (d:Int) (e:Int) (k:Bool) (l:Nat):Option X:=
 bif k && !(d==(0:Int)&&e==(0:Int)) then
  k167000005 h j d e l
 else
  F.za.L6_frame_Payload_1 n
   (fun f a b c x y g z =>
    bif decide ((IntKind.wrap .i64 ((i.length:Int) - a))>(0:Int)) then
     bif (b==(0:Int))&&(c==(0:Int)) then
      F.za.C1_cur_Cur_Fail n
       (fun o p =>
        kn f a o p g) (11:Int) a true b c
     else
      F.za.C1_cur_Cur_Fail n
       (fun q r =>
        kn f a q r g) (11:Int) a false b c
    else
     kn f a b c g)
   (fun s t u v A B w C =>
    k167000005 s t u v w) n m (0:Int) h i j d e k [] [] l 0
noncomputable def F.za (n:Nat) (a0:Z0):Option ((Z7)×(Z16)×Unit):=
 bif Nat.ble a0.length 70368744177664 then
  F.za.C1_varint_Read n
   (fun a d b c =>
    bif decide (a>(1000:Int)) then
     bif (b==(0:Int))&&(c==(0:Int)) then
      F.za.C1_cur_Cur_Fail n
       (fun r s =>
        F.za.C3_frame_Payload_1 n
         (fun t B e f C =>
          bif !((e==(0:Int))&&(f==(0:Int))) then
           some (([],(e,f,()),()))
          else
           some ((t,((0:Int),(0:Int),()),())))
         (fun u D g h E =>
          bif !((g==(0:Int))&&(h==(0:Int))) then
           some (([],(g,h,()),()))
          else
           some ((u,((0:Int),(0:Int),()),()))) a [] a0 d r s true 0) (12:Int) (0:Int) true b c
     else
      F.za.C1_cur_Cur_Fail n
       (fun v w =>
        F.za.C3_frame_Payload_1 n
         (fun x G i j H =>
          bif !((i==(0:Int))&&(j==(0:Int))) then
           some (([],(i,j,()),()))
          else
           some ((x,((0:Int),(0:Int),()),())))
         (fun y I k l J =>
          bif !((k==(0:Int))&&(l==(0:Int))) then
           some (([],(k,l,()),()))
          else
           some ((y,((0:Int),(0:Int),()),()))) a [] a0 d v w true 0) (12:Int) (0:Int) false b c
    else
     F.za.C3_frame_Payload_1 n
      (fun z K m o L =>
       bif !((m==(0:Int))&&(o==(0:Int))) then
        some (([],(m,o,()),()))
       else
        some ((z,((0:Int),(0:Int),()),())))
      (fun A M p q N =>
       bif !((p==(0:Int))&&(q==(0:Int))) then
        some (([],(p,q,()),()))
       else
        some ((A,((0:Int),(0:Int),()),()))) a [] a0 d b c true 0) a0 (0:Int) (0:Int) (0:Int)
 else
  none
noncomputable def F.zal (n:Nat) (a0:Z0):Option ((Z7)×(Z16)×Unit):=
 (F.zaj n a0).bind fun a =>
  bif !((a.2.1.1==(0:Int))&&(a.2.1.2.1==(0:Int))) then
   some (([],(a.2.1.1,a.2.1.2.1,()),()))
  else
  bif a.1==(0:Int) then
   some (([],((13:Int),(a0.length:Int),()),()))
  else
  bif decide (a.1>(a0.length:Int)) then
   some (([],((13:Int),(a0.length:Int),()),()))
  else
  bif decide (a.1<(a0.length:Int)) then
   some (([],((11:Int),a.1,()),()))
  else
   (F.zav n a0).bind fun d =>
    bif !(d==(0:Int)) then
     some (([],((24:Int),(IntKind.wrap .i64 (a.1 - (4:Int))),()),()))
    else
     (F.zj n a0).bind fun c =>
      (sub a0 c.1 (IntKind.wrap .i64 (a.1 - (4:Int)))).bind fun e =>
       (F.za n e).bind fun b =>
        bif !((b.2.1.1==(0:Int))&&(b.2.1.2.1==(0:Int))) then
         some (([],(b.2.1.1,(IntKind.wrap .i64 (b.2.1.2.1+c.1)),()),()))
        else
         some ((b.1,(b.2.1.1,b.2.1.2.1,()),()))
noncomputable def F.zak (n:Nat) (a0:Z1) (a1:Z1):Option ((Z1)×(Z1)×(Bool)×Unit):=
 (O.index1 n a0 a1).bind fun a =>
  bif decide (a≥(0:Int)) then
   (sub a0 (0:Int) a).bind fun b =>
    (sub a0 (IntKind.wrap .i64 (a+(a1.length:Int))) (a0.length:Int)).bind fun c =>
     some ((b,c,true,()))
  else
   some ((a0,[],false,()))
noncomputable def F.zw (n:Nat) (a0:Z1) (a1:Z1):Option ((Z1)×(Z1)×(Bool)×Unit):=
 (F.zak n a0 a1).bind fun a =>
  some ((a.1,a.2.1,a.2.2.1,()))
noncomputable def F.zah (n:Nat) (a0:Int) (a1:Z1) (a2:Int) (a3:Int):Option (Z16):=
 (F.zy n a0 a1).bind fun a =>
  bif !(a.2.1==(0:Int)) then
   some (((1:Int),(0:Int),()))
  else
  bif decide (a2<(0:Int)) then
   some (((1:Int),(0:Int),()))
  else
  bif decide (a3<a2) then
   some (((1:Int),(0:Int),()))
  else
  bif decide ((a1.length:Int)<a2) then
   some (((13:Int),(a1.length:Int),()))
  else
  bif decide ((a1.length:Int)>a3) then
   some (((12:Int),a3,()))
  else
  bif decide (a.1≥(0:Int)) then
   some (((14:Int),a.1,()))
  else
   some (((0:Int),(0:Int),()))
noncomputable def F.zae (n:Nat) (a0:Int) (a1:Int):Option ((Z21)×(Z16)×Unit):=
 some ((([],(0:Int),[],(0:Int),[],(0:Int),()),(a0,a1,()),()))
noncomputable def F.zv (n:Nat) (a0:Z1) (a1:Z1):Option (Bool):=
 bif decide ((a0.length:Int)≥(a1.length:Int)) then
  (sub a0 (0:Int) (a1.length:Int)).bind fun a =>
   some (a==a1)
 else
  some (false)
noncomputable def F.zt (n:Nat) (a0:Z1) (a1:Z1):Option (Bool):=
 (F.zv n a0 a1).bind fun a =>
  some (a)
noncomputable def F.zx.L2_dec_look_1.step {X:Type} (n:Nat) (rec:Int→Z1→Int→Int→Int→Option X) (k0:Int→Z1→Int→Int→Int→Option X) (c:Int) (a:Z1) (d:Int) (e:Int) (b:Int):Option X:=
 bif decide (b<(a.length:Int)) then
  (idx a b).bind fun f =>
   bif decide (((f).toNat)≥(48:Int)) then
    (idx a b).bind fun g =>
     bif decide (((g).toNat)≤(57:Int)) then
      rec c a d e (IntKind.wrap .i64 (b+(1:Int)))
     else
      k0 c a d e b
   else
    k0 c a d e b
 else
  k0 c a d e b
noncomputable def F.zx.L2_dec_look_1 {X:Type} (n:Nat) (k0:Int→Z1→Int→Int→Int→Option X):Nat→Int→Z1→Int→Int→Int→Option X
 | 0=>fun _ _ _ _ _=>none
 | m+1=>fun a b c d e=>F.zx.L2_dec_look_1.step n (F.zx.L2_dec_look_1 n k0 m) k0 a b c d e
noncomputable def F.zx (n:Nat) (a0:Z1):Option (Z16):=
 (F.zt n a0 ([45])).bind fun k =>
  bif k then
   F.zx.L2_dec_look_1 n
    (fun g c l m a =>
     bif decide (a>g) then
      (sub c a (c.length:Int)).bind fun o =>
       (F.zt n o ([46])).bind fun p =>
        bif p then
         F.zx.L2_dec_look_1 n
          (fun q h w x e =>
           bif decide (e>q) then
            bif e==(h.length:Int) then
             some (((0:Int),(0:Int),()))
            else
            bif e==(h.length:Int) then
             some (((11:Int),e,()))
            else
             some (((14:Int),e,()))
           else
           bif e==(h.length:Int) then
            some (((11:Int),e,()))
           else
            some (((14:Int),e,()))) n (IntKind.wrap .i64 (a+(1:Int))) c l m (IntKind.wrap .i64 (a+(1:Int)))
        else
        bif decide (a>g) then
         bif a==(c.length:Int) then
          some (((0:Int),(0:Int),()))
         else
         bif a==(c.length:Int) then
          some (((11:Int),a,()))
         else
          some (((14:Int),a,()))
        else
        bif a==(c.length:Int) then
         some (((11:Int),a,()))
        else
         some (((14:Int),a,()))
     else
     bif decide (a>g) then
      bif a==(c.length:Int) then
       some (((0:Int),(0:Int),()))
      else
      bif a==(c.length:Int) then
       some (((11:Int),a,()))
      else
       some (((14:Int),a,()))
     else
     bif a==(c.length:Int) then
      some (((11:Int),a,()))
     else
      some (((14:Int),a,()))) n (1:Int) a0 (0:Int) (0:Int) (1:Int)
  else
   F.zx.L2_dec_look_1 n
    (fun i d r s b =>
     bif decide (b>i) then
      (sub d b (d.length:Int)).bind fun t =>
       (F.zt n t ([46])).bind fun u =>
        bif u then
         F.zx.L2_dec_look_1 n
          (fun v j y z f =>
           bif decide (f>v) then
            bif f==(j.length:Int) then
             some (((0:Int),(0:Int),()))
            else
            bif f==(j.length:Int) then
             some (((11:Int),f,()))
            else
             some (((14:Int),f,()))
           else
           bif f==(j.length:Int) then
            some (((11:Int),f,()))
           else
            some (((14:Int),f,()))) n (IntKind.wrap .i64 (b+(1:Int))) d r s (IntKind.wrap .i64 (b+(1:Int)))
        else
        bif decide (b>i) then
         bif b==(d.length:Int) then
          some (((0:Int),(0:Int),()))
         else
         bif b==(d.length:Int) then
          some (((11:Int),b,()))
         else
          some (((14:Int),b,()))
        else
        bif b==(d.length:Int) then
         some (((11:Int),b,()))
        else
         some (((14:Int),b,()))
     else
     bif decide (b>i) then
      bif b==(d.length:Int) then
       some (((0:Int),(0:Int),()))
      else
      bif b==(d.length:Int) then
       some (((11:Int),b,()))
      else
       some (((14:Int),b,()))
     else
     bif b==(d.length:Int) then
      some (((11:Int),b,()))
     else
      some (((14:Int),b,()))) n (0:Int) a0 (0:Int) (0:Int) (0:Int)
noncomputable def F.zaf (n:Nat) (a0:Z1) (a1:Z1):Option ((Z1)×(Bool)×Unit):=
 (F.zv n a0 a1).bind fun a =>
  bif !a then
   some ((a0,false,()))
  else
   (sub a0 (a1.length:Int) (a0.length:Int)).bind fun b =>
    some ((b,true,()))
noncomputable def F.zu (n:Nat) (a0:Z1) (a1:Z1):Option ((Z1)×(Bool)×Unit):=
 (F.zaf n a0 a1).bind fun a =>
  some ((a.1,a.2.1,()))
noncomputable def F.zr.L14.step {X:Type} (n:Nat) (rec:Z1→Int→Int→Bool→Int→Int→Int→Int→Int→Int→Bool→Int→Int→Option X) (k0:Bool→Int→Int→Int→Int→Int→Int→Bool→Int→Int→Option X) (j:Z1) (k:Int) (a:Int) (b:Bool) (c:Int) (d:Int) (e:Int) (f:Int) (g:Int) (h:Int) (i:Bool) (l:Int) (m:Int):Option X:=
 bif decide (a<k) then
  (idx j a).bind fun p =>
   (F.zap n l (IntKind.wrap .u64 (IntKind.wrap .u8 (((p).toNat) - (48:Int))))).bind fun o =>
    bif !o.2.1 then
     k0 b c d e f g h i (1:Int) (-19:Int)
    else
     rec j k (IntKind.wrap .i64 (a+(1:Int))) b c d e f g h i o.1 m
 else
  k0 b c d e f g h i l m
noncomputable def F.zr.L14 {X:Type} (n:Nat) (k0:Bool→Int→Int→Int→Int→Int→Int→Bool→Int→Int→Option X):Nat→Z1→Int→Int→Bool→Int→Int→Int→Int→Int→Int→Bool→Int→Int→Option X
 | 0=>fun _ _ _ _ _ _ _ _ _ _ _ _ _=>none
 | m+1=>fun a b c d e f g h i j k l o=>F.zr.L14.step n (F.zr.L14 n k0 m) k0 a b c d e f g h i j k l o
noncomputable def F.zr (n:Nat) (a0:Z1):Option ((Z20)×(Z16)×Unit):=
 (F.zx n a0).bind fun a =>
  bif !((a.1==(0:Int))&&(a.2.1==(0:Int))) then
   some (((false,(0:Int),(0:Int),()),(a.1,a.2.1,()),()))
  else
   (F.zu n a0 ([45])).bind fun g =>
    (F.zw n g.1 ([46])).bind fun i =>
     (O.trimR n i.2.1 ([48])).bind fun c =>
      bif decide (i.1.length+c.length≤strMax) then
       (O.trimL n (i.1++c) ([48])).bind fun b =>
        (O.trimR n b ([48])).bind fun h =>
         bif (IntKind.wrap .i64 (0 - (c.length:Int)))==(0:Int) then
          bif decide ((h.length:Int)<(b.length:Int)) then
           F.zr.L14 n
            (fun t u v w x y z j k l =>
             (F.zg n (j,k,l,())).bind fun d =>
              bif !(d.2.1==(0:Int)) then
               some (((false,(0:Int),(0:Int),()),(d.2.1,(0:Int),()),()))
              else
               some (((d.1.1,d.1.2.1,d.1.2.2.1,()),((0:Int),(0:Int),()),()))) n h (h.length:Int) (0:Int) false (0:Int) (0:Int) (0:Int) (0:Int) a.1 a.2.1 g.2.1 (0:Int) (IntKind.wrap .i64 ((b.length:Int) - (h.length:Int)))
          else
           F.zr.L14 n
            (fun A B C D E G H m o p =>
             (F.zg n (m,o,p,())).bind fun e =>
              bif !(e.2.1==(0:Int)) then
               some (((false,(0:Int),(0:Int),()),(e.2.1,(0:Int),()),()))
              else
               some (((e.1.1,e.1.2.1,e.1.2.2.1,()),((0:Int),(0:Int),()),()))) n b (b.length:Int) (0:Int) false (0:Int) (0:Int) (0:Int) (0:Int) a.1 a.2.1 g.2.1 (0:Int) (IntKind.wrap .i64 (0 - (c.length:Int)))
         else
          F.zr.L14 n
           (fun I J K L M N P q r s =>
            (F.zg n (q,r,s,())).bind fun f =>
             bif !(f.2.1==(0:Int)) then
              some (((false,(0:Int),(0:Int),()),(f.2.1,(0:Int),()),()))
             else
              some (((f.1.1,f.1.2.1,f.1.2.2.1,()),((0:Int),(0:Int),()),()))) n b (b.length:Int) (0:Int) false (0:Int) (0:Int) (0:Int) (0:Int) a.1 a.2.1 g.2.1 (0:Int) (IntKind.wrap .i64 (0 - (c.length:Int)))
      else
       none
noncomputable def F.zp.L2.step {X:Type} (n:Nat) (rec:Z1→Int→Option X) (k0:Unit→Option X) (kr:Int→Int→Option X) (b:Z1) (a:Int):Option X:=
 bif decide (a≤(5:Int)) then
  (O.word n a).bind fun c =>
   bif c.2.1==(0:Int) then
    bif c.1==b then
     kr a (0:Int)
    else
     rec b (IntKind.wrap .i64 (a+(1:Int)))
   else
    rec b (IntKind.wrap .i64 (a+(1:Int)))
 else
  k0 ()
noncomputable def F.zp.L2 {X:Type} (n:Nat) (k0:Unit→Option X) (kr:Int→Int→Option X):Nat→Z1→Int→Option X
 | 0=>fun _ _=>none
 | m+1=>fun a b=>F.zp.L2.step n (F.zp.L2 n k0 kr m) k0 kr a b
noncomputable def F.zp (n:Nat) (a0:Z1):Option ((Int)×(Int)×Unit):=
 F.zp.L2 n
  (fun (_:Unit) =>
   some (((0:Int),(16:Int),())))
  (fun a b =>
   some ((a,b,()))) n a0 (1:Int)
noncomputable def F.zz (n:Nat) (a0:Int) (a1:Int):Option ((Int)×(Z16)×Unit):=
 some (((0:Int),(a0,a1,()),()))
noncomputable def F.zl.L5.step {X:Type} (n:Nat) (rec:Z1→Z16→Int→Int→Int→Int→Int→Option X) (k0:Z1→Int→Int→Int→Int→Option X) (b:Z1) (e:Z16) (a:Int) (c:Int) (d:Int) (f:Int) (g:Int):Option X:=
 bif decide (a<(2:Int)) then
  bif a==(0:Int) then
   bif a==(b.length:Int) then
    bif a==(0:Int) then
     k0 b c d (13:Int) (0:Int)
    else
    bif decide (a≥(b.length:Int)) then
     k0 b c d (11:Int) a
    else
     (idx b a).bind fun h =>
      bif !(((h).toNat)==e.1) then
       k0 b c d (11:Int) a
      else
       rec b (e.1,e.2.1,()) (IntKind.wrap .i64 (a+(1:Int))) c d f g
   else
   bif decide (a≥(b.length:Int)) then
    k0 b c d (11:Int) a
   else
    (idx b a).bind fun i =>
     bif !(((i).toNat)==e.1) then
      k0 b c d (11:Int) a
     else
      rec b (e.1,e.2.1,()) (IntKind.wrap .i64 (a+(1:Int))) c d f g
  else
  bif a==(1:Int) then
   bif a==(b.length:Int) then
    bif a==(0:Int) then
     k0 b c d (13:Int) (0:Int)
    else
    bif decide (a≥(b.length:Int)) then
     k0 b c d (11:Int) a
    else
     (idx b a).bind fun j =>
      bif !(((j).toNat)==e.2.1) then
       k0 b c d (11:Int) a
      else
       rec b (e.1,e.2.1,()) (IntKind.wrap .i64 (a+(1:Int))) c d f g
   else
   bif decide (a≥(b.length:Int)) then
    k0 b c d (11:Int) a
   else
    (idx b a).bind fun k =>
     bif !(((k).toNat)==e.2.1) then
      k0 b c d (11:Int) a
     else
      rec b (e.1,e.2.1,()) (IntKind.wrap .i64 (a+(1:Int))) c d f g
  else
   none
 else
  k0 b c d f g
noncomputable def F.zl.L5 {X:Type} (n:Nat) (k0:Z1→Int→Int→Int→Int→Option X):Nat→Z1→Z16→Int→Int→Int→Int→Int→Option X
 | 0=>fun _ _ _ _ _ _ _=>none
 | m+1=>fun a b c d e f g=>F.zl.L5.step n (F.zl.L5 n k0 m) k0 a b c d e f g
noncomputable def F.zl.L23.step {X:Type} (n:Nat) (rec:Z1→Int→Int→Int→Int→Int→Int→Int→Int→Option X) (k3:Int→Int→Int→Int→Int→Int→Int→Option X) (b:Z1) (a:Int) (c:Int) (d:Int) (e:Int) (f:Int) (g:Int) (h:Int) (i:Int):Option X:=
 bif decide (a<(6:Int)) then
  bif decide (a<(b.length:Int)) then
   (idx b a).bind fun j =>
    rec b (IntKind.wrap .i64 (a+(1:Int))) c d e f g h (IntKind.wrap .i64 ((IntKind.wrap .i64 ((10:Int)*i))+(IntKind.wrap .i64 (IntKind.wrap .u8 (((j).toNat) - (48:Int))))))
  else
   rec b (IntKind.wrap .i64 (a+(1:Int))) c d e f g h (IntKind.wrap .i64 ((IntKind.wrap .i64 ((10:Int)*i))+(0:Int)))
 else
  k3 c d e f g h i
noncomputable def F.zl.L23 {X:Type} (n:Nat) (k3:Int→Int→Int→Int→Int→Int→Int→Option X):Nat→Z1→Int→Int→Int→Int→Int→Int→Int→Int→Option X
 | 0=>fun _ _ _ _ _ _ _ _ _=>none
 | m+1=>fun a b c d e f g h i=>F.zl.L23.step n (F.zl.L23 n k3 m) k3 a b c d e f g h i
noncomputable def F.zl (n:Nat) (a0:Z1):Option ((Int)×(Z16)×Unit):=
 bif a0==([49]) then
  some (((1000000:Int),((0:Int),(0:Int),()),()))
 else
  F.zl.L5 n
   (fun i k l c d =>
    bif !((c==(0:Int))&&(d==(0:Int))) then
     (F.zz n c d).bind fun e =>
      some ((e.1,(e.2.1.1,e.2.1.2.1,()),()))
    else
     (sub i (2:Int) (i.length:Int)).bind fun b =>
      (F.zah n (4:Int) b (1:Int) (IntKind.wrap .i64 ((b.length:Int)+(1:Int)))).bind fun a =>
       bif !((a.1==(0:Int))&&(a.2.1==(0:Int))) then
        (F.zz n a.1 (IntKind.wrap .i64 ((2:Int)+a.2.1))).bind fun f =>
         some ((f.1,(f.2.1.1,f.2.1.2.1,()),()))
       else
       bif decide ((b.length:Int)>(6:Int)) then
        (F.zz n (12:Int) (8:Int)).bind fun g =>
         some ((g.1,(g.2.1.1,g.2.1.2.1,()),()))
       else
        F.zl.L23 n
         (fun m o p q r s j =>
          bif j==(0:Int) then
           (F.zz n (10:Int) (0:Int)).bind fun h =>
            some ((h.1,(h.2.1.1,h.2.1.2.1,()),()))
          else
           some ((j,((0:Int),(0:Int),()),()))) n b (0:Int) k l c d a.1 a.2.1 (0:Int)) n a0 ((48:Int),(46:Int),()) (0:Int) (0:Int) (0:Int) (0:Int) (0:Int)
noncomputable def F.ze.C30 {X:Type} (n:Nat) (kr:Z1→Z1→Int→Z3→Int→Z5→Int→Int→Int→Option X) (kn:Bool→Z1→Z1→Int→Z3→Int→Z5→Int→Int→Int→Int→Z1→Int→Z3→Int→Z5→Int→Nat→Nat→Nat→Nat→Option X) (c:Bool) (d:Int) (e:Bool) (b:Z1) (f:Z1) (g:Int) (h:Z3) (i:Int) (j:Z5) (k:Int) (l:Int) (m:Int) (o:Int) (p:Z1) (q:Int) (r:Z3) (s:Int) (t:Z5) (u:Int) (v:Nat) (w:Nat) (x:Nat) (y:Nat):Option X:=
 bif e then
  (F.zae n (18:Int) d).bind fun a =>
   kr b a.1.1 a.1.2.1 a.1.2.2.1 a.1.2.2.2.1 a.1.2.2.2.2.1 a.1.2.2.2.2.2.1 a.2.1.1 a.2.1.2.1
 else
  kn c b f g h i j k l m o p q r s t u v w x y
noncomputable def F.ze.C31 {X:Type} (n:Nat) (kr:Z1→Z1→Int→Z3→Int→Z5→Int→Int→Int→Option X) (c:Bool) (b:Z1) (k:Z1) (l:Int) (m:Z3) (o:Int) (p:Z5) (q:Int) (r:Int) (s:Int) (d:Int) (e:Z1) (f:Int) (g:Z3) (h:Int) (i:Z5) (j:Int) (t:Nat) (u:Nat) (v:Nat) (w:Nat):Option X:=
 bif c then
  (F.zae n (11:Int) (IntKind.wrap .i64 (d - (1:Int)))).bind fun a =>
   kr b a.1.1 a.1.2.1 a.1.2.2.1 a.1.2.2.2.1 a.1.2.2.2.2.1 a.1.2.2.2.2.2.1 a.2.1.1 a.2.1.2.1
 else
  kr b e f g h i j (0:Int) (0:Int)
noncomputable def F.ze.C28 {X:Type} (n:Nat) (kr:Z1→Z1→Int→Z3→Int→Z5→Int→Int→Int→Option X) (b:Bool) (x:Int) (y:Z1) (c:Int) (d:Z1) (e:Z1) (f:Int) (g:Z3) (h:Int) (i:Z5) (j:Int) (k:Int) (l:Int) (m:Int) (o:Z1) (p:Int) (q:Z3) (cP:Int) (r:Z5) (s:Int) (cQ:Bool) (cR:Int) (cS:Int) (cT:Int) (cU:Int) (t:Nat) (u:Nat) (v:Nat) (w:Nat):Option X:=
 (F.zl n y).bind fun a =>
  bif !((a.2.1.1==(0:Int))&&(a.2.1.2.1==(0:Int))) then
   F.ze.C30 n
    (fun z A B C D E G H I =>
     kr z A B C D E G H I)
    (fun J K L M N O P Q R S T U V W Y Z a0 a1 a2 a3 a4 =>
     F.ze.C31 n
      (fun a5 a6 a7 a8 a9 aA aB aC aD =>
       kr a5 a6 a7 a8 a9 aA aB aC aD) J K L M N O P Q R S T U V W Y Z a0 a1 a2 a3 a4) b c true d e f g h i j k l m o p q a.1 r s t u v w
  else
  bif x==(2:Int) then
   F.ze.C30 n
    (fun aE aG aH aI aJ aK aL aM aN =>
     kr aE aG aH aI aJ aK aL aM aN)
    (fun aO aP aQ aR aS aT aU aV aW aY aZ b0 b1 b2 b3 b4 b5 b6 b7 b8 b9 =>
     F.ze.C31 n
      (fun bA bB bC bD bE bG bH bI bJ =>
       kr bA bB bC bD bE bG bH bI bJ) aO aP aQ aR aS aT aU aV aW aY aZ b0 b1 b2 b3 b4 b5 b6 b7 b8 b9) b c (!(a.1==(1000000:Int))) d e f g h i j k l m o p q a.1 r s t u v w
  else
   F.ze.C30 n
    (fun bK bL bM bN bO bP bQ bR bS =>
     kr bK bL bM bN bO bP bQ bR bS)
    (fun bT bU bV bW bY bZ c0 c1 c2 c3 c4 c5 c6 c7 c8 c9 cA cB cC cD cE =>
     F.ze.C31 n
      (fun cG cH cI cJ cK cL cM cN cO =>
       kr cG cH cI cJ cK cL cM cN cO) bT bU bV bW bY bZ c0 c1 c2 c3 c4 c5 c6 c7 c8 c9 cA cB cC cD cE) b c false d e f g h i j k l m o p q a.1 r s t u v w
noncomputable def F.ze.C21 {X:Type} (n:Nat) (kr:Z1→Z1→Int→Z3→Int→Z5→Int→Int→Int→Option X) (i:Z1) (A:Bool) (e:Int) (a:Z1) (m:Z1) (o:Int) (p:Z3) (q:Int) (r:Z5) (s:Int) (t:Int) (u:Int) (c:Int) (Y:Z1) (Z:Int) (a0:Z3) (j:Int) (k:Z5) (l:Int) (f:Bool) (g:Int) (h:Int) (v:Int) (w:Int) (x:Nat) (y:Nat) (a1:Nat) (z:Nat):Option X:=
 bif !A then
  kr a i e ([(f,g,h)]) j k l (0:Int) (0:Int)
 else
  (sub a c (a.length:Int)).bind fun B =>
   (F.zt n B ([64])).bind fun C =>
    bif !C then
     (F.zae n (11:Int) c).bind fun b =>
      kr a b.1.1 b.1.2.1 b.1.2.2.1 b.1.2.2.2.1 b.1.2.2.2.2.1 b.1.2.2.2.2.2.1 b.2.1.1 b.2.1.2.1
    else
     (sub a (IntKind.wrap .i64 (c+(1:Int))) (a.length:Int)).bind fun D =>
      (F.zw n D ([124])).bind fun d =>
       bif d.2.2.1 then
        F.ze.C28 n
         (fun E G H I J K L M N =>
          kr E G H I J K L M N) d.2.2.1 e d.1 (IntKind.wrap .i64 (c+(1:Int))) a m o p q r s t u (IntKind.wrap .i64 ((IntKind.wrap .i64 ((IntKind.wrap .i64 (c+(1:Int)))+(d.1.length:Int)))+(1:Int))) i e ([(f,g,h)]) j k l f g h v w x y 1 z
       else
        F.ze.C28 n
         (fun O P Q R S T U V W =>
          kr O P Q R S T U V W) d.2.2.1 e d.1 (IntKind.wrap .i64 (c+(1:Int))) a m o p q r s t u (IntKind.wrap .i64 ((IntKind.wrap .i64 (c+(1:Int)))+(d.1.length:Int))) i e ([(f,g,h)]) j k l f g h v w x y 1 z
noncomputable def F.ze.C16 {X:Type} (n:Nat) (kr:Z1→Z1→Int→Z3→Int→Z5→Int→Int→Int→Option X) (e:Z1) (f:Bool) (G:Z1) (H:Int) (I:Z1) (J:Int) (c:Z1) (g:Z1) (h:Int) (i:Z3) (j:Int) (k:Z5) (l:Int) (m:Int) (o:Int) (p:Int) (q:Z1) (r:Int) (s:Z3) (t:Int) (u:Z5) (v:Int) (w:Bool) (x:Int) (y:Int) (z:Int) (A:Int) (B:Nat) (C:Nat) (D:Nat) (E:Nat):Option X:=
 (F.zp n I).bind fun d =>
  bif !(d.2.1==(0:Int)) then
   (F.zae n (16:Int) J).bind fun a =>
    kr c a.1.1 a.1.2.1 a.1.2.2.1 a.1.2.2.2.1 a.1.2.2.2.2.1 a.1.2.2.2.2.2.1 a.2.1.1 a.2.1.2.1
  else
  bif d.1==(2:Int) then
   (F.zt n G ([45])).bind fun K =>
    bif K then
     (F.zae n (26:Int) H).bind fun b =>
      kr c b.1.1 b.1.2.1 b.1.2.2.1 b.1.2.2.2.1 b.1.2.2.2.2.1 b.1.2.2.2.2.2.1 b.2.1.1 b.2.1.2.1
    else
     F.ze.C21 n
      (fun L M N O P Q R S T =>
       kr L M N O P Q R S T) e f d.1 c g h i j k l m o p q r s t u v w x y z A B C D E
  else
   F.ze.C21 n
    (fun U V W Y Z a0 a1 a2 a3 =>
     kr U V W Y Z a0 a1 a2 a3) e f d.1 c g h i j k l m o p q r s t u v w x y z A B C D E
noncomputable def F.ze.C10 {X:Type} (n:Nat) (kr:Z1→Z1→Int→Z3→Int→Z5→Int→Int→Int→Option X) (i:Z1) (C:Bool) (g:Z1) (h:Int) (d:Z1) (j:Z1) (k:Int) (l:Z3) (m:Int) (o:Z5) (p:Int) (q:Int) (r:Int) (f:Int) (s:Z1) (t:Int) (u:Z3) (v:Int) (w:Z5) (x:Int) (y:Nat) (z:Nat) (A:Nat) (B:Nat):Option X:=
 (F.zr n g).bind fun a =>
  bif !((a.2.1.1==(0:Int))&&(a.2.1.2.1==(0:Int))) then
   (F.zae n (17:Int) h).bind fun b =>
    kr d b.1.1 b.1.2.1 b.1.2.2.1 b.1.2.2.2.1 b.1.2.2.2.2.1 b.1.2.2.2.2.2.1 b.2.1.1 b.2.1.2.1
  else
  bif !C then
   (F.zae n (11:Int) (d.length:Int)).bind fun c =>
    kr d c.1.1 c.1.2.1 c.1.2.2.1 c.1.2.2.2.1 c.1.2.2.2.2.1 c.1.2.2.2.2.2.1 c.2.1.1 c.2.1.2.1
  else
   (sub d f (d.length:Int)).bind fun D =>
    (F.zw n D ([124])).bind fun e =>
     bif e.2.2.1 then
      F.ze.C16 n
       (fun E G H I J K L M N =>
        kr E G H I J K L M N) i e.2.2.1 g h e.1 f d j k l m o p q r (IntKind.wrap .i64 ((IntKind.wrap .i64 (f+(e.1.length:Int)))+(1:Int))) s t u v w x a.1.1 a.1.2.1 a.1.2.2.1 a.2.1.1 a.2.1.2.1 y z A B
     else
      F.ze.C16 n
       (fun O P Q R S T U V W =>
        kr O P Q R S T U V W) i e.2.2.1 g h e.1 f d j k l m o p q r (IntKind.wrap .i64 (f+(e.1.length:Int))) s t u v w x a.1.1 a.1.2.1 a.1.2.2.1 a.2.1.1 a.2.1.2.1 y z A B
noncomputable def F.ze.C5 {X:Type} (n:Nat) (kr:Z1→Z1→Int→Z3→Int→Z5→Int→Int→Int→Option X) (f:Z1) (A:Bool) (c:Z1) (g:Z1) (h:Int) (i:Z3) (j:Int) (k:Z5) (l:Int) (m:Int) (o:Int) (e:Int) (p:Z1) (q:Int) (r:Z3) (s:Int) (t:Z5) (u:Int) (v:Nat) (w:Nat) (x:Nat) (y:Nat):Option X:=
 (F.zah n (1:Int) f (1:Int) (200:Int)).bind fun z =>
  bif !((z.1==(0:Int))&&(z.2.1==(0:Int))) then
   (F.zae n (15:Int) (0:Int)).bind fun a =>
    kr c a.1.1 a.1.2.1 a.1.2.2.1 a.1.2.2.2.1 a.1.2.2.2.2.1 a.1.2.2.2.2.2.1 a.2.1.1 a.2.1.2.1
  else
  bif !A then
   (F.zae n (11:Int) (c.length:Int)).bind fun b =>
    kr c b.1.1 b.1.2.1 b.1.2.2.1 b.1.2.2.2.1 b.1.2.2.2.2.1 b.1.2.2.2.2.2.1 b.2.1.1 b.2.1.2.1
  else
   (sub c e (c.length:Int)).bind fun B =>
    (F.zw n B ([124])).bind fun d =>
     bif d.2.2.1 then
      F.ze.C10 n
       (fun C D E G H I J K L =>
        kr C D E G H I J K L) f d.2.2.1 d.1 e c g h i j k l m o (IntKind.wrap .i64 ((IntKind.wrap .i64 (e+(d.1.length:Int)))+(1:Int))) p q r s t u v w x y
     else
      F.ze.C10 n
       (fun M N O P Q R S T U =>
        kr M N O P Q R S T U) f d.2.2.1 d.1 e c g h i j k l m o (IntKind.wrap .i64 (e+(d.1.length:Int))) p q r s t u v w x y
noncomputable def F.ze (n:Nat) (a0:Z1):Option ((Z21)×(Z16)×Unit):=
 (sub a0 (0:Int) (a0.length:Int)).bind fun b =>
  (F.zw n b ([58])).bind fun a =>
   bif a.2.2.1 then
    F.ze.C5 n
     (fun t c d e f g h i j =>
      some (((c,d,e,f,g,h,()),(i,j,()),()))) a.1 a.2.2.1 a0 [] (0:Int) [] (0:Int) [] (0:Int) (0:Int) (0:Int) (IntKind.wrap .i64 ((IntKind.wrap .i64 ((0:Int)+(a.1.length:Int)))+(1:Int))) [] (0:Int) [] (1000000:Int) [] (0:Int) 0 0 0 0
   else
    F.ze.C5 n
     (fun u k l m o p q r s =>
      some (((k,l,m,o,p,q,()),(r,s,()),()))) a.1 a.2.2.1 a0 [] (0:Int) [] (0:Int) [] (0:Int) (0:Int) (0:Int) (IntKind.wrap .i64 ((0:Int)+(a.1.length:Int))) [] (0:Int) [] (1000000:Int) [] (0:Int) 0 0 0 0
noncomputable def F.zk (n:Nat) (a0:Z5):Option (Z5):=
 bif (a0.length:Int)==(a0.length:Int) then
  (sub a0 (0:Int) (a0.length:Int)).bind fun a =>
   some (a)
 else
  none
noncomputable def F.zo.L5.step {X:Type} (n:Nat) (rec:Z23→Int→Z23→Int→Int→Z24→Z24→Z24→Option X) (k0:Z23→Int→Z24→Z24→Z24→Option X) (a:Z23) (b:Int) (d:Z23) (i:Int) (e:Int) (f:Z24) (g:Z24) (c:Z24):Option X:=
 bif decide (e<i) then
  bif decide (0≤e)&&decide (e<((d.2:Nat):Int)) then
   bif Nat.beq d.1 c.1 then
    (idx c.2 e).bind fun h =>
     bif e==(0:Int) then
      bif decide (0≤b)&&decide (b<((a.2:Nat):Int)) then
       bif Nat.beq a.1 c.1 then
        (idx c.2 b).bind fun k =>
         rec (a.1,a.2) (IntKind.wrap .i64 (b+(1:Int))) (d.1,d.2) i (IntKind.wrap .i64 (e+(1:Int))) (f.1,f.2) (g.1,g.2) (a.1,upd c.2 (Int.toNat b) (h.1,h.2))
       else
        none
      else
       none
     else
     bif decide (0≤(IntKind.wrap .i64 (b - (1:Int))))&&decide ((IntKind.wrap .i64 (b - (1:Int)))<((a.2:Nat):Int)) then
      bif Nat.beq a.1 c.1 then
       (idx c.2 (IntKind.wrap .i64 (b - (1:Int)))).bind fun j =>
        bif !((h.1==j.1)&&(h.2==j.2)) then
         bif decide (0≤b)&&decide (b<((a.2:Nat):Int)) then
          bif Nat.beq a.1 c.1 then
           (idx c.2 b).bind fun l =>
            rec (a.1,a.2) (IntKind.wrap .i64 (b+(1:Int))) (d.1,d.2) i (IntKind.wrap .i64 (e+(1:Int))) (f.1,f.2) (g.1,g.2) (a.1,upd c.2 (Int.toNat b) (h.1,h.2))
          else
           none
         else
          none
        else
         rec (a.1,a.2) b (d.1,d.2) i (IntKind.wrap .i64 (e+(1:Int))) (f.1,f.2) (g.1,g.2) (c.1,c.2)
      else
       none
     else
      none
   else
    none
  else
   none
 else
  k0 (a.1,a.2) b (f.1,f.2) (g.1,g.2) (c.1,c.2)
noncomputable def F.zo.L5 {X:Type} (n:Nat) (k0:Z23→Int→Z24→Z24→Z24→Option X):Nat→Z23→Int→Z23→Int→Int→Z24→Z24→Z24→Option X
 | 0=>fun _ _ _ _ _ _ _ _=>none
 | m+1=>fun a b c d e f g h=>F.zo.L5.step n (F.zo.L5 n k0 m) k0 a b c d e f g h
noncomputable def F.zo (n:Nat) (a0:Z5):Option (Z5):=
 bif List.isEmpty a0 then
  both
   (
    bif Nat.beq (sortTags []).length 0&&Nat.blt 0 strMax then
     F.zo.L5 n
      (fun d e q r a =>
       bif Nat.beq d.1 a.1 then
        (sub a.2 (0:Int) e).bind fun f =>
         (F.zk n f).bind fun g =>
          some (g)
       else
        none) n (1,0) (0:Int) (1,0) (0:Int) (0:Int) (1,[]) (1,[]) (1,sortTags [])
    else
     none)
   (
    bif decide ((0+a0.length)*32≤2 ^ 46)&&decide (0<32∧32≤2 ^ 20) then
     bif Nat.beq (sortTags ([]++a0)).length (([]++a0).length)&&Nat.blt (([]++a0).length) strMax then
      F.zo.L5 n
       (fun h i s t b =>
        bif Nat.beq h.1 b.1 then
         (sub b.2 (0:Int) i).bind fun j =>
          (F.zk n j).bind fun k =>
           some (k)
        else
         none) n (2,([]++a0).length) (0:Int) (2,([]++a0).length) ((([]++a0).length:Nat):Int) (0:Int) (1,[]) (1,[]) (2,sortTags ([]++a0))
     else
      none
    else
     none)
 else
 bif decide ((0+a0.length)*32≤2 ^ 46)&&decide (0<32∧32≤2 ^ 20) then
  bif Nat.beq (sortTags ([]++a0)).length (([]++a0).length)&&Nat.blt (([]++a0).length) strMax then
   F.zo.L5 n
    (fun l m u v c =>
     bif Nat.beq l.1 c.1 then
      (sub c.2 (0:Int) m).bind fun o =>
       (F.zk n o).bind fun p =>
        some (p)
     else
      none) n (2,([]++a0).length) (0:Int) (2,([]++a0).length) ((([]++a0).length:Nat):Int) (0:Int) (1,[]) (1,[]) (2,sortTags ([]++a0))
  else
   none
 else
  none
noncomputable def F.za2 (n:Nat):Option (Z25):=
 some (([],[99],[103],[109,115],[104],[100],()))
noncomputable def F.zai.L2.step {X:Type} (n:Nat) (rec:Z1→Z25→Int→Option X) (k0:Unit→Option X) (kr:Int→Int→Option X) (c:Z1) (a:Z25) (b:Int):Option X:=
 bif decide (b<(6:Int)) then
  bif b==(0:Int) then
   bif !(a.1==[]) then
    bif a.1==c then
     kr b (0:Int)
    else
     rec c (a.1,a.2.1,a.2.2.1,a.2.2.2.1,a.2.2.2.2.1,a.2.2.2.2.2.1,()) (IntKind.wrap .i64 (b+(1:Int)))
   else
    rec c (a.1,a.2.1,a.2.2.1,a.2.2.2.1,a.2.2.2.2.1,a.2.2.2.2.2.1,()) (IntKind.wrap .i64 (b+(1:Int)))
  else
  bif b==(1:Int) then
   bif !(a.2.1==[]) then
    bif a.2.1==c then
     kr b (0:Int)
    else
     rec c (a.1,a.2.1,a.2.2.1,a.2.2.2.1,a.2.2.2.2.1,a.2.2.2.2.2.1,()) (IntKind.wrap .i64 (b+(1:Int)))
   else
    rec c (a.1,a.2.1,a.2.2.1,a.2.2.2.1,a.2.2.2.2.1,a.2.2.2.2.2.1,()) (IntKind.wrap .i64 (b+(1:Int)))
  else
  bif b==(2:Int) then
   bif !(a.2.2.1==[]) then
    bif a.2.2.1==c then
     kr b (0:Int)
    else
     rec c (a.1,a.2.1,a.2.2.1,a.2.2.2.1,a.2.2.2.2.1,a.2.2.2.2.2.1,()) (IntKind.wrap .i64 (b+(1:Int)))
   else
    rec c (a.1,a.2.1,a.2.2.1,a.2.2.2.1,a.2.2.2.2.1,a.2.2.2.2.2.1,()) (IntKind.wrap .i64 (b+(1:Int)))
  else
  bif b==(3:Int) then
   bif !(a.2.2.2.1==[]) then
    bif a.2.2.2.1==c then
     kr b (0:Int)
    else
     rec c (a.1,a.2.1,a.2.2.1,a.2.2.2.1,a.2.2.2.2.1,a.2.2.2.2.2.1,()) (IntKind.wrap .i64 (b+(1:Int)))
   else
    rec c (a.1,a.2.1,a.2.2.1,a.2.2.2.1,a.2.2.2.2.1,a.2.2.2.2.2.1,()) (IntKind.wrap .i64 (b+(1:Int)))
  else
  bif b==(4:Int) then
   bif !(a.2.2.2.2.1==[]) then
    bif a.2.2.2.2.1==c then
     kr b (0:Int)
    else
     rec c (a.1,a.2.1,a.2.2.1,a.2.2.2.1,a.2.2.2.2.1,a.2.2.2.2.2.1,()) (IntKind.wrap .i64 (b+(1:Int)))
   else
    rec c (a.1,a.2.1,a.2.2.1,a.2.2.2.1,a.2.2.2.2.1,a.2.2.2.2.2.1,()) (IntKind.wrap .i64 (b+(1:Int)))
  else
  bif b==(5:Int) then
   bif !(a.2.2.2.2.2.1==[]) then
    bif a.2.2.2.2.2.1==c then
     kr b (0:Int)
    else
     rec c (a.1,a.2.1,a.2.2.1,a.2.2.2.1,a.2.2.2.2.1,a.2.2.2.2.2.1,()) (IntKind.wrap .i64 (b+(1:Int)))
   else
    rec c (a.1,a.2.1,a.2.2.1,a.2.2.2.1,a.2.2.2.2.1,a.2.2.2.2.2.1,()) (IntKind.wrap .i64 (b+(1:Int)))
  else
   none
 else
  k0 ()
noncomputable def F.zai.L2 {X:Type} (n:Nat) (k0:Unit→Option X) (kr:Int→Int→Option X):Nat→Z1→Z25→Int→Option X
 | 0=>fun _ _ _=>none
 | m+1=>fun a b c=>F.zai.L2.step n (F.zai.L2 n k0 kr m) k0 kr a b c
noncomputable def F.zai (n:Nat) (a0:Z1):Option ((Int)×(Int)×Unit):=
 (F.za2 n ).bind fun a =>
  F.zai.L2 n
   (fun (_:Unit) =>
    some (((0:Int),(16:Int),())))
   (fun b c =>
    some ((b,c,()))) n a0 (a.1,a.2.1,a.2.2.1,a.2.2.2.1,a.2.2.2.2.1,a.2.2.2.2.2.1,()) (0:Int)
noncomputable def F.zay (n:Nat) (a0:Z1) (a1:Int) (a2:Int):Option ((Int)×(Z16)×Unit):=
 (F.zah n (4:Int) a0 (1:Int) (IntKind.wrap .i64 ((a0.length:Int)+(1:Int)))).bind fun a =>
  bif !((a.1==(0:Int))&&(a.2.1==(0:Int))) then
   (F.zz n a.1 a.2.1).bind fun d =>
    some ((d.1,(d.2.1.1,d.2.1.2.1,()),()))
  else
   (idx a0 (0:Int)).bind fun l =>
    bif ((l).toNat)==(48:Int) then
     bif decide ((a0.length:Int)>(1:Int)) then
      (F.zz n (11:Int) (0:Int)).bind fun e =>
       some ((e.1,(e.2.1.1,e.2.1.2.1,()),()))
     else
      (O.atoi n a0).bind fun b =>
       bif b.2.1 then
        (F.zz n (10:Int) (0:Int)).bind fun f =>
         some ((f.1,(f.2.1.1,f.2.1.2.1,()),()))
       else
       bif decide (b.1<a1) then
        (F.zz n (10:Int) (0:Int)).bind fun g =>
         some ((g.1,(g.2.1.1,g.2.1.2.1,()),()))
       else
       bif decide (b.1>a2) then
        (F.zz n (10:Int) (0:Int)).bind fun h =>
         some ((h.1,(h.2.1.1,h.2.1.2.1,()),()))
       else
        some ((b.1,((0:Int),(0:Int),()),()))
    else
     (O.atoi n a0).bind fun c =>
      bif c.2.1 then
       (F.zz n (10:Int) (0:Int)).bind fun i =>
        some ((i.1,(i.2.1.1,i.2.1.2.1,()),()))
      else
      bif decide (c.1<a1) then
       (F.zz n (10:Int) (0:Int)).bind fun j =>
        some ((j.1,(j.2.1.1,j.2.1.2.1,()),()))
      else
      bif decide (c.1>a2) then
       (F.zz n (10:Int) (0:Int)).bind fun k =>
        some ((k.1,(k.2.1.1,k.2.1.2.1,()),()))
      else
       some ((c.1,((0:Int),(0:Int),()),()))
noncomputable def F.zat (n:Nat) (a0:Z1):Option ((Int)×(Z16)×Unit):=
 (F.zay n a0 (1:Int) (1099511627776:Int)).bind fun a =>
  some ((a.1,(a.2.1.1,a.2.1.2.1,()),()))
noncomputable def F.zaz (n:Nat) (a0:Z19):Option (Int):=
 (F.zah n (2:Int) a0.1 (1:Int) (64:Int)).bind fun a =>
  bif !((a.1==(0:Int))&&(a.2.1==(0:Int))) then
   some ((19:Int))
  else
   (F.zah n (3:Int) a0.2.1 (0:Int) (100:Int)).bind fun b =>
    bif !((b.1==(0:Int))&&(b.2.1==(0:Int))) then
     some ((19:Int))
    else
     some ((0:Int))
noncomputable def F.zac.L4.step {X:Type} (n:Nat) (rec:Z5→Int→Z18→Int→Int→Int→Int→Nat→Option X) (k0:Z5→Int→Int→Nat→Option X) (kr:Z5→Int→Int→Nat→Option X) (b:Z5) (c:Int) (e:Z18) (f:Int) (d:Int) (g:Int) (h:Int) (i:Nat):Option X:=
 bif decide (d<f) then
  (idx e d).bind fun j =>
   (F.zw n j ([58])).bind fun a =>
    (F.zaz n (a.1,a.2.1,())).bind fun k =>
     bif !(k==(0:Int)) then
      kr [] (19:Int) c 0
     else
     bif a.2.2.1 then
      bif a.2.1==[] then
       kr [] (19:Int) c 0
      else
      bif decide ((b.length+1)*32≤2 ^ 46)&&decide (0<32∧32≤2 ^ 20) then
       bif Nat.beq i b.length then
        rec (b++([(a.1,a.2.1)])) (IntKind.wrap .i64 (c+(IntKind.wrap .i64 ((j.length:Int)+(1:Int))))) e f (IntKind.wrap .i64 (d+(1:Int))) g h ((b++([(a.1,a.2.1)])).length)
       else
        none
      else
       none
     else
     bif decide ((b.length+1)*32≤2 ^ 46)&&decide (0<32∧32≤2 ^ 20) then
      bif Nat.beq i b.length then
       rec (b++([(a.1,a.2.1)])) (IntKind.wrap .i64 (c+(IntKind.wrap .i64 ((j.length:Int)+(1:Int))))) e f (IntKind.wrap .i64 (d+(1:Int))) g h ((b++([(a.1,a.2.1)])).length)
      else
       none
     else
      none
 else
  k0 b g h i
noncomputable def F.zac.L4 {X:Type} (n:Nat) (k0:Z5→Int→Int→Nat→Option X) (kr:Z5→Int→Int→Nat→Option X):Nat→Z5→Int→Z18→Int→Int→Int→Int→Nat→Option X
 | 0=>fun _ _ _ _ _ _ _ _=>none
 | m+1=>fun a b c d e f g h=>F.zac.L4.step n (F.zac.L4 n k0 kr m) k0 kr a b c d e f g h
noncomputable def F.zac (n:Nat) (a0:Z1):Option ((Z5)×(Z16)×Unit):=
 (O.split1 n a0 ([44])).bind fun a =>
  F.zac.L4 n
   (fun b f g h =>
    some ((b,((0:Int),(0:Int),()),())))
   (fun c d e i =>
    some ((c,(d,e,()),()))) n [] (0:Int) a (a.length:Int) (0:Int) (0:Int) (0:Int) 0
noncomputable def F.zf.L9_dog_reader_first.step {X:Type} (n:Nat) (rec:Int→Z18→Int→Int→Z1→Int→Z3→Int→Z5→Int→Int→Int→Z1→Int→Z3→Int→Z5→Int→Int→Int→Int→Int→Int→Int→Nat→Nat→Nat→Option X) (k1:Z1→Int→Z3→Int→Z5→Int→Int→Int→Z1→Int→Z3→Int→Z5→Int→Int→Int→Int→Int→Int→Int→Nat→Nat→Nat→Option X) (kr:Z1→Int→Z3→Int→Z5→Int→Int→Int→Z1→Int→Z3→Int→Z5→Int→Int→Int→Int→Int→Int→Int→Nat→Nat→Nat→Option X) (x:Int) (z:Z18) (A:Int) (y:Int) (d:Z1) (e:Int) (f:Z3) (g:Int) (h:Z5) (i:Int) (j:Int) (k:Int) (l:Z1) (m:Int) (a:Z3) (o:Int) (p:Z5) (q:Int) (c:Int) (r:Int) (s:Int) (t:Int) (B:Int) (C:Int) (u:Nat) (v:Nat) (w:Nat):Option X:=
 bif decide (y<A) then
  (idx z y).bind fun D =>
   (F.zr n D).bind fun b =>
    bif !((b.2.1.1==(0:Int))&&(b.2.1.2.1==(0:Int))) then
     kr d e f g h i j k l m a o p q c r s t (17:Int) (IntKind.wrap .i64 (c+x)) u v w
    else
    bif (a.length:Int)==(64:Int) then
     kr d e f g h i j k l m a o p q c r s t (17:Int) (IntKind.wrap .i64 (c+x)) u v w
    else
    bif decide ((a.length+1)*24≤2 ^ 46)&&decide (0<24∧24≤2 ^ 20) then
     bif Nat.beq w a.length then
      rec (IntKind.wrap .i64 (x+(IntKind.wrap .i64 ((D.length:Int)+(1:Int))))) z A (IntKind.wrap .i64 (y+(1:Int))) d e f g h i j k l m (a++([(b.1.1,b.1.2.1,b.1.2.2.1)])) o p q c r s t B C u v ((a++([(b.1.1,b.1.2.1,b.1.2.2.1)])).length)
     else
      none
    else
     none
 else
  k1 d e f g h i j k l m a o p q c r s t B C u v w
noncomputable def F.zf.L9_dog_reader_first {X:Type} (n:Nat) (k1:Z1→Int→Z3→Int→Z5→Int→Int→Int→Z1→Int→Z3→Int→Z5→Int→Int→Int→Int→Int→Int→Int→Nat→Nat→Nat→Option X) (kr:Z1→Int→Z3→Int→Z5→Int→Int→Int→Z1→Int→Z3→Int→Z5→Int→Int→Int→Int→Int→Int→Int→Nat→Nat→Nat→Option X):Nat→Int→Z18→Int→Int→Z1→Int→Z3→Int→Z5→Int→Int→Int→Z1→Int→Z3→Int→Z5→Int→Int→Int→Int→Int→Int→Int→Nat→Nat→Nat→Option X
 | 0=>fun _ _ _ _ _ _ _ _ _ _ _ _ _ _ _ _ _ _ _ _ _ _ _ _ _ _ _=>none
 | m+1=>fun a b c d e f g h i j k l o p q r s t u v w x y z A B C=>F.zf.L9_dog_reader_first.step n (F.zf.L9_dog_reader_first n k1 kr m) k1 kr a b c d e f g h i j k l o p q r s t u v w x y z A B C
noncomputable def F.zf.L2_dog_reader_more.step {X:Type} (n:Nat) (rec:Z1→Z22→Int→Z1→Int→Z3→Int→Z5→Int→Int→Int→Z1→Int→Z3→Int→Z5→Int→Int→Int→Int→Int→Int→Int→Nat→Nat→Nat→Option X) (k0:Z1→Int→Z3→Int→Z5→Int→Int→Int→Z1→Int→Z3→Int→Z5→Int→Int→Int→Int→Int→Int→Int→Nat→Nat→Nat→Option X) (kr:Z1→Int→Z3→Int→Z5→Int→Int→Int→Z1→Int→Z3→Int→Z5→Int→Int→Int→Int→Int→Int→Int→Nat→Nat→Nat→Option X) (A:Z1) (w:Z22) (b:Int) (d:Z1) (e:Int) (f:Z3) (g:Int) (h:Z5) (i:Int) (j:Int) (k:Int) (l:Z1) (c:Int) (m:Z3) (v:Int) (t:Z5) (u:Int) (a:Int) (x:Int) (o:Int) (p:Int) (y:Int) (z:Int) (q:Nat) (r:Nat) (s:Nat):Option X:=
 bif decide (b<(3:Int)) then
  bif b == (0:Int) then
   (F.zu n A w.1).bind fun E =>
    bif !E.2.1 then
     rec A (w.1,(),w.2.2.1,(),w.2.2.2.2.1,(),()) (IntKind.wrap .i64 (b+(1:Int))) d e f g h i j k l c m v t u a x o p y z q r s
    else
    bif decide (b<x) then
     k0 d e f g h i j k l c m v t u a x o p y z q r s
    else
     (F.zl n E.1).bind fun B =>
      bif !((B.2.1.1==(0:Int))&&(B.2.1.2.1==(0:Int))) then
       kr d e f g h i j k l c m v t u a (IntKind.wrap .i64 (b+(1:Int))) o p (18:Int) (IntKind.wrap .i64 (a+(0:Int))) q r s
      else
      bif c==(2:Int) then
       bif !(B.1==(1000000:Int)) then
        kr d e f g h i j k l c m v t u a (IntKind.wrap .i64 (b+(1:Int))) o p (18:Int) (IntKind.wrap .i64 (a+(0:Int))) q r s
       else
        kr d e f g h i j k l c m B.1 t u a (IntKind.wrap .i64 (b+(1:Int))) o p (0:Int) (0:Int) q r s
      else
       kr d e f g h i j k l c m B.1 t u a (IntKind.wrap .i64 (b+(1:Int))) o p (0:Int) (0:Int) q r s
  else
  bif b == (1:Int) then
   (F.zu n A w.2.2.1).bind fun G =>
    bif !G.2.1 then
     rec A (w.1,(),w.2.2.1,(),w.2.2.2.2.1,(),()) (IntKind.wrap .i64 (b+(1:Int))) d e f g h i j k l c m v t u a x o p y z q r s
    else
    bif decide (b<x) then
     k0 d e f g h i j k l c m v t u a x o p y z q r s
    else
     (F.zac n G.1).bind fun C =>
      bif !((C.2.1.1==(0:Int))&&(C.2.1.2.1==(0:Int))) then
       kr d e f g h i j k l c m v t u a (IntKind.wrap .i64 (b+(1:Int))) o p (19:Int) (IntKind.wrap .i64 (a+(0:Int))) q r s
      else
      bif decide ((C.1.length:Int)>(32:Int)) then
       kr d e f g h i j k l c m v t u a (IntKind.wrap .i64 (b+(1:Int))) o p (19:Int) (IntKind.wrap .i64 (a+(0:Int))) q r s
      else
       (F.zo n C.1).bind fun I =>
        kr d e f g h i j k l c m v I u a (IntKind.wrap .i64 (b+(1:Int))) o p (0:Int) (0:Int) q r s
  else
  bif b==(2:Int) then
   (F.zu n A w.2.2.2.2.1).bind fun H =>
    bif !H.2.1 then
     rec A (w.1,(),w.2.2.1,(),w.2.2.2.2.1,(),()) (IntKind.wrap .i64 (b+(1:Int))) d e f g h i j k l c m v t u a x o p y z q r s
    else
    bif decide (b<x) then
     k0 d e f g h i j k l c m v t u a x o p y z q r s
    else
     (F.zat n H.1).bind fun D =>
      bif !((D.2.1.1==(0:Int))&&(D.2.1.2.1==(0:Int))) then
       kr d e f g h i j k l c m v t u a (IntKind.wrap .i64 (b+(1:Int))) o p (20:Int) (IntKind.wrap .i64 (a+(0:Int))) q r s
      else
       kr d e f g h i j k l c m v t D.1 a (IntKind.wrap .i64 (b+(1:Int))) o p (0:Int) (0:Int) q r s
  else
   none
 else
  k0 d e f g h i j k l c m v t u a x o p y z q r s
noncomputable def F.zf.L2_dog_reader_more {X:Type} (n:Nat) (k0:Z1→Int→Z3→Int→Z5→Int→Int→Int→Z1→Int→Z3→Int→Z5→Int→Int→Int→Int→Int→Int→Int→Nat→Nat→Nat→Option X) (kr:Z1→Int→Z3→Int→Z5→Int→Int→Int→Z1→Int→Z3→Int→Z5→Int→Int→Int→Int→Int→Int→Int→Nat→Nat→Nat→Option X):Nat→Z1→Z22→Int→Z1→Int→Z3→Int→Z5→Int→Int→Int→Z1→Int→Z3→Int→Z5→Int→Int→Int→Int→Int→Int→Int→Nat→Nat→Nat→Option X
 | 0=>fun _ _ _ _ _ _ _ _ _ _ _ _ _ _ _ _ _ _ _ _ _ _ _ _ _ _=>none
 | m+1=>fun a b c d e f g h i j k l o p q r s t u v w x y z A B=>F.zf.L2_dog_reader_more.step n (F.zf.L2_dog_reader_more n k0 kr m) k0 kr a b c d e f g h i j k l o p q r s t u v w x y z A B
noncomputable def F.zf.L8.step {X:Type} (n:Nat) (rec:Z1→Z18→Z18→Int→Int→Z1→Int→Z3→Int→Z5→Int→Int→Int→Z1→Int→Z3→Int→Z5→Int→Int→Int→Int→Int→Nat→Nat→Nat→Option X) (k0:Z1→Z18→Z1→Int→Z3→Int→Z5→Int→Int→Int→Z1→Int→Z3→Int→Z5→Int→Int→Int→Int→Int→Nat→Nat→Nat→Option X) (b:Z1) (c:Z18) (x:Z18) (y:Int) (e:Int) (f:Z1) (g:Int) (h:Z3) (i:Int) (j:Z5) (k:Int) (l:Int) (m:Int) (w:Z1) (z:Int) (o:Z3) (p:Int) (q:Z5) (r:Int) (a:Int) (s:Int) (D:Int) (E:Int) (t:Nat) (u:Nat) (v:Nat):Option X:=
 bif decide (e<y) then
  (idx x e).bind fun d =>
   bif decide (e<(2:Int)) then
    bif e == (0:Int) then
     (F.zw n d ([58])).bind fun B =>
      (F.zah n (1:Int) B.1 (1:Int) (200:Int)).bind fun K =>
       bif !((K.1==(0:Int))&&(K.2.1==(0:Int))) then
        bif !(false&&((IntKind.wrap .i64 (a+(0:Int)))==(0:Int))) then
         k0 b c f g h i j k l m w z o p q r a s (15:Int) (IntKind.wrap .i64 (a+(0:Int))) t u v
        else
         rec b c x y (IntKind.wrap .i64 (e+(1:Int))) f g h i j k l m w z o p q r (IntKind.wrap .i64 (a+(IntKind.wrap .i64 ((d.length:Int)+(1:Int))))) s (15:Int) (IntKind.wrap .i64 (a+(0:Int))) t u v
       else
       bif !B.2.2.1 then
        bif !(false&&((IntKind.wrap .i64 (a+(d.length:Int)))==(0:Int))) then
         k0 b c f g h i j k l m w z o p q r a s (11:Int) (IntKind.wrap .i64 (a+(d.length:Int))) t u v
        else
         rec b c x y (IntKind.wrap .i64 (e+(1:Int))) f g h i j k l m w z o p q r (IntKind.wrap .i64 (a+(IntKind.wrap .i64 ((d.length:Int)+(1:Int))))) s (11:Int) (IntKind.wrap .i64 (a+(d.length:Int))) t u v
       else
        (O.split1 n B.2.1 ([58])).bind fun L =>
         F.zf.L9_dog_reader_first n
          (fun M N P Q R S T U V W Y Z a0 a1 a2 a3 bU bV bW bY a4 a5 a6 =>
           bif !(true&&true) then
            k0 b c M N P Q R S T U V W Y Z a0 a1 a2 a3 (0:Int) (0:Int) a4 a5 a6
           else
            rec b c x y (IntKind.wrap .i64 (e+(1:Int))) M N P Q R S T U V W Y Z a0 a1 (IntKind.wrap .i64 (a2+(IntKind.wrap .i64 ((d.length:Int)+(1:Int))))) a3 (0:Int) (0:Int) a4 a5 a6)
          (fun a7 a8 a9 aA aB aC aD aE aG aH aI aJ aK aL aM aN bZ c0 G H aO aP aQ =>
           bif !((G==(0:Int))&&(H==(0:Int))) then
            k0 b c a7 a8 a9 aA aB aC aD aE aG aH aI aJ aK aL aM aN G H aO aP aQ
           else
            rec b c x y (IntKind.wrap .i64 (e+(1:Int))) a7 a8 a9 aA aB aC aD aE aG aH aI aJ aK aL (IntKind.wrap .i64 (aM+(IntKind.wrap .i64 ((d.length:Int)+(1:Int))))) aN G H aO aP aQ) n (IntKind.wrap .i64 ((B.1.length:Int)+(1:Int))) L (L.length:Int) (0:Int) f g h i j k l m B.1 z o p q r a s D E (0:Int) (0:Int) t u v
    else
    bif e==(1:Int) then
     (F.zai n d).bind fun A =>
      bif !(A.2.1==(0:Int)) then
       bif !((A.2.1==(0:Int))&&((IntKind.wrap .i64 (a+(0:Int)))==(0:Int))) then
        k0 b c f g h i j k l m w z o p q r a s A.2.1 (IntKind.wrap .i64 (a+(0:Int))) t u v
       else
        rec b c x y (IntKind.wrap .i64 (e+(1:Int))) f g h i j k l m w z o p q r (IntKind.wrap .i64 (a+(IntKind.wrap .i64 ((d.length:Int)+(1:Int))))) s A.2.1 (IntKind.wrap .i64 (a+(0:Int))) t u v
      else
      bif !(true&&true) then
       k0 b c f g h i j k l m w A.1 o p q r a s (0:Int) (0:Int) t u v
      else
       rec b c x y (IntKind.wrap .i64 (e+(1:Int))) f g h i j k l m w A.1 o p q r (IntKind.wrap .i64 (a+(IntKind.wrap .i64 ((d.length:Int)+(1:Int))))) s (0:Int) (0:Int) t u v
    else
     none
   else
    F.zf.L2_dog_reader_more n
     (fun aR aS aT aU aV aW aY aZ b0 b1 b2 b3 b4 b5 C b6 c1 c2 c3 c4 b7 b8 b9 =>
      bif !(false&&((IntKind.wrap .i64 (C+(0:Int)))==(0:Int))) then
       k0 b c aR aS aT aU aV aW aY aZ b0 b1 b2 b3 b4 b5 C b6 (11:Int) (IntKind.wrap .i64 (C+(0:Int))) b7 b8 b9
      else
       rec b c x y (IntKind.wrap .i64 (e+(1:Int))) aR aS aT aU aV aW aY aZ b0 b1 b2 b3 b4 b5 (IntKind.wrap .i64 (C+(IntKind.wrap .i64 ((d.length:Int)+(1:Int))))) b6 (11:Int) (IntKind.wrap .i64 (C+(0:Int))) b7 b8 b9)
     (fun bA bB bC bD bE bG bH bI bJ bK bL bM bN bO bP bQ c5 c6 I J bR bS bT =>
      bif !((I==(0:Int))&&(J==(0:Int))) then
       k0 b c bA bB bC bD bE bG bH bI bJ bK bL bM bN bO bP bQ I J bR bS bT
      else
       rec b c x y (IntKind.wrap .i64 (e+(1:Int))) bA bB bC bD bE bG bH bI bJ bK bL bM bN bO (IntKind.wrap .i64 (bP+(IntKind.wrap .i64 ((d.length:Int)+(1:Int))))) bQ I J bR bS bT) n d ([64],(),[35],(),[84],(),()) (0:Int) f g h i j k l m w z o p q r a s D E (0:Int) (0:Int) t u v
 else
  k0 b c f g h i j k l m w z o p q r a s D E t u v
noncomputable def F.zf.L8 {X:Type} (n:Nat) (k0:Z1→Z18→Z1→Int→Z3→Int→Z5→Int→Int→Int→Z1→Int→Z3→Int→Z5→Int→Int→Int→Int→Int→Nat→Nat→Nat→Option X):Nat→Z1→Z18→Z18→Int→Int→Z1→Int→Z3→Int→Z5→Int→Int→Int→Z1→Int→Z3→Int→Z5→Int→Int→Int→Int→Int→Nat→Nat→Nat→Option X
 | 0=>fun _ _ _ _ _ _ _ _ _ _ _ _ _ _ _ _ _ _ _ _ _ _ _ _ _ _=>none
 | m+1=>fun a b c d e f g h i j k l o p q r s t u v w x y z A B=>F.zf.L8.step n (F.zf.L8 n k0 m) k0 a b c d e f g h i j k l o p q r s t u v w x y z A B
noncomputable def F.zf (n:Nat) (a0:Z1):Option ((Z21)×(Z16)×Unit):=
 bif decide ((a0.length:Int)>(8192:Int)) then
  some ((([],(0:Int),[],(0:Int),[],(0:Int),()),((12:Int),(0:Int),()),()))
 else
  (O.split1 n a0 ([124])).bind fun c =>
   F.zf.L8 n
    (fun d k l m o p q r s t e f g h i j u v a b w x y =>
     bif (a==(0:Int))&&(b==(0:Int)) then
      bif decide ((k.length:Int)<(2:Int)) then
       bif !(false&&((d.length:Int)==(0:Int))) then
        some ((([],(0:Int),[],(0:Int),[],(0:Int),()),((11:Int),(d.length:Int),()),()))
       else
        some (((e,f,g,h,i,j,()),((11:Int),(d.length:Int),()),()))
      else
      bif !((a==(0:Int))&&(b==(0:Int))) then
       some ((([],(0:Int),[],(0:Int),[],(0:Int),()),(a,b,()),()))
      else
       some (((e,f,g,h,i,j,()),(a,b,()),()))
     else
     bif !((a==(0:Int))&&(b==(0:Int))) then
      some ((([],(0:Int),[],(0:Int),[],(0:Int),()),(a,b,()),()))
     else
      some (((e,f,g,h,i,j,()),(a,b,()),()))) n a0 c c (c.length:Int) (0:Int) [] (0:Int) [] (0:Int) [] (0:Int) (0:Int) (0:Int) [] (0:Int) [] (1000000:Int) [] (0:Int) (0:Int) (0:Int) (0:Int) (0:Int) 0 0 0
noncomputable def F.zi.L2_graphite_cut_1.step {X:Type} (n:Nat) (rec:Int→Int→Bool→Z1→Int→Z3→Int→Z5→Int→Int→Int→Z1→Int→Z3→Int→Z5→Int→Int→Int→Z1→Nat→Nat→Nat→Nat→Option X) (k0:Z1→Int→Z3→Int→Z5→Int→Int→Int→Z1→Int→Z3→Int→Z5→Int→Int→Int→Z1→Nat→Nat→Nat→Nat→Option X) (kr:Z1→Int→Z3→Int→Z5→Int→Int→Int→Z1→Int→Z3→Int→Z5→Int→Int→Int→Z1→Nat→Nat→Nat→Nat→Option X) (c:Int) (s:Int) (C:Bool) (d:Z1) (e:Int) (f:Z3) (g:Int) (h:Z5) (i:Int) (j:Int) (k:Int) (x:Z1) (l:Int) (t:Z3) (m:Int) (o:Z5) (u:Int) (y:Int) (z:Int) (b:Z1) (p:Nat) (q:Nat) (v:Nat) (r:Nat):Option X:=
 bif C then
  (sub b c (b.length:Int)).bind fun D =>
   (F.zw n D ([32])).bind fun a =>
    bif s==(0:Int) then
     (F.zah n (1:Int) a.1 (1:Int) (200:Int)).bind fun B =>
      bif !((B.1==(0:Int))&&(B.2.1==(0:Int))) then
       kr d e f g h i j k a.1 l t m o u (15:Int) c b p q v r
      else
      bif !(a.2.2.1==(decide (s<(2:Int)))) then
       kr d e f g h i j k a.1 l t m o u (11:Int) (IntKind.wrap .i64 (c+(a.1.length:Int))) b p q v r
      else
       rec (IntKind.wrap .i64 (c+(IntKind.wrap .i64 ((a.1.length:Int)+(1:Int))))) (IntKind.wrap .i64 (s+(1:Int))) a.2.2.1 d e f g h i j k a.1 l t m o u y z b p q v r
    else
    bif s==(1:Int) then
     (F.zr n a.1).bind fun w =>
      bif !((w.2.1.1==(0:Int))&&(w.2.1.2.1==(0:Int))) then
       kr d e f g h i j k x l t m o u (17:Int) c b p q v r
      else
      bif !(a.2.2.1==(decide (s<(2:Int)))) then
       kr d e f g h i j k x l ([(w.1.1,w.1.2.1,w.1.2.2.1)]) m o u (11:Int) (IntKind.wrap .i64 (c+(a.1.length:Int))) b p q 1 r
      else
       rec (IntKind.wrap .i64 (c+(IntKind.wrap .i64 ((a.1.length:Int)+(1:Int))))) (IntKind.wrap .i64 (s+(1:Int))) a.2.2.1 d e f g h i j k x l ([(w.1.1,w.1.2.1,w.1.2.2.1)]) m o u y z b p q 1 r
    else
     (F.zat n a.1).bind fun A =>
      bif !((A.2.1.1==(0:Int))&&(A.2.1.2.1==(0:Int))) then
       kr d e f g h i j k x l t m o u (20:Int) c b p q v r
      else
      bif !(a.2.2.1==(decide (s<(2:Int)))) then
       kr d e f g h i j k x l t m o A.1 (11:Int) (IntKind.wrap .i64 (c+(a.1.length:Int))) b p q v r
      else
       rec (IntKind.wrap .i64 (c+(IntKind.wrap .i64 ((a.1.length:Int)+(1:Int))))) (IntKind.wrap .i64 (s+(1:Int))) a.2.2.1 d e f g h i j k x l t m o A.1 y z b p q v r
 else
  k0 d e f g h i j k x l t m o u y z b p q v r
noncomputable def F.zi.L2_graphite_cut_1 {X:Type} (n:Nat) (k0:Z1→Int→Z3→Int→Z5→Int→Int→Int→Z1→Int→Z3→Int→Z5→Int→Int→Int→Z1→Nat→Nat→Nat→Nat→Option X) (kr:Z1→Int→Z3→Int→Z5→Int→Int→Int→Z1→Int→Z3→Int→Z5→Int→Int→Int→Z1→Nat→Nat→Nat→Nat→Option X):Nat→Int→Int→Bool→Z1→Int→Z3→Int→Z5→Int→Int→Int→Z1→Int→Z3→Int→Z5→Int→Int→Int→Z1→Nat→Nat→Nat→Nat→Option X
 | 0=>fun _ _ _ _ _ _ _ _ _ _ _ _ _ _ _ _ _ _ _ _ _ _ _ _=>none
 | m+1=>fun a b c d e f g h i j k l o p q r s t u v w x y z=>F.zi.L2_graphite_cut_1.step n (F.zi.L2_graphite_cut_1 n k0 kr m) k0 kr a b c d e f g h i j k l o p q r s t u v w x y z
noncomputable def F.zi (n:Nat) (a0:Z1):Option ((Z21)×(Z16)×Unit):=
 F.zi.L2_graphite_cut_1 n
  (fun r s t u v w x y e f g h i j a b z A B C D =>
   bif !((a==(0:Int))&&(b==(0:Int))) then
    some ((([],(0:Int),[],(0:Int),[],(0:Int),()),(a,b,()),()))
   else
    some (((e,f,g,h,i,j,()),(a,b,()),())))
  (fun E G H I J K L M k l m o p q c d N O P Q R =>
   bif !((c==(0:Int))&&(d==(0:Int))) then
    some ((([],(0:Int),[],(0:Int),[],(0:Int),()),(c,d,()),()))
   else
    some (((k,l,m,o,p,q,()),(c,d,()),()))) n (0:Int) (0:Int) true [] (0:Int) [] (0:Int) [] (0:Int) (0:Int) (0:Int) [] (2:Int) [] (1000000:Int) [] (0:Int) (0:Int) (0:Int) a0 0 0 0 0
noncomputable def F.zao (n:Nat) (a0:Z1) (a1:Int):Option ((Z21)×(Z16)×Unit):=
 bif a1==(1:Int) then
  bif decide ((a0.length:Int)>(8192:Int)) then
   some ((([],(0:Int),[],(0:Int),[],(0:Int),()),((12:Int),(0:Int),()),()))
  else
   (F.ze n a0).bind fun a =>
    some (((a.1.1,a.1.2.1,a.1.2.2.1,a.1.2.2.2.1,a.1.2.2.2.2.1,a.1.2.2.2.2.2.1,()),(a.2.1.1,a.2.1.2.1,()),()))
 else
 bif a1==(2:Int) then
  bif decide ((a0.length:Int)>(8192:Int)) then
   some ((([],(0:Int),[],(0:Int),[],(0:Int),()),((12:Int),(0:Int),()),()))
  else
   (F.zf n a0).bind fun b =>
    some (((b.1.1,b.1.2.1,b.1.2.2.1,b.1.2.2.2.1,b.1.2.2.2.2.1,b.1.2.2.2.2.2.1,()),(b.2.1.1,b.2.1.2.1,()),()))
 else
 bif a1==(3:Int) then
  bif decide ((a0.length:Int)>(8192:Int)) then
   some ((([],(0:Int),[],(0:Int),[],(0:Int),()),((12:Int),(0:Int),()),()))
  else
   (F.zi n a0).bind fun c =>
    some (((c.1.1,c.1.2.1,c.1.2.2.1,c.1.2.2.2.1,c.1.2.2.2.2.1,c.1.2.2.2.2.2.1,()),(c.2.1.1,c.2.1.2.1,()),()))
 else
  some ((([],(0:Int),[],(0:Int),[],(0:Int),()),((29:Int),(0:Int),()),()))
noncomputable def F.zam (n:Nat) (a0:Z0) (a1:Z0):Option ((Z0)×(Z0)×(Bool)×Unit):=
 (O.bindex n a0 a1).bind fun a =>
  bif decide (a≥(0:Int)) then
   (sub a0 (0:Int) a).bind fun b =>
    (sub a0 (IntKind.wrap .i64 (a+(a1.length:Int))) (a0.length:Int)).bind fun c =>
     some ((b,c,true,()))
  else
   some ((a0,[],false,()))
noncomputable def F.zd.L0_line_pieces_1.step {X:Type} (n:Nat) (rec:Int→Bool→Bool→Int→Int→Int→Z0→Bool→Z9→Z0→Z11→Z0→Nat→Nat→Nat→Option X) (k0:Int→Bool→Bool→Int→Int→Int→Z0→Bool→Z9→Z0→Z11→Z0→Nat→Nat→Nat→Option X) (f:Int) (g:Bool) (h:Bool) (e:Int) (b:Int) (d:Int) (o:Z0) (i:Bool) (j:Z9) (k:Z0) (c:Z11) (q:Z0) (r:Nat) (l:Nat) (m:Nat):Option X:=
 bif decide ((q.length:Int)>(0:Int)) then
  (F.zam n q ([UInt8.ofNat ((10:Int)).toNat])).bind fun a =>
   bif decide (IntKind.wrap .i64 ((IntKind.wrap .i64 (b+(a.1.length:Int))) - d)>e) then
    bif a.2.2.1 then
     bif !(decide (IntKind.wrap .i64 ((IntKind.wrap .i64 ((IntKind.wrap .i64 ((IntKind.wrap .i64 (b+(a.1.length:Int)))+(1:Int))) - (1:Int))) - d)>e)) then
      eqK (some [(.sl Y1 c (.own 2))]) (some [(.sl Y1 c (.own 2))]) (
       bif decide ((c.length+1)*40≤2 ^ 46)&&decide (0<40∧40≤2 ^ 20) then
        bif Nat.beq m c.length then
         rec f g h e (IntKind.wrap .i64 ((IntKind.wrap .i64 (b+(a.1.length:Int)))+(1:Int))) (IntKind.wrap .i64 ((IntKind.wrap .i64 (b+(a.1.length:Int)))+(1:Int))) [] i j k (c++([(d,IntKind.wrap .i64 ((IntKind.wrap .i64 (b+(a.1.length:Int)))+(1:Int)),[],decide (IntKind.wrap .i64 ((IntKind.wrap .i64 ((IntKind.wrap .i64 ((IntKind.wrap .i64 (b+(a.1.length:Int)))+(1:Int))) - (1:Int))) - d)>e))])) a.2.1 0 l ((c++([(d,IntKind.wrap .i64 ((IntKind.wrap .i64 (b+(a.1.length:Int)))+(1:Int)),[],decide (IntKind.wrap .i64 ((IntKind.wrap .i64 ((IntKind.wrap .i64 ((IntKind.wrap .i64 (b+(a.1.length:Int)))+(1:Int))) - (1:Int))) - d)>e))])).length)
        else
         none
       else
        none)
     else
      eqK (some [(.sl Y1 c (.own 2))]) (some [(.sl Y1 c (.own 2))]) (
       bif decide ((c.length+1)*40≤2 ^ 46)&&decide (0<40∧40≤2 ^ 20) then
        bif Nat.beq m c.length then
         rec f g h e (IntKind.wrap .i64 ((IntKind.wrap .i64 (b+(a.1.length:Int)))+(1:Int))) (IntKind.wrap .i64 ((IntKind.wrap .i64 (b+(a.1.length:Int)))+(1:Int))) [] i j k (c++([(d,IntKind.wrap .i64 ((IntKind.wrap .i64 (b+(a.1.length:Int)))+(1:Int)),[],decide (IntKind.wrap .i64 ((IntKind.wrap .i64 ((IntKind.wrap .i64 ((IntKind.wrap .i64 (b+(a.1.length:Int)))+(1:Int))) - (1:Int))) - d)>e))])) a.2.1 0 l ((c++([(d,IntKind.wrap .i64 ((IntKind.wrap .i64 (b+(a.1.length:Int)))+(1:Int)),[],decide (IntKind.wrap .i64 ((IntKind.wrap .i64 ((IntKind.wrap .i64 ((IntKind.wrap .i64 (b+(a.1.length:Int)))+(1:Int))) - (1:Int))) - d)>e))])).length)
        else
         none
       else
        none)
    else
     rec f g h e (IntKind.wrap .i64 (b+(a.1.length:Int))) d [] i j k c a.2.1 0 l m
   else
   bif (o.length:Int)==(o.length:Int) then
    (sub o (0:Int) (o.length:Int)).bind fun p =>
     bif decide ((p.length+a.1.length)*1≤2 ^ 46)&&decide (0<1∧1≤2 ^ 20) then
      bif a.2.2.1 then
       bif !(decide (IntKind.wrap .i64 ((IntKind.wrap .i64 ((IntKind.wrap .i64 ((IntKind.wrap .i64 (b+(a.1.length:Int)))+(1:Int))) - (1:Int))) - d)>e)) then
        eqK (some [(.sl Y1 c (.own 2))]) (some [(.sl Y1 c (.own 2))]) (
         bif decide ((c.length+1)*40≤2 ^ 46)&&decide (0<40∧40≤2 ^ 20) then
          bif Nat.beq m c.length then
           rec f g h e (IntKind.wrap .i64 ((IntKind.wrap .i64 (b+(a.1.length:Int)))+(1:Int))) (IntKind.wrap .i64 ((IntKind.wrap .i64 (b+(a.1.length:Int)))+(1:Int))) [] i j k (c++([(d,IntKind.wrap .i64 ((IntKind.wrap .i64 (b+(a.1.length:Int)))+(1:Int)),p++a.1,decide (IntKind.wrap .i64 ((IntKind.wrap .i64 ((IntKind.wrap .i64 ((IntKind.wrap .i64 (b+(a.1.length:Int)))+(1:Int))) - (1:Int))) - d)>e))])) a.2.1 0 l ((c++([(d,IntKind.wrap .i64 ((IntKind.wrap .i64 (b+(a.1.length:Int)))+(1:Int)),p++a.1,decide (IntKind.wrap .i64 ((IntKind.wrap .i64 ((IntKind.wrap .i64 ((IntKind.wrap .i64 (b+(a.1.length:Int)))+(1:Int))) - (1:Int))) - d)>e))])).length)
          else
           none
         else
          none)
       else
        eqK (some [(.sl Y1 c (.own 2))]) (some [(.sl Y1 c (.own 2))]) (
         bif decide ((c.length+1)*40≤2 ^ 46)&&decide (0<40∧40≤2 ^ 20) then
          bif Nat.beq m c.length then
           rec f g h e (IntKind.wrap .i64 ((IntKind.wrap .i64 (b+(a.1.length:Int)))+(1:Int))) (IntKind.wrap .i64 ((IntKind.wrap .i64 (b+(a.1.length:Int)))+(1:Int))) [] i j k (c++([(d,IntKind.wrap .i64 ((IntKind.wrap .i64 (b+(a.1.length:Int)))+(1:Int)),[],decide (IntKind.wrap .i64 ((IntKind.wrap .i64 ((IntKind.wrap .i64 ((IntKind.wrap .i64 (b+(a.1.length:Int)))+(1:Int))) - (1:Int))) - d)>e))])) a.2.1 0 l ((c++([(d,IntKind.wrap .i64 ((IntKind.wrap .i64 (b+(a.1.length:Int)))+(1:Int)),[],decide (IntKind.wrap .i64 ((IntKind.wrap .i64 ((IntKind.wrap .i64 ((IntKind.wrap .i64 (b+(a.1.length:Int)))+(1:Int))) - (1:Int))) - d)>e))])).length)
          else
           none
         else
          none)
      else
       rec f g h e (IntKind.wrap .i64 (b+(a.1.length:Int))) d (p++a.1) i j k c a.2.1 ((p++a.1).length) l m
     else
      none
   else
    none
 else
  k0 f g h e b d o i j k c q r l m
noncomputable def F.zd.L0_line_pieces_1 {X:Type} (n:Nat) (k0:Int→Bool→Bool→Int→Int→Int→Z0→Bool→Z9→Z0→Z11→Z0→Nat→Nat→Nat→Option X):Nat→Int→Bool→Bool→Int→Int→Int→Z0→Bool→Z9→Z0→Z11→Z0→Nat→Nat→Nat→Option X
 | 0=>fun _ _ _ _ _ _ _ _ _ _ _ _ _ _ _=>none
 | m+1=>fun a b c d e f g h i j k l o p q=>F.zd.L0_line_pieces_1.step n (F.zd.L0_line_pieces_1 n k0 m) k0 a b c d e f g h i j k l o p q
noncomputable def F.zd.L2_sess_Sess_text_1.step {X:Type} (n:Nat) (rec:Z11→Int→Int→Int→Bool→Bool→Int→Int→Int→Z0→Bool→Z9→Z0→Z11→Z0→Nat→Nat→Nat→Option X) (k0:Int→Bool→Bool→Int→Int→Int→Z0→Bool→Z9→Z0→Z11→Z0→Nat→Nat→Option X) (f:Z11) (g:Int) (d:Int) (e:Int) (h:Bool) (i:Bool) (j:Int) (k:Int) (l:Int) (m:Z0) (o:Bool) (c:Z9) (p:Z0) (q:Z11) (r:Z0) (u:Nat) (s:Nat) (t:Nat):Option X:=
 bif decide (d<g) then
  (idx f d).bind fun a =>
   bif a.2.2.2 then
    bif decide ((c.length+1)*64≤2 ^ 46)&&decide (0<64∧64≤2 ^ 20) then
     bif Nat.beq t c.length then
      rec f g (IntKind.wrap .i64 (d+(1:Int))) e h i j k l m o (c++([(2,a.1,a.2.1,[],12,a.1)])) p q r u s ((c++([(2,a.1,a.2.1,[],12,a.1)])).length)
     else
      none
    else
     none
   else
    (F.zao n a.2.2.1 e).bind fun b =>
     bif !((b.2.1.1==(0:Int))&&(b.2.1.2.1==(0:Int))) then
      bif decide ((c.length+1)*64≤2 ^ 46)&&decide (0<64∧64≤2 ^ 20) then
       bif Nat.beq t c.length then
        rec f g (IntKind.wrap .i64 (d+(1:Int))) e h i j k l m o (c++([(2,a.1,a.2.1,[],b.2.1.1,IntKind.wrap .i64 (a.1+b.2.1.2.1))])) p q r u s ((c++([(2,a.1,a.2.1,[],b.2.1.1,IntKind.wrap .i64 (a.1+b.2.1.2.1))])).length)
       else
        none
      else
       none
     else
     bif decide ((c.length+1)*64≤2 ^ 46)&&decide (0<64∧64≤2 ^ 20) then
      bif Nat.beq t c.length then
       rec f g (IntKind.wrap .i64 (d+(1:Int))) e h i j k l m o (c++([(1,a.1,a.2.1,[(b.1.1,b.1.2.1,b.1.2.2.1,b.1.2.2.2.1,b.1.2.2.2.2.1,b.1.2.2.2.2.2.1)],0,0)])) p q r u s ((c++([(1,a.1,a.2.1,[(b.1.1,b.1.2.1,b.1.2.2.1,b.1.2.2.2.1,b.1.2.2.2.2.1,b.1.2.2.2.2.2.1)],0,0)])).length)
      else
       none
     else
      none
 else
  k0 e h i j k l m o c p q r s t
noncomputable def F.zd.L2_sess_Sess_text_1 {X:Type} (n:Nat) (k0:Int→Bool→Bool→Int→Int→Int→Z0→Bool→Z9→Z0→Z11→Z0→Nat→Nat→Option X):Nat→Z11→Int→Int→Int→Bool→Bool→Int→Int→Int→Z0→Bool→Z9→Z0→Z11→Z0→Nat→Nat→Nat→Option X
 | 0=>fun _ _ _ _ _ _ _ _ _ _ _ _ _ _ _ _ _ _=>none
 | m+1=>fun a b c d e f g h i j k l o p q r s t=>F.zd.L2_sess_Sess_text_1.step n (F.zd.L2_sess_Sess_text_1 n k0 m) k0 a b c d e f g h i j k l o p q r s t
noncomputable def F.zd.C8 {X:Type} (n:Nat) (kr:Z9→Int→Nat→Option X) (c:Int) (a:Z9) (b:Z9) (d:Nat) (e:Nat):Option X:=
 bif !(c==(0:Int)) then
  kr [] c 0
 else
 bif decide ((a.length+b.length)*64≤2 ^ 46)&&decide (0<64∧64≤2 ^ 20) then
  bif Nat.beq d a.length then
   kr (a++b) (0:Int) ((a++b).length)
  else
   none
 else
  none
noncomputable def F.zd.C5 {X:Type} (n:Nat) (kr:Z9→Int→Nat→Option X) (krx1:Z9→Int→Nat→Option X) (e:Int) (a:Z9) (f:Int) (g:Bool) (h:Bool) (i:Int) (d:Int) (c:Int) (H:Z0) (j:Bool) (b:Nat) (I:Nat):Option X:=
 bif !(e==(0:Int)) then
  kr [] e 0
 else
 bif h then
  F.zd.C8 n
   (fun k l m =>
    kr k l m) (28:Int) a [] b 0
 else
 bif g then
  F.zd.C8 n
   (fun o p q =>
    kr o p q) (0:Int) a [] b 0
 else
 bif f==(4:Int) then
  F.zd.C8 n
   (fun r s t =>
    kr r s t) (0:Int) a [] b 0
 else
 bif j then
  F.zd.C8 n
   (fun u v w =>
    kr u v w) (0:Int) a [] b 0
 else
 bif d==c then
  F.zd.C8 n
   (fun x y z =>
    kr x y z) (0:Int) a [] b 0
 else
 bif !(decide (IntKind.wrap .i64 (d - c)>i)) then
  F.zd.C8 n
   (fun A B C =>
    kr A B C) (0:Int) a ([(3,c,d,[],30,c)]) b 1
 else
  F.zd.C8 n
   (fun D E G =>
    kr D E G) (0:Int) a ([(3,c,d,[],30,c)]) b 1
noncomputable def F.zd.L0_chunk_Framer_frames_1.step {X:Type} (n:Nat) (rec:Int→Bool→Bool→Int→Int→Z0→Int→Bool→Z9→Z0→Z14→Z0→Nat→Nat→Nat→Option X) (k0:Int→Bool→Bool→Int→Int→Z0→Int→Bool→Z9→Z0→Z14→Z0→Nat→Nat→Nat→Option X) (kr:Int→Bool→Bool→Int→Int→Z0→Int→Bool→Z9→Z0→Z14→Z0→Nat→Nat→Nat→Nat→Option X) (g:Int) (h:Bool) (i:Bool) (f:Int) (c:Int) (b:Z0) (p:Int) (r:Bool) (j:Z9) (k:Z0) (d:Z14) (q:Z0) (s:Nat) (l:Nat) (m:Nat):Option X:=
 bif decide ((q.length:Int)>(0:Int)) then
  bif decide (p>(0:Int)) then
   (sub q (0:Int) (if (q.length:Int)<(IntKind.wrap .i64 (p - (b.length:Int))) then (q.length:Int) else (IntKind.wrap .i64 (p - (b.length:Int))))).bind fun e =>
    bif decide ((b.length+e.length)*1≤2 ^ 46)&&decide (0<1∧1≤2 ^ 20) then
     bif Nat.beq s b.length then
      (sub q (if (q.length:Int)<(IntKind.wrap .i64 (p - (b.length:Int))) then (q.length:Int) else (IntKind.wrap .i64 (p - (b.length:Int)))) (q.length:Int)).bind fun t =>
       bif p==(0:Int) then
        rec g h i f (IntKind.wrap .i64 (c+(e.length:Int))) (b++e) p r j k d t ((b++e).length) l m
       else
       bif decide (((b++e).length:Int)<p) then
        rec g h i f (IntKind.wrap .i64 (c+(e.length:Int))) (b++e) p r j k d t ((b++e).length) l m
       else
       bif decide ((d.length+1)*56≤2 ^ 46)&&decide (0<56∧56≤2 ^ 20) then
        bif Nat.beq m d.length then
         rec g h i f (IntKind.wrap .i64 (c+(e.length:Int))) [] (0:Int) r j k (d++([(IntKind.wrap .i64 ((IntKind.wrap .i64 (c+(e.length:Int))) - ((b++e).length:Int)),IntKind.wrap .i64 (c+(e.length:Int)),b++e,(0,0))])) t 0 l ((d++([(IntKind.wrap .i64 ((IntKind.wrap .i64 (c+(e.length:Int))) - ((b++e).length:Int)),IntKind.wrap .i64 (c+(e.length:Int)),b++e,(0,0))])).length)
        else
         none
       else
        none
     else
      none
    else
     none
  else
   (sub q (0:Int) (1:Int)).bind fun a =>
    bif decide ((b.length+a.length)*1≤2 ^ 46)&&decide (0<1∧1≤2 ^ 20) then
     bif Nat.beq s b.length then
      (F.zaj n (b++a)).bind fun o =>
       bif !((o.2.1.1==(0:Int))&&(o.2.1.2.1==(0:Int))) then
        bif !(o.2.1.1==(0:Int)) then
         bif decide ((d.length+1)*56≤2 ^ 46)&&decide (0<56∧56≤2 ^ 20) then
          bif Nat.beq m d.length then
           kr g h i f (IntKind.wrap .i64 (c+(a.length:Int))) [] (0:Int) true j k (d++([(IntKind.wrap .i64 ((IntKind.wrap .i64 (c+(a.length:Int))) - ((b++a).length:Int)),IntKind.wrap .i64 (c+(a.length:Int)),[],(o.2.1.1,IntKind.wrap .i64 ((IntKind.wrap .i64 (c+(a.length:Int))) - (1:Int))))])) [] 0 l ((d++([(IntKind.wrap .i64 ((IntKind.wrap .i64 (c+(a.length:Int))) - ((b++a).length:Int)),IntKind.wrap .i64 (c+(a.length:Int)),[],(o.2.1.1,IntKind.wrap .i64 ((IntKind.wrap .i64 (c+(a.length:Int))) - (1:Int))))])).length) 0
          else
           none
         else
          none
        else
        bif p==(0:Int) then
         rec g h i f (IntKind.wrap .i64 (c+(a.length:Int))) (b++a) p r j k d [] ((b++a).length) l m
        else
        bif decide (((b++a).length:Int)<p) then
         rec g h i f (IntKind.wrap .i64 (c+(a.length:Int))) (b++a) p r j k d [] ((b++a).length) l m
        else
        bif decide ((d.length+1)*56≤2 ^ 46)&&decide (0<56∧56≤2 ^ 20) then
         bif Nat.beq m d.length then
          rec g h i f (IntKind.wrap .i64 (c+(a.length:Int))) [] (0:Int) r j k (d++([(IntKind.wrap .i64 ((IntKind.wrap .i64 (c+(a.length:Int))) - ((b++a).length:Int)),IntKind.wrap .i64 (c+(a.length:Int)),b++a,(0,0))])) [] 0 l ((d++([(IntKind.wrap .i64 ((IntKind.wrap .i64 (c+(a.length:Int))) - ((b++a).length:Int)),IntKind.wrap .i64 (c+(a.length:Int)),b++a,(0,0))])).length)
         else
          none
        else
         none
       else
       bif decide (o.1>(0:Int)) then
        bif decide ((IntKind.wrap .i64 ((IntKind.wrap .i64 (o.1 - ((b++a).length:Int))) - (4:Int)))>f) then
         bif decide ((d.length+1)*56≤2 ^ 46)&&decide (0<56∧56≤2 ^ 20) then
          bif Nat.beq m d.length then
           kr g h i f (IntKind.wrap .i64 (c+(a.length:Int))) [] (0:Int) true j k (d++([(IntKind.wrap .i64 ((IntKind.wrap .i64 (c+(a.length:Int))) - ((b++a).length:Int)),IntKind.wrap .i64 (c+(a.length:Int)),[],(12,IntKind.wrap .i64 ((IntKind.wrap .i64 (c+(a.length:Int))) - (1:Int))))])) [] 0 l ((d++([(IntKind.wrap .i64 ((IntKind.wrap .i64 (c+(a.length:Int))) - ((b++a).length:Int)),IntKind.wrap .i64 (c+(a.length:Int)),[],(12,IntKind.wrap .i64 ((IntKind.wrap .i64 (c+(a.length:Int))) - (1:Int))))])).length) 0
          else
           none
         else
          none
        else
         (sub q (1:Int) (q.length:Int)).bind fun u =>
          bif o.1==(0:Int) then
           rec g h i f (IntKind.wrap .i64 (c+(a.length:Int))) (b++a) o.1 r j k d u ((b++a).length) l m
          else
          bif decide (((b++a).length:Int)<o.1) then
           rec g h i f (IntKind.wrap .i64 (c+(a.length:Int))) (b++a) o.1 r j k d u ((b++a).length) l m
          else
          bif decide ((d.length+1)*56≤2 ^ 46)&&decide (0<56∧56≤2 ^ 20) then
           bif Nat.beq m d.length then
            rec g h i f (IntKind.wrap .i64 (c+(a.length:Int))) [] (0:Int) r j k (d++([(IntKind.wrap .i64 ((IntKind.wrap .i64 (c+(a.length:Int))) - ((b++a).length:Int)),IntKind.wrap .i64 (c+(a.length:Int)),b++a,(0,0))])) u 0 l ((d++([(IntKind.wrap .i64 ((IntKind.wrap .i64 (c+(a.length:Int))) - ((b++a).length:Int)),IntKind.wrap .i64 (c+(a.length:Int)),b++a,(0,0))])).length)
           else
            none
          else
           none
       else
        (sub q (1:Int) (q.length:Int)).bind fun v =>
         bif o.1==(0:Int) then
          rec g h i f (IntKind.wrap .i64 (c+(a.length:Int))) (b++a) o.1 r j k d v ((b++a).length) l m
         else
         bif decide (((b++a).length:Int)<o.1) then
          rec g h i f (IntKind.wrap .i64 (c+(a.length:Int))) (b++a) o.1 r j k d v ((b++a).length) l m
         else
         bif decide ((d.length+1)*56≤2 ^ 46)&&decide (0<56∧56≤2 ^ 20) then
          bif Nat.beq m d.length then
           rec g h i f (IntKind.wrap .i64 (c+(a.length:Int))) [] (0:Int) r j k (d++([(IntKind.wrap .i64 ((IntKind.wrap .i64 (c+(a.length:Int))) - ((b++a).length:Int)),IntKind.wrap .i64 (c+(a.length:Int)),b++a,(0,0))])) v 0 l ((d++([(IntKind.wrap .i64 ((IntKind.wrap .i64 (c+(a.length:Int))) - ((b++a).length:Int)),IntKind.wrap .i64 (c+(a.length:Int)),b++a,(0,0))])).length)
          else
           none
         else
          none
     else
      none
    else
     none
 else
  k0 g h i f c b p r j k d q s l m
noncomputable def F.zd.L0_chunk_Framer_frames_1 {X:Type} (n:Nat) (k0:Int→Bool→Bool→Int→Int→Z0→Int→Bool→Z9→Z0→Z14→Z0→Nat→Nat→Nat→Option X) (kr:Int→Bool→Bool→Int→Int→Z0→Int→Bool→Z9→Z0→Z14→Z0→Nat→Nat→Nat→Nat→Option X):Nat→Int→Bool→Bool→Int→Int→Z0→Int→Bool→Z9→Z0→Z14→Z0→Nat→Nat→Nat→Option X
 | 0=>fun _ _ _ _ _ _ _ _ _ _ _ _ _ _ _=>none
 | m+1=>fun a b c d e f g h i j k l o p q=>F.zd.L0_chunk_Framer_frames_1.step n (F.zd.L0_chunk_Framer_frames_1 n k0 kr m) k0 kr a b c d e f g h i j k l o p q
noncomputable def F.zd.L2_sess_Sess_binary_1.step {X:Type} (n:Nat) (rec:Z14→Int→Int→Int→Bool→Bool→Int→Int→Z0→Int→Bool→Z9→Z0→Z14→Z0→Nat→Nat→Nat→Option X) (k0:Int→Bool→Bool→Int→Int→Z0→Int→Bool→Z9→Z0→Z14→Z0→Nat→Nat→Option X) (kr:Int→Bool→Bool→Int→Int→Z0→Int→Bool→Z9→Z0→Z14→Z0→Nat→Nat→Option X) (r:Z14) (s:Int) (q:Int) (d:Int) (t:Bool) (e:Bool) (f:Int) (g:Int) (h:Z0) (i:Int) (j:Bool) (b:Z9) (k:Z0) (l:Z14) (m:Z0) (u:Nat) (o:Nat) (p:Nat):Option X:=
 bif decide (q<s) then
  (idx r q).bind fun a =>
   bif (a.2.2.2.1==(0:Int))&&(a.2.2.2.2==(0:Int)) then
    (F.zal n a.2.2.1).bind fun c =>
     bif (c.2.1.1==(0:Int))&&(c.2.1.2.1==(0:Int)) then
      bif decide ((b.length+1)*64≤2 ^ 46)&&decide (0<64∧64≤2 ^ 20) then
       bif Nat.beq p b.length then
        rec r s (IntKind.wrap .i64 (q+(1:Int))) d false e f g h i j (b++([(1,a.1,a.2.1,c.1,0,0)])) k l m u o ((b++([(1,a.1,a.2.1,c.1,0,0)])).length)
       else
        none
      else
       none
     else
     bif decide ((b.length+1)*64≤2 ^ 46)&&decide (0<64∧64≤2 ^ 20) then
      bif Nat.beq p b.length then
       kr d true e f g h i j (b++([(2,a.1,a.2.1,[],c.2.1.1,IntKind.wrap .i64 (a.1+c.2.1.2.1))])) k l m o ((b++([(2,a.1,a.2.1,[],c.2.1.1,IntKind.wrap .i64 (a.1+c.2.1.2.1))])).length)
      else
       none
     else
      none
   else
   bif decide ((b.length+1)*64≤2 ^ 46)&&decide (0<64∧64≤2 ^ 20) then
    bif Nat.beq p b.length then
     kr d true e f g h i j (b++([(2,a.1,a.2.1,[],a.2.2.2.1,a.2.2.2.2)])) k l m o ((b++([(2,a.1,a.2.1,[],a.2.2.2.1,a.2.2.2.2)])).length)
    else
     none
   else
    none
 else
  k0 d t e f g h i j b k l m o p
noncomputable def F.zd.L2_sess_Sess_binary_1 {X:Type} (n:Nat) (k0:Int→Bool→Bool→Int→Int→Z0→Int→Bool→Z9→Z0→Z14→Z0→Nat→Nat→Option X) (kr:Int→Bool→Bool→Int→Int→Z0→Int→Bool→Z9→Z0→Z14→Z0→Nat→Nat→Option X):Nat→Z14→Int→Int→Int→Bool→Bool→Int→Int→Z0→Int→Bool→Z9→Z0→Z14→Z0→Nat→Nat→Nat→Option X
 | 0=>fun _ _ _ _ _ _ _ _ _ _ _ _ _ _ _ _ _ _=>none
 | m+1=>fun a b c d e f g h i j k l o p q r s t=>F.zd.L2_sess_Sess_binary_1.step n (F.zd.L2_sess_Sess_binary_1 n k0 kr m) k0 kr a b c d e f g h i j k l o p q r s t
noncomputable def F.zd.C5_1 {X:Type} (n:Nat) (kr:Z9→Int→Nat→Option X) (krx1:Z9→Int→Nat→Option X) (e:Int) (a:Z9) (f:Int) (g:Bool) (h:Bool) (C:Int) (c:Int) (d:Z0) (D:Int) (i:Bool) (b:Nat) (E:Nat):Option X:=
 bif !(e==(0:Int)) then
  kr [] e 0
 else
 bif h then
  F.zd.C8 n
   (fun j k l =>
    kr j k l) (28:Int) a [] b 0
 else
 bif g then
  F.zd.C8 n
   (fun m o p =>
    kr m o p) (0:Int) a [] b 0
 else
 bif f==(4:Int) then
  bif i then
   F.zd.C8 n
    (fun q r s =>
     kr q r s) (0:Int) a [] b 0
  else
  bif (d.length:Int)==(0:Int) then
   F.zd.C8 n
    (fun t u v =>
     kr t u v) (0:Int) a [] b 0
  else
   F.zd.C8 n
    (fun w x y =>
     kr w x y) (0:Int) a ([(3,IntKind.wrap .i64 (c - (d.length:Int)),c,[],30,IntKind.wrap .i64 (c - (d.length:Int)))]) b 1
 else
  F.zd.C8 n
   (fun z A B =>
    kr z A B) (0:Int) a [] b 0
noncomputable def F.zd (n:Nat) (a0:Int) (a1:Int) (a2:Z0):Option ((Z9)×(Int)×Unit):=
 bif a0 == (1:Int) then
  bif a0 == (1:Int) then
   bif decide (a1<(1:Int)) then
    some (([],(10:Int),()))
   else
   bif decide (a1>(8192:Int)) then
    some (([],(10:Int),()))
   else
    F.zd.L0_line_pieces_1 n
     (fun cC cD cE cG cH cI cJ cK cL cM a cN cO cP cQ =>
      F.zd.L2_sess_Sess_text_1 n
       (fun z b A B C D E G H l3 l4 l5 I J =>
        bif b then
         F.zd.C5 n
          (fun cR cS l6 =>
           some ((cR,cS,())))
          (fun cT cU l7 =>
           some ((cT,cU,()))) (0:Int) H z b A B C D E G J I
        else
         F.zd.C5 n
          (fun cV cW l8 =>
           some ((cV,cW,())))
          (fun cY cZ l9 =>
           some ((cY,cZ,()))) (0:Int) H z b A B C D E G J I) n a (a.length:Int) (0:Int) cC cD cE cG cH cI cJ cK cL cM a cN cQ cO cP) n a0 false false a1 (0:Int) (0:Int) [] false [] a2 [] a2 0 0 0
  else
  bif a0 == (4:Int) then
   bif decide (a1<(1:Int)) then
    some (([],(10:Int),()))
   else
   bif decide (a1>(1048576:Int)) then
    some (([],(10:Int),()))
   else
    (F.zab n a2).bind fun d0 =>
     F.zd.L0_chunk_Framer_frames_1 n
      (fun d1 d2 d3 d4 d5 d6 d7 d8 d9 dA c dB dC dD dE =>
       F.zd.L2_sess_Sess_binary_1 n
        (fun K d L M N dG dH dI O lA lB lC dJ P =>
         bif d then
          F.zd.C5_1 n
           (fun dK dL lD =>
            some ((dK,dL,())))
           (fun dM dN lE =>
            some ((dM,dN,()))) (0:Int) O K d L M N [] (0:Int) true P 0
         else
          F.zd.C5_1 n
           (fun dO dP lG =>
            some ((dO,dP,())))
           (fun dQ dR lH =>
            some ((dQ,dR,()))) (0:Int) O K d L M N dG dH dI P dJ)
        (fun Q e R S T dS dT dU U lI lJ lK dV V =>
         bif e then
          F.zd.C5_1 n
           (fun dW dY lL =>
            some ((dW,dY,())))
           (fun dZ e0 lM =>
            some ((dZ,e0,()))) (0:Int) U Q e R S T [] (0:Int) true V 0
         else
          F.zd.C5_1 n
           (fun e1 e2 lN =>
            some ((e1,e2,())))
           (fun e3 e4 lO =>
            some ((e3,e4,()))) (0:Int) U Q e R S T dS dT dU V dV) n c (c.length:Int) (0:Int) d1 d2 d3 d4 d5 d6 d7 d8 d9 dA c dB dE dC dD)
      (fun e5 e6 e7 e8 e9 eA eB eC eD eE f eG eH eI eJ lP =>
       F.zd.L2_sess_Sess_binary_1 n
        (fun W g Y Z a3 eK eL eM a4 lQ lR lS eN a5 =>
         bif g then
          F.zd.C5_1 n
           (fun eO eP lT =>
            some ((eO,eP,())))
           (fun eQ eR lU =>
            some ((eQ,eR,()))) (0:Int) a4 W g Y Z a3 [] (0:Int) true a5 0
         else
          F.zd.C5_1 n
           (fun eS eT lV =>
            some ((eS,eT,())))
           (fun eU eV lW =>
            some ((eU,eV,()))) (0:Int) a4 W g Y Z a3 eK eL eM a5 eN)
        (fun a6 h a7 a8 a9 eW eY eZ aA lY lZ m0 f0 aB =>
         bif h then
          F.zd.C5_1 n
           (fun f1 f2 m1 =>
            some ((f1,f2,())))
           (fun f3 f4 m2 =>
            some ((f3,f4,()))) (0:Int) aA a6 h a7 a8 a9 [] (0:Int) true aB 0
         else
          F.zd.C5_1 n
           (fun f5 f6 m3 =>
            some ((f5,f6,())))
           (fun f7 f8 m4 =>
            some ((f7,f8,()))) (0:Int) aA a6 h a7 a8 a9 eW eY eZ aB f0) n f (f.length:Int) (0:Int) e5 e6 e7 e8 e9 eA eB eC eD eE f eG eJ eH eI) n a0 false false a1 (0:Int) [] (0:Int) false [] a2 [] d0 0 0 0
  else
   some (([],(29:Int),()))
 else
 bif a0 == (2:Int) then
  bif a0 == (2:Int) then
   bif decide (a1<(1:Int)) then
    some (([],(10:Int),()))
   else
   bif decide (a1>(8192:Int)) then
    some (([],(10:Int),()))
   else
    F.zd.L0_line_pieces_1 n
     (fun f9 fA fB fC fD fE fG fH fI fJ i fK fL fM fN =>
      F.zd.L2_sess_Sess_text_1 n
       (fun aC j aD aE aG aH aI aJ aK m5 m6 m7 aL aM =>
        bif j then
         F.zd.C5 n
          (fun fO fP m8 =>
           some ((fO,fP,())))
          (fun fQ fR m9 =>
           some ((fQ,fR,()))) (0:Int) aK aC j aD aE aG aH aI aJ aM aL
        else
         F.zd.C5 n
          (fun fS fT mA =>
           some ((fS,fT,())))
          (fun fU fV mB =>
           some ((fU,fV,()))) (0:Int) aK aC j aD aE aG aH aI aJ aM aL) n i (i.length:Int) (0:Int) f9 fA fB fC fD fE fG fH fI fJ i fK fN fL fM) n a0 false false a1 (0:Int) (0:Int) [] false [] a2 [] a2 0 0 0
  else
  bif a0 == (4:Int) then
   bif decide (a1<(1:Int)) then
    some (([],(10:Int),()))
   else
   bif decide (a1>(1048576:Int)) then
    some (([],(10:Int),()))
   else
    (F.zab n a2).bind fun fW =>
     F.zd.L0_chunk_Framer_frames_1 n
      (fun fY fZ g0 g1 g2 g3 g4 g5 g6 g7 k g8 g9 gA gB =>
       F.zd.L2_sess_Sess_binary_1 n
        (fun aN l aO aP aQ gC gD gE aR mC mD mE gG aS =>
         bif l then
          F.zd.C5_1 n
           (fun gH gI mG =>
            some ((gH,gI,())))
           (fun gJ gK mH =>
            some ((gJ,gK,()))) (0:Int) aR aN l aO aP aQ [] (0:Int) true aS 0
         else
          F.zd.C5_1 n
           (fun gL gM mI =>
            some ((gL,gM,())))
           (fun gN gO mJ =>
            some ((gN,gO,()))) (0:Int) aR aN l aO aP aQ gC gD gE aS gG)
        (fun aT m aU aV aW gP gQ gR aY mK mL mM gS aZ =>
         bif m then
          F.zd.C5_1 n
           (fun gT gU mN =>
            some ((gT,gU,())))
           (fun gV gW mO =>
            some ((gV,gW,()))) (0:Int) aY aT m aU aV aW [] (0:Int) true aZ 0
         else
          F.zd.C5_1 n
           (fun gY gZ mP =>
            some ((gY,gZ,())))
           (fun h0 h1 mQ =>
            some ((h0,h1,()))) (0:Int) aY aT m aU aV aW gP gQ gR aZ gS) n k (k.length:Int) (0:Int) fY fZ g0 g1 g2 g3 g4 g5 g6 g7 k g8 gB g9 gA)
      (fun h2 h3 h4 h5 h6 h7 h8 h9 hA hB o hC hD hE hG mR =>
       F.zd.L2_sess_Sess_binary_1 n
        (fun b0 p b1 b2 b3 hH hI hJ b4 mS mT mU hK b5 =>
         bif p then
          F.zd.C5_1 n
           (fun hL hM mV =>
            some ((hL,hM,())))
           (fun hN hO mW =>
            some ((hN,hO,()))) (0:Int) b4 b0 p b1 b2 b3 [] (0:Int) true b5 0
         else
          F.zd.C5_1 n
           (fun hP hQ mY =>
            some ((hP,hQ,())))
           (fun hR hS mZ =>
            some ((hR,hS,()))) (0:Int) b4 b0 p b1 b2 b3 hH hI hJ b5 hK)
        (fun b6 q b7 b8 b9 hT hU hV bA n0 n1 n2 hW bB =>
         bif q then
          F.zd.C5_1 n
           (fun hY hZ n3 =>
            some ((hY,hZ,())))
           (fun i0 i1 n4 =>
            some ((i0,i1,()))) (0:Int) bA b6 q b7 b8 b9 [] (0:Int) true bB 0
         else
          F.zd.C5_1 n
           (fun i2 i3 n5 =>
            some ((i2,i3,())))
           (fun i4 i5 n6 =>
            some ((i4,i5,()))) (0:Int) bA b6 q b7 b8 b9 hT hU hV bB hW) n o (o.length:Int) (0:Int) h2 h3 h4 h5 h6 h7 h8 h9 hA hB o hC hG hD hE) n a0 false false a1 (0:Int) [] (0:Int) false [] a2 [] fW 0 0 0
  else
   some (([],(29:Int),()))
 else
 bif a0 == (3:Int) then
  bif decide (a1<(1:Int)) then
   some (([],(10:Int),()))
  else
  bif decide (a1>(8192:Int)) then
   some (([],(10:Int),()))
  else
   F.zd.L0_line_pieces_1 n
    (fun i6 i7 i8 i9 iA iB iC iD iE iG r iH iI iJ iK =>
     F.zd.L2_sess_Sess_text_1 n
      (fun bC s bD bE bG bH bI bJ bK n7 n8 n9 bL bM =>
       bif s then
        F.zd.C5 n
         (fun iL iM nA =>
          some ((iL,iM,())))
         (fun iN iO nB =>
          some ((iN,iO,()))) (0:Int) bK bC s bD bE bG bH bI bJ bM bL
       else
        F.zd.C5 n
         (fun iP iQ nC =>
          some ((iP,iQ,())))
         (fun iR iS nD =>
          some ((iR,iS,()))) (0:Int) bK bC s bD bE bG bH bI bJ bM bL) n r (r.length:Int) (0:Int) i6 i7 i8 i9 iA iB iC iD iE iG r iH iK iI iJ) n a0 false false a1 (0:Int) (0:Int) [] false [] a2 [] a2 0 0 0
 else
 bif a0 == (4:Int) then
  bif decide (a1<(1:Int)) then
   some (([],(10:Int),()))
  else
  bif decide (a1>(1048576:Int)) then
   some (([],(10:Int),()))
  else
   (F.zab n a2).bind fun iT =>
    F.zd.L0_chunk_Framer_frames_1 n
     (fun iU iV iW iY iZ j0 j1 j2 j3 j4 t j5 j6 j7 j8 =>
      F.zd.L2_sess_Sess_binary_1 n
       (fun bN u bO bP bQ j9 jA jB bR nE nG nH jC bS =>
        bif u then
         F.zd.C5_1 n
          (fun jD jE nI =>
           some ((jD,jE,())))
          (fun jG jH nJ =>
           some ((jG,jH,()))) (0:Int) bR bN u bO bP bQ [] (0:Int) true bS 0
        else
         F.zd.C5_1 n
          (fun jI jJ nK =>
           some ((jI,jJ,())))
          (fun jK jL nL =>
           some ((jK,jL,()))) (0:Int) bR bN u bO bP bQ j9 jA jB bS jC)
       (fun bT v bU bV bW jM jN jO bY nM nN nO jP bZ =>
        bif v then
         F.zd.C5_1 n
          (fun jQ jR nP =>
           some ((jQ,jR,())))
          (fun jS jT nQ =>
           some ((jS,jT,()))) (0:Int) bY bT v bU bV bW [] (0:Int) true bZ 0
        else
         F.zd.C5_1 n
          (fun jU jV nR =>
           some ((jU,jV,())))
          (fun jW jY nS =>
           some ((jW,jY,()))) (0:Int) bY bT v bU bV bW jM jN jO bZ jP) n t (t.length:Int) (0:Int) iU iV iW iY iZ j0 j1 j2 j3 j4 t j5 j8 j6 j7)
     (fun jZ k0 k1 k2 k3 k4 k5 k6 k7 k8 w k9 kA kB kC nT =>
      F.zd.L2_sess_Sess_binary_1 n
       (fun c0 x c1 c2 c3 kD kE kG c4 nU nV nW kH c5 =>
        bif x then
         F.zd.C5_1 n
          (fun kI kJ nY =>
           some ((kI,kJ,())))
          (fun kK kL nZ =>
           some ((kK,kL,()))) (0:Int) c4 c0 x c1 c2 c3 [] (0:Int) true c5 0
        else
         F.zd.C5_1 n
          (fun kM kN o0 =>
           some ((kM,kN,())))
          (fun kO kP o1 =>
           some ((kO,kP,()))) (0:Int) c4 c0 x c1 c2 c3 kD kE kG c5 kH)
       (fun c6 y c7 c8 c9 kQ kR kS cA o2 o3 o4 kT cB =>
        bif y then
         F.zd.C5_1 n
          (fun kU kV o5 =>
           some ((kU,kV,())))
          (fun kW kY o6 =>
           some ((kW,kY,()))) (0:Int) cA c6 y c7 c8 c9 [] (0:Int) true cB 0
        else
         F.zd.C5_1 n
          (fun kZ l0 o7 =>
           some ((kZ,l0,())))
          (fun l1 l2 o8 =>
           some ((l1,l2,()))) (0:Int) cA c6 y c7 c8 c9 kQ kR kS cB kT) n w (w.length:Int) (0:Int) jZ k0 k1 k2 k3 k4 k5 k6 k7 k8 w k9 kC kA kB) n a0 false false a1 (0:Int) [] (0:Int) false [] a2 [] iT 0 0 0
 else
  some (([],(29:Int),()))
noncomputable def F.zh.L4.step {X:Type} (n:Nat) (rec:Int→Z1→Int→Z3→Int→Z5→Int→Z1→Int→Z3→Int→Z5→Int→Option X) (k0:Z1→Int→Z3→Int→Z5→Int→Z1→Int→Z3→Int→Z5→Int→Option X) (kr:Bool→Z1→Int→Z3→Int→Z5→Int→Z1→Int→Z3→Int→Z5→Int→Option X) (b:Int) (d:Z1) (e:Int) (a:Z3) (f:Int) (g:Z5) (h:Int) (i:Z1) (j:Int) (c:Z3) (k:Int) (l:Z5) (m:Int):Option X:=
 bif decide (b<(a.length:Int)) then
  (idx a b).bind fun o =>
   (idx c b).bind fun p =>
    bif !((o.1==p.1)&&((o.2.1==p.2.1)&&(o.2.2==p.2.2))) then
     kr false d e a f g h i j c k l m
    else
     rec (IntKind.wrap .i64 (b+(1:Int))) d e a f g h i j c k l m
 else
  k0 d e a f g h i j c k l m
noncomputable def F.zh.L4 {X:Type} (n:Nat) (k0:Z1→Int→Z3→Int→Z5→Int→Z1→Int→Z3→Int→Z5→Int→Option X) (kr:Bool→Z1→Int→Z3→Int→Z5→Int→Z1→Int→Z3→Int→Z5→Int→Option X):Nat→Int→Z1→Int→Z3→Int→Z5→Int→Z1→Int→Z3→Int→Z5→Int→Option X
 | 0=>fun _ _ _ _ _ _ _ _ _ _ _ _ _=>none
 | m+1=>fun a b c d e f g h i j k l o=>F.zh.L4.step n (F.zh.L4 n k0 kr m) k0 kr a b c d e f g h i j k l o
noncomputable def F.zh.L9.step {X:Type} (n:Nat) (rec:Int→Z1→Int→Z3→Int→Z5→Int→Z1→Int→Z3→Int→Z5→Int→Option X) (k2:Z1→Int→Z3→Int→Z5→Int→Z1→Int→Z3→Int→Z5→Int→Option X) (kr:Bool→Z1→Int→Z3→Int→Z5→Int→Z1→Int→Z3→Int→Z5→Int→Option X) (b:Int) (d:Z1) (e:Int) (f:Z3) (g:Int) (a:Z5) (h:Int) (i:Z1) (j:Int) (k:Z3) (l:Int) (c:Z5) (m:Int):Option X:=
 bif decide (b<(a.length:Int)) then
  (idx a b).bind fun o =>
   (idx c b).bind fun p =>
    bif !((o.1==p.1)&&(o.2==p.2)) then
     kr false d e f g a h i j k l c m
    else
     rec (IntKind.wrap .i64 (b+(1:Int))) d e f g a h i j k l c m
 else
  k2 d e f g a h i j k l c m
noncomputable def F.zh.L9 {X:Type} (n:Nat) (k2:Z1→Int→Z3→Int→Z5→Int→Z1→Int→Z3→Int→Z5→Int→Option X) (kr:Bool→Z1→Int→Z3→Int→Z5→Int→Z1→Int→Z3→Int→Z5→Int→Option X):Nat→Int→Z1→Int→Z3→Int→Z5→Int→Z1→Int→Z3→Int→Z5→Int→Option X
 | 0=>fun _ _ _ _ _ _ _ _ _ _ _ _ _=>none
 | m+1=>fun a b c d e f g h i j k l o=>F.zh.L9.step n (F.zh.L9 n k2 kr m) k2 kr a b c d e f g h i j k l o
noncomputable def F.zh (n:Nat) (a0:Z21) (a1:Z21):Option (Bool):=
 bif !(a0.1==a1.1) then
  some (false)
 else
 bif !(a0.2.1==a1.2.1) then
  some (false)
 else
 bif !(a0.2.2.2.1==a1.2.2.2.1) then
  some (false)
 else
 bif !(a0.2.2.2.2.2.1==a1.2.2.2.2.2.1) then
  some (false)
 else
 bif !((a0.2.2.1.length:Int)==(a1.2.2.1.length:Int)) then
  some (false)
 else
 bif !((a0.2.2.2.2.1.length:Int)==(a1.2.2.2.2.1.length:Int)) then
  some (false)
 else
  F.zh.L4 n
   (fun a b c d e f g h i j k l =>
    F.zh.L9 n
     (fun p q r s t u v w x y z A =>
      some (true))
     (fun m B C D E G H I J K L M N =>
      some (m)) n (0:Int) a b c d e f g h i j k l)
   (fun o O P Q R S T U V W Y Z a2 =>
    some (o)) n (0:Int) a0.1 a0.2.1 a0.2.2.1 a0.2.2.2.1 a0.2.2.2.2.1 a0.2.2.2.2.2.1 a1.1 a1.2.1 a1.2.2.1 a1.2.2.2.1 a1.2.2.2.2.1 a1.2.2.2.2.2.1
noncomputable def F.zq.L4.step {X:Type} (n:Nat) (rec:Z7→Z7→Int→Option X) (k0:Unit→Option X) (kr:Bool→Option X) (d:Z7) (e:Z7) (c:Int):Option X:=
 bif decide (c<(d.length:Int)) then
  (idx d c).bind fun a =>
   (idx e c).bind fun b =>
    (F.zh n (a.1,a.2.1,a.2.2.1,a.2.2.2.1,a.2.2.2.2.1,a.2.2.2.2.2,()) (b.1,b.2.1,b.2.2.1,b.2.2.2.1,b.2.2.2.2.1,b.2.2.2.2.2,())).bind fun f =>
     bif !f then
      kr false
     else
      rec d e (IntKind.wrap .i64 (c+(1:Int)))
 else
  k0 ()
noncomputable def F.zq.L4 {X:Type} (n:Nat) (k0:Unit→Option X) (kr:Bool→Option X):Nat→Z7→Z7→Int→Option X
 | 0=>fun _ _ _=>none
 | m+1=>fun a b c=>F.zq.L4.step n (F.zq.L4 n k0 kr m) k0 kr a b c
noncomputable def F.zq (n:Nat) (a0:Z7) (a1:Z7):Option (Bool):=
 bif !((a0.length:Int)==(a1.length:Int)) then
  some (false)
 else
  F.zq.L4 n
   (fun (_:Unit) =>
    some (true))
   (fun a =>
    some (a)) n a0 a1 (0:Int)
noncomputable def F.zan (n:Nat) (a0:Z26) (a1:Z26):Option (Bool):=
 bif a0.1==a1.1 then
  bif a0.2.1==a1.2.1 then
   bif a0.2.2.1==a1.2.2.1 then
    bif a0.2.2.2.2.1==a1.2.2.2.2.1 then
     bif a0.2.2.2.2.2.1==a1.2.2.2.2.2.1 then
      (F.zq n a0.2.2.2.1 a1.2.2.2.1).bind fun a =>
       some (a)
     else
      some (false)
    else
     some (false)
   else
    some (false)
  else
   some (false)
 else
  some (false)
noncomputable def F.zm (n:Nat):Option (Bool):=
 (F.zd n (1 : Int) (100:Int) ([UInt8.ofNat ((97:Int)).toNat,UInt8.ofNat ((58:Int)).toNat,UInt8.ofNat ((49:Int)).toNat,UInt8.ofNat ((124:Int)).toNat,UInt8.ofNat ((99:Int)).toNat,UInt8.ofNat ((10:Int)).toNat,UInt8.ofNat ((98:Int)).toNat,UInt8.ofNat ((10:Int)).toNat,UInt8.ofNat ((99:Int)).toNat])).bind fun a =>
  (F.zd n (4 : Int) (100:Int) ([UInt8.ofNat ((77:Int)).toNat,UInt8.ofNat ((0:Int)).toNat,UInt8.ofNat ((5:Int)).toNat])).bind fun e =>
   bif !(a.2.1==(0:Int)) then
    some (false)
   else
   bif !((a.1.length:Int)==(3:Int)) then
    some (false)
   else
    (idx a.1 (0 : Int)).bind fun f =>
     bif !(f.1==(1:Int)) then
      some (false)
     else
      (idx a.1 (0 : Int)).bind fun g =>
       bif !(g.2.2.1==(6:Int)) then
        some (false)
       else
        (idx a.1 (0 : Int)).bind fun h =>
         bif !((h.2.2.2.1.length:Int)==(1:Int)) then
          some (false)
         else
          (idx a.1 (0 : Int)).bind fun i =>
           (idx i.2.2.2.1 (0:Int)).bind fun j =>
            bif !(j.1==([97])) then
             some (false)
            else
             (idx a.1 (1:Int)).bind fun b =>
              (F.zan n (b.1,b.2.1,b.2.2.1,b.2.2.2.1,b.2.2.2.2.1,b.2.2.2.2.2,()) ((2:Int),(6:Int),(8:Int),[],(11:Int),(7:Int),())).bind fun k =>
               bif k then
                (idx a.1 (2:Int)).bind fun c =>
                 (F.zan n (c.1,c.2.1,c.2.2.1,c.2.2.2.1,c.2.2.2.2.1,c.2.2.2.2.2,()) ((3:Int),(8:Int),(9:Int),[],(30:Int),(8:Int),())).bind fun l =>
                  bif l then
                   bif e.2.1==(0:Int) then
                    bif (e.1.length:Int)==(1:Int) then
                     (idx e.1 (0:Int)).bind fun d =>
                      (F.zan n (d.1,d.2.1,d.2.2.1,d.2.2.2.1,d.2.2.2.2.1,d.2.2.2.2.2,()) ((2:Int),(0:Int),(2:Int),[],(22:Int),(1:Int),())).bind fun m =>
                       some (m)
                    else
                     some (false)
                   else
                    some (false)
                  else
                   some (false)
               else
                some (false)
noncomputable def F.zb.C9 {X:Type} (n:Nat) (kr:Bool→Option X) (a:Int):Option X:=
 bif !(a==(0:Int)) then
  bif !(a==(0:Int)) then
   (F.zm n ).bind fun b =>
    kr b
  else
   kr false
 else
 bif !(a==(0:Int)) then
  (F.zm n ).bind fun c =>
   kr c
 else
  kr false
noncomputable def F.zb.L16.step {X:Type} (n:Nat) (rec:Z9→Bool→Int→Int→Option X) (k0:Bool→Option X) (kr:Bool→Option X) (a:Z9) (d:Bool) (b:Int) (c:Int):Option X:=
 bif decide (b<(a.length:Int)) then
  bif d then
   kr false
  else
  bif c==(4:Int) then
   (idx a b).bind fun e =>
    rec a (e.1==(2:Int)) (IntKind.wrap .i64 (b+(1:Int))) c
  else
   rec a false (IntKind.wrap .i64 (b+(1:Int))) c
 else
  k0 d
noncomputable def F.zb.L16 {X:Type} (n:Nat) (k0:Bool→Option X) (kr:Bool→Option X):Nat→Z9→Bool→Int→Int→Option X
 | 0=>fun _ _ _ _=>none
 | m+1=>fun a b c d=>F.zb.L16.step n (F.zb.L16 n k0 kr m) k0 kr a b c d
noncomputable def F.zb.C24 {X:Type} (n:Nat) (kr:Bool→Option X) (kn:Unit→Option X) (a:Z9) (b:Int) (c:Z9) (d:Int) (e:Int) (f:Bool) (g:Bool) (h:Z0):Option X:=
 bif !((a.length:Int)==(0:Int)) then
  kr false
 else
 bif !(b==(28:Int)) then
  kr false
 else
 bif !((c.length:Int)==(0:Int)) then
  kr false
 else
 bif !(d==(0:Int)) then
  kr false
 else
 bif f then
  kn ()
 else
 bif g then
  kn ()
 else
 bif e==(4:Int) then
  kn ()
 else
 bif !((h.length:Int)==(0:Int)) then
  kr false
 else
  kn ()
noncomputable def F.zb.C23 {X:Type} (n:Nat) (kr:Bool→Option X) (kn:Bool→Int→Z0→Bool→Nat→Option X) (e:Z9) (f:Int) (c:Int) (d:Bool) (j:Bool) (k:Int) (g:Int) (a:Int) (b:Z0) (h:Bool) (i:Nat):Option X:=
 bif j then
  F.zb.C24 n
   (fun l =>
    kr l)
   (fun (_:Unit) =>
    kn j a b h i) e f [] (28:Int) c d j b
 else
 bif d then
  F.zb.C24 n
   (fun m =>
    kr m)
   (fun (_:Unit) =>
    kn true a b h i) e f [] (0:Int) c d true b
 else
 bif c==(4:Int) then
  F.zb.C24 n
   (fun o =>
    kr o)
   (fun (_:Unit) =>
    kn true a b h i) e f [] (0:Int) c d true b
 else
 bif h then
  F.zb.C24 n
   (fun p =>
    kr p)
   (fun (_:Unit) =>
    kn true a b h i) e f [] (0:Int) c d true b
 else
 bif g==a then
  F.zb.C24 n
   (fun q =>
    kr q)
   (fun (_:Unit) =>
    kn true a b true i) e f [] (0:Int) c d true b
 else
 bif !(decide (IntKind.wrap .i64 (g - a)>k)) then
  F.zb.C24 n
   (fun r =>
    kr r)
   (fun (_:Unit) =>
    kn true g [] true 0) e f ([(3,a,g,[],30,a)]) (0:Int) c d true []
 else
  F.zb.C24 n
   (fun s =>
    kr s)
   (fun (_:Unit) =>
    kn true g [] true 0) e f ([(3,a,g,[],30,a)]) (0:Int) c d true []
noncomputable def F.zb.C31 {X:Type} (n:Nat) (kr:Bool→Option X) (a:Z9) (b:Int) (c:Z9) (d:Int):Option X:=
 bif (a.length:Int)==(0:Int) then
  bif b==(28:Int) then
   bif (c.length:Int)==(0:Int) then
    bif d==(28:Int) then
     (F.zm n ).bind fun e =>
      kr e
    else
     kr false
   else
    kr false
  else
   kr false
 else
  kr false
noncomputable def F.zb.C30 {X:Type} (n:Nat) (kr:Bool→Option X) (a:Z9) (b:Int) (e:Int) (f:Bool) (g:Bool) (h:Int) (d:Int) (c:Int) (i:Bool):Option X:=
 bif g then
  F.zb.C31 n
   (fun j =>
    kr j) a b [] (28:Int)
 else
 bif f then
  F.zb.C31 n
   (fun k =>
    kr k) a b [] (0:Int)
 else
 bif e==(4:Int) then
  F.zb.C31 n
   (fun l =>
    kr l) a b [] (0:Int)
 else
 bif i then
  F.zb.C31 n
   (fun m =>
    kr m) a b [] (0:Int)
 else
 bif d==c then
  F.zb.C31 n
   (fun o =>
    kr o) a b [] (0:Int)
 else
 bif !(decide (IntKind.wrap .i64 (d - c)>h)) then
  F.zb.C31 n
   (fun p =>
    kr p) a b ([(3,c,d,[],30,c)]) (0:Int)
 else
  F.zb.C31 n
   (fun q =>
    kr q) a b ([(3,c,d,[],30,c)]) (0:Int)
noncomputable def F.zb.L2_sess_Sess_text_1.step {X:Type} (n:Nat) (rec:Z11→Int→Int→Int→Z9→Nat→Option X) (k0:Z9→Nat→Option X) (e:Z11) (f:Int) (d:Int) (g:Int) (c:Z9) (h:Nat):Option X:=
 bif decide (d<f) then
  (idx e d).bind fun a =>
   bif a.2.2.2 then
    bif decide ((c.length+1)*64≤2 ^ 46)&&decide (0<64∧64≤2 ^ 20) then
     bif Nat.beq h c.length then
      rec e f (IntKind.wrap .i64 (d+(1:Int))) g (c++([(2,a.1,a.2.1,[],12,a.1)])) ((c++([(2,a.1,a.2.1,[],12,a.1)])).length)
     else
      none
    else
     none
   else
    (F.zao n a.2.2.1 g).bind fun b =>
     bif !((b.2.1.1==(0:Int))&&(b.2.1.2.1==(0:Int))) then
      bif decide ((c.length+1)*64≤2 ^ 46)&&decide (0<64∧64≤2 ^ 20) then
       bif Nat.beq h c.length then
        rec e f (IntKind.wrap .i64 (d+(1:Int))) g (c++([(2,a.1,a.2.1,[],b.2.1.1,IntKind.wrap .i64 (a.1+b.2.1.2.1))])) ((c++([(2,a.1,a.2.1,[],b.2.1.1,IntKind.wrap .i64 (a.1+b.2.1.2.1))])).length)
       else
        none
      else
       none
     else
     bif decide ((c.length+1)*64≤2 ^ 46)&&decide (0<64∧64≤2 ^ 20) then
      bif Nat.beq h c.length then
       rec e f (IntKind.wrap .i64 (d+(1:Int))) g (c++([(1,a.1,a.2.1,[(b.1.1,b.1.2.1,b.1.2.2.1,b.1.2.2.2.1,b.1.2.2.2.2.1,b.1.2.2.2.2.2.1)],0,0)])) ((c++([(1,a.1,a.2.1,[(b.1.1,b.1.2.1,b.1.2.2.1,b.1.2.2.2.1,b.1.2.2.2.2.1,b.1.2.2.2.2.2.1)],0,0)])).length)
      else
       none
     else
      none
 else
  k0 c h
noncomputable def F.zb.L2_sess_Sess_text_1 {X:Type} (n:Nat) (k0:Z9→Nat→Option X):Nat→Z11→Int→Int→Int→Z9→Nat→Option X
 | 0=>fun _ _ _ _ _ _=>none
 | m+1=>fun a b c d e f=>F.zb.L2_sess_Sess_text_1.step n (F.zb.L2_sess_Sess_text_1 n k0 m) k0 a b c d e f
noncomputable def F.zb.L0_line_pieces_1.step {X:Type} (n:Nat) (rec:Int→Int→Int→Z0→Z11→Z0→Nat→Nat→Option X) (k0:Int→Int→Z0→Z11→Z0→Nat→Nat→Option X) (e:Int) (b:Int) (d:Int) (g:Z0) (c:Z11) (i:Z0) (j:Nat) (f:Nat):Option X:=
 bif decide ((i.length:Int)>(0:Int)) then
  (F.zam n i ([UInt8.ofNat ((10:Int)).toNat])).bind fun a =>
   bif decide (IntKind.wrap .i64 ((IntKind.wrap .i64 (b+(a.1.length:Int))) - d)>e) then
    bif a.2.2.1 then
     bif !(decide (IntKind.wrap .i64 ((IntKind.wrap .i64 ((IntKind.wrap .i64 ((IntKind.wrap .i64 (b+(a.1.length:Int)))+(1:Int))) - (1:Int))) - d)>e)) then
      eqK (some [(.sl Y1 c (.own 3))]) (some [(.sl Y1 c (.own 3))]) (
       bif decide ((c.length+1)*40≤2 ^ 46)&&decide (0<40∧40≤2 ^ 20) then
        bif Nat.beq f c.length then
         rec e (IntKind.wrap .i64 ((IntKind.wrap .i64 (b+(a.1.length:Int)))+(1:Int))) (IntKind.wrap .i64 ((IntKind.wrap .i64 (b+(a.1.length:Int)))+(1:Int))) [] (c++([(d,IntKind.wrap .i64 ((IntKind.wrap .i64 (b+(a.1.length:Int)))+(1:Int)),[],decide (IntKind.wrap .i64 ((IntKind.wrap .i64 ((IntKind.wrap .i64 ((IntKind.wrap .i64 (b+(a.1.length:Int)))+(1:Int))) - (1:Int))) - d)>e))])) a.2.1 0 ((c++([(d,IntKind.wrap .i64 ((IntKind.wrap .i64 (b+(a.1.length:Int)))+(1:Int)),[],decide (IntKind.wrap .i64 ((IntKind.wrap .i64 ((IntKind.wrap .i64 ((IntKind.wrap .i64 (b+(a.1.length:Int)))+(1:Int))) - (1:Int))) - d)>e))])).length)
        else
         none
       else
        none)
     else
      eqK (some [(.sl Y1 c (.own 3))]) (some [(.sl Y1 c (.own 3))]) (
       bif decide ((c.length+1)*40≤2 ^ 46)&&decide (0<40∧40≤2 ^ 20) then
        bif Nat.beq f c.length then
         rec e (IntKind.wrap .i64 ((IntKind.wrap .i64 (b+(a.1.length:Int)))+(1:Int))) (IntKind.wrap .i64 ((IntKind.wrap .i64 (b+(a.1.length:Int)))+(1:Int))) [] (c++([(d,IntKind.wrap .i64 ((IntKind.wrap .i64 (b+(a.1.length:Int)))+(1:Int)),[],decide (IntKind.wrap .i64 ((IntKind.wrap .i64 ((IntKind.wrap .i64 ((IntKind.wrap .i64 (b+(a.1.length:Int)))+(1:Int))) - (1:Int))) - d)>e))])) a.2.1 0 ((c++([(d,IntKind.wrap .i64 ((IntKind.wrap .i64 (b+(a.1.length:Int)))+(1:Int)),[],decide (IntKind.wrap .i64 ((IntKind.wrap .i64 ((IntKind.wrap .i64 ((IntKind.wrap .i64 (b+(a.1.length:Int)))+(1:Int))) - (1:Int))) - d)>e))])).length)
        else
         none
       else
        none)
    else
     rec e (IntKind.wrap .i64 (b+(a.1.length:Int))) d [] c a.2.1 0 f
   else
   bif (g.length:Int)==(g.length:Int) then
    (sub g (0:Int) (g.length:Int)).bind fun h =>
     bif decide ((h.length+a.1.length)*1≤2 ^ 46)&&decide (0<1∧1≤2 ^ 20) then
      bif a.2.2.1 then
       bif !(decide (IntKind.wrap .i64 ((IntKind.wrap .i64 ((IntKind.wrap .i64 ((IntKind.wrap .i64 (b+(a.1.length:Int)))+(1:Int))) - (1:Int))) - d)>e)) then
        eqK (some [(.sl Y1 c (.own 3))]) (some [(.sl Y1 c (.own 3))]) (
         bif decide ((c.length+1)*40≤2 ^ 46)&&decide (0<40∧40≤2 ^ 20) then
          bif Nat.beq f c.length then
           rec e (IntKind.wrap .i64 ((IntKind.wrap .i64 (b+(a.1.length:Int)))+(1:Int))) (IntKind.wrap .i64 ((IntKind.wrap .i64 (b+(a.1.length:Int)))+(1:Int))) [] (c++([(d,IntKind.wrap .i64 ((IntKind.wrap .i64 (b+(a.1.length:Int)))+(1:Int)),h++a.1,decide (IntKind.wrap .i64 ((IntKind.wrap .i64 ((IntKind.wrap .i64 ((IntKind.wrap .i64 (b+(a.1.length:Int)))+(1:Int))) - (1:Int))) - d)>e))])) a.2.1 0 ((c++([(d,IntKind.wrap .i64 ((IntKind.wrap .i64 (b+(a.1.length:Int)))+(1:Int)),h++a.1,decide (IntKind.wrap .i64 ((IntKind.wrap .i64 ((IntKind.wrap .i64 ((IntKind.wrap .i64 (b+(a.1.length:Int)))+(1:Int))) - (1:Int))) - d)>e))])).length)
          else
           none
         else
          none)
       else
        eqK (some [(.sl Y1 c (.own 3))]) (some [(.sl Y1 c (.own 3))]) (
         bif decide ((c.length+1)*40≤2 ^ 46)&&decide (0<40∧40≤2 ^ 20) then
          bif Nat.beq f c.length then
           rec e (IntKind.wrap .i64 ((IntKind.wrap .i64 (b+(a.1.length:Int)))+(1:Int))) (IntKind.wrap .i64 ((IntKind.wrap .i64 (b+(a.1.length:Int)))+(1:Int))) [] (c++([(d,IntKind.wrap .i64 ((IntKind.wrap .i64 (b+(a.1.length:Int)))+(1:Int)),[],decide (IntKind.wrap .i64 ((IntKind.wrap .i64 ((IntKind.wrap .i64 ((IntKind.wrap .i64 (b+(a.1.length:Int)))+(1:Int))) - (1:Int))) - d)>e))])) a.2.1 0 ((c++([(d,IntKind.wrap .i64 ((IntKind.wrap .i64 (b+(a.1.length:Int)))+(1:Int)),[],decide (IntKind.wrap .i64 ((IntKind.wrap .i64 ((IntKind.wrap .i64 ((IntKind.wrap .i64 (b+(a.1.length:Int)))+(1:Int))) - (1:Int))) - d)>e))])).length)
          else
           none
         else
          none)
      else
       rec e (IntKind.wrap .i64 (b+(a.1.length:Int))) d (h++a.1) c a.2.1 ((h++a.1).length) f
     else
      none
   else
    none
 else
  k0 b d g c i j f
noncomputable def F.zb.L0_line_pieces_1 {X:Type} (n:Nat) (k0:Int→Int→Z0→Z11→Z0→Nat→Nat→Option X):Nat→Int→Int→Int→Z0→Z11→Z0→Nat→Nat→Option X
 | 0=>fun _ _ _ _ _ _ _ _=>none
 | m+1=>fun a b c d e f g h=>F.zb.L0_line_pieces_1.step n (F.zb.L0_line_pieces_1 n k0 m) k0 a b c d e f g h
noncomputable def F.zb.C29 {X:Type} (n:Nat) (kr:Bool→Option X) (m:Z0) (b:Int) (a:Bool) (c:Bool) (d:Int) (f:Int) (g:Int) (o:Z0) (e:Bool) (p:Nat):Option X:=
 bif a then
  F.zb.C30 n
   (fun q =>
    kr q) [] (28:Int) b a c d f g e
 else
 bif c then
  F.zb.C30 n
   (fun r =>
    kr r) [] (28:Int) b a c d f g e
 else
 bif e then
  F.zb.L2_sess_Sess_text_1 n
   (fun h w =>
    bif a then
     F.zb.C30 n
      (fun s =>
       kr s) h (0:Int) b a c d f g e
    else
     F.zb.C30 n
      (fun t =>
       kr t) h (0:Int) b a c d f g e) n [] (0:Int) (0:Int) b [] 0
 else
  F.zb.L0_line_pieces_1 n
   (fun i j x k y z A =>
    F.zb.L2_sess_Sess_text_1 n
     (fun l B =>
      bif a then
       F.zb.C30 n
        (fun u =>
         kr u) l (0:Int) b a c d i j e
      else
       F.zb.C30 n
        (fun v =>
         kr v) l (0:Int) b a c d i j e) n k (k.length:Int) (0:Int) b [] 0) n d f g o [] m p 0
noncomputable def F.zb.C27 {X:Type} (n:Nat) (kr:Bool→Option X) (kn:Unit→Option X) (a:Z9) (b:Int) (c:Int) (d:Bool) (e:Bool) (f:Z0):Option X:=
 bif !(b==(0:Int)) then
  kr false
 else
 bif decide ((a.length:Int)>(1:Int)) then
  kr false
 else
 bif d then
  kn ()
 else
 bif e then
  kn ()
 else
 bif c==(4:Int) then
  kn ()
 else
 bif !((f.length:Int)==(0:Int)) then
  kr false
 else
  kn ()
noncomputable def F.zb.C12 {X:Type} (n:Nat) (kr:Bool→Option X) (krx1:Bool→Option X) (g:Z0) (s:Z9) (t:Int) (u:Int) (b:Int) (a:Bool) (i:Bool) (d:Int) (c:Int) (e:Int) (f:Z0) (h:Bool) (j:Nat):Option X:=
 bif !(t==(0:Int)) then
  kr false
 else
  F.zb.L16 n
   (fun v =>
    bif v then
     bif a then
      F.zb.C23 n
       (fun w =>
        kr w)
       (fun x y z A B =>
        F.zb.C29 n
         (fun C =>
          kr C) g b a x d c y z A B) [] (28:Int) b a i d c e f h j
     else
     bif i then
      F.zb.C23 n
       (fun D =>
        kr D)
       (fun E G H I J =>
        F.zb.C29 n
         (fun K =>
          kr K) g b a E d c G H I J) [] (28:Int) b a i d c e f h j
     else
     bif h then
      F.zb.L2_sess_Sess_text_1 n
       (fun l aU =>
        bif a then
         F.zb.C23 n
          (fun L =>
           kr L)
          (fun M N O P Q =>
           F.zb.C29 n
            (fun R =>
             kr R) g b a M d c N O P Q) l (0:Int) b a i d c e f h j
        else
         F.zb.C23 n
          (fun S =>
           kr S)
          (fun T U V W Y =>
           F.zb.C29 n
            (fun Z =>
             kr Z) g b a T d c U V W Y) l (0:Int) b a i d c e f h j) n [] (0:Int) (0:Int) b [] 0
     else
      F.zb.L0_line_pieces_1 n
       (fun k m o p aV q aW =>
        F.zb.L2_sess_Sess_text_1 n
         (fun r aY =>
          bif a then
           F.zb.C23 n
            (fun a0 =>
             kr a0)
            (fun a1 a2 a3 a4 a5 =>
             F.zb.C29 n
              (fun a6 =>
               kr a6) g b a a1 d k a2 a3 a4 a5) r (0:Int) b a i d k m o h q
          else
           F.zb.C23 n
            (fun a7 =>
             kr a7)
            (fun a8 a9 aA aB aC =>
             F.zb.C29 n
              (fun aD =>
               kr aD) g b a a8 d k a9 aA aB aC) r (0:Int) b a i d k m o h q) n p (p.length:Int) (0:Int) b [] 0) n d c e f [] g j 0
    else
    bif i then
     F.zb.C27 n
      (fun aE =>
       kr aE)
      (fun (_:Unit) =>
       F.zb.C29 n
        (fun aG =>
         kr aG) g b a i d c e f h j) [] (28:Int) b a i f
    else
    bif a then
     F.zb.C27 n
      (fun aH =>
       kr aH)
      (fun (_:Unit) =>
       F.zb.C29 n
        (fun aI =>
         kr aI) g b a true d c e f h j) [] (0:Int) b a true f
    else
    bif b==(4:Int) then
     F.zb.C27 n
      (fun aJ =>
       kr aJ)
      (fun (_:Unit) =>
       F.zb.C29 n
        (fun aK =>
         kr aK) g b a true d c e f h j) [] (0:Int) b a true f
    else
    bif h then
     F.zb.C27 n
      (fun aL =>
       kr aL)
      (fun (_:Unit) =>
       F.zb.C29 n
        (fun aM =>
         kr aM) g b a true d c e f h j) [] (0:Int) b a true f
    else
    bif c==e then
     F.zb.C27 n
      (fun aN =>
       kr aN)
      (fun (_:Unit) =>
       F.zb.C29 n
        (fun aO =>
         kr aO) g b a true d c e f true j) [] (0:Int) b a true f
    else
    bif !(decide (IntKind.wrap .i64 (c - e)>d)) then
     F.zb.C27 n
      (fun aP =>
       kr aP)
      (fun (_:Unit) =>
       F.zb.C29 n
        (fun aQ =>
         kr aQ) g b a true d c c [] true 0) ([(3,e,c,[],30,e)]) (0:Int) b a true []
    else
     F.zb.C27 n
      (fun aR =>
       kr aR)
      (fun (_:Unit) =>
       F.zb.C29 n
        (fun aS =>
         kr aS) g b a true d c c [] true 0) ([(3,e,c,[],30,e)]) (0:Int) b a true [])
   (fun aT =>
    kr aT) n s false (0:Int) u
noncomputable def F.zb.C9_1 {X:Type} (n:Nat) (kr:Bool→Option X) (krx1:Bool→Option X) (u:Z0) (f:Z0) (l:Int) (g:Int) (b:Int) (a:Bool) (c:Bool) (d:Int) (h:Int) (i:Int) (j:Z0) (e:Bool) (k:Nat):Option X:=
 bif !(l==(0:Int)) then
  bif !(l==(0:Int)) then
   kr false
  else
   kr false
 else
 bif a then
  F.zb.C12 n
   (fun v =>
    kr v)
   (fun w =>
    kr w) f [] (28:Int) g b a c d h i j e k
 else
 bif c then
  F.zb.C12 n
   (fun x =>
    kr x)
   (fun y =>
    kr y) f [] (28:Int) g b a c d h i j e k
 else
 bif e then
  F.zb.L2_sess_Sess_text_1 n
   (fun m I =>
    bif a then
     F.zb.C12 n
      (fun z =>
       kr z)
      (fun A =>
       kr A) f m (0:Int) g b a c d h i j e k
    else
     F.zb.C12 n
      (fun B =>
       kr B)
      (fun C =>
       kr C) f m (0:Int) g b a c d h i j e k) n [] (0:Int) (0:Int) b [] 0
 else
  F.zb.L0_line_pieces_1 n
   (fun o p q r J s K =>
    F.zb.L2_sess_Sess_text_1 n
     (fun t L =>
      bif a then
       F.zb.C12 n
        (fun D =>
         kr D)
        (fun E =>
         kr E) f t (0:Int) g b a c d o p q e s
      else
       F.zb.C12 n
        (fun G =>
         kr G)
        (fun H =>
         kr H) f t (0:Int) g b a c d o p q e s) n r (r.length:Int) (0:Int) b [] 0) n d h i j [] u k 0
noncomputable def F.zb.C24_1 {X:Type} (n:Nat) (kr:Bool→Option X) (kn:Unit→Option X) (a:Z9) (b:Int) (c:Z9) (d:Int) (e:Int) (f:Bool) (g:Bool) (h:Z0):Option X:=
 bif !((a.length:Int)==(0:Int)) then
  kr false
 else
 bif !(b==(28:Int)) then
  kr false
 else
 bif !((c.length:Int)==(0:Int)) then
  kr false
 else
 bif !(d==(0:Int)) then
  kr false
 else
 bif f then
  kn ()
 else
 bif g then
  kn ()
 else
 bif e==(4:Int) then
  bif !((h.length:Int)==(0:Int)) then
   kr false
  else
   kn ()
 else
  kn ()
noncomputable def F.zb.C23_1 {X:Type} (n:Nat) (kr:Bool→Option X) (kn:Bool→Z0→Int→Bool→Nat→Option X) (d:Z9) (e:Int) (b:Int) (c:Bool) (i:Bool) (j:Int) (a:Z0) (f:Int) (g:Bool) (h:Nat):Option X:=
 bif i then
  F.zb.C24_1 n
   (fun k =>
    kr k)
   (fun (_:Unit) =>
    kn i a f g h) d e [] (28:Int) b c i a
 else
 bif c then
  F.zb.C24_1 n
   (fun l =>
    kr l)
   (fun (_:Unit) =>
    kn true a f g h) d e [] (0:Int) b c true a
 else
 bif b==(4:Int) then
  bif g then
   F.zb.C24_1 n
    (fun m =>
     kr m)
    (fun (_:Unit) =>
     kn true a f g h) d e [] (0:Int) b c true a
  else
  bif (a.length:Int)==(0:Int) then
   F.zb.C24_1 n
    (fun o =>
     kr o)
    (fun (_:Unit) =>
     kn true a f true h) d e [] (0:Int) b c true a
  else
   F.zb.C24_1 n
    (fun p =>
     kr p)
    (fun (_:Unit) =>
     kn true [] (0:Int) true 0) d e ([(3,IntKind.wrap .i64 (j - (a.length:Int)),j,[],30,IntKind.wrap .i64 (j - (a.length:Int)))]) (0:Int) b c true []
 else
  F.zb.C24_1 n
   (fun q =>
    kr q)
   (fun (_:Unit) =>
    kn true a f g h) d e [] (0:Int) b c true a
noncomputable def F.zb.C30_1 {X:Type} (n:Nat) (kr:Bool→Option X) (a:Z9) (b:Int) (e:Int) (f:Bool) (g:Bool) (c:Int) (d:Z0) (h:Bool):Option X:=
 bif g then
  F.zb.C31 n
   (fun i =>
    kr i) a b [] (28:Int)
 else
 bif f then
  F.zb.C31 n
   (fun j =>
    kr j) a b [] (0:Int)
 else
 bif e==(4:Int) then
  bif h then
   F.zb.C31 n
    (fun k =>
     kr k) a b [] (0:Int)
  else
  bif (d.length:Int)==(0:Int) then
   F.zb.C31 n
    (fun l =>
     kr l) a b [] (0:Int)
  else
   F.zb.C31 n
    (fun m =>
     kr m) a b ([(3,IntKind.wrap .i64 (c - (d.length:Int)),c,[],30,IntKind.wrap .i64 (c - (d.length:Int)))]) (0:Int)
 else
  F.zb.C31 n
   (fun o =>
    kr o) a b [] (0:Int)
noncomputable def F.zb.L2_sess_Sess_binary_1.step {X:Type} (n:Nat) (rec:Z14→Int→Int→Bool→Z9→Nat→Option X) (k0:Bool→Z9→Nat→Option X) (kr:Bool→Z9→Nat→Option X) (f:Z14) (g:Int) (e:Int) (h:Bool) (b:Z9) (d:Nat):Option X:=
 bif decide (e<g) then
  (idx f e).bind fun a =>
   bif (a.2.2.2.1==(0:Int))&&(a.2.2.2.2==(0:Int)) then
    (F.zal n a.2.2.1).bind fun c =>
     bif (c.2.1.1==(0:Int))&&(c.2.1.2.1==(0:Int)) then
      bif decide ((b.length+1)*64≤2 ^ 46)&&decide (0<64∧64≤2 ^ 20) then
       bif Nat.beq d b.length then
        rec f g (IntKind.wrap .i64 (e+(1:Int))) false (b++([(1,a.1,a.2.1,c.1,0,0)])) ((b++([(1,a.1,a.2.1,c.1,0,0)])).length)
       else
        none
      else
       none
     else
     bif decide ((b.length+1)*64≤2 ^ 46)&&decide (0<64∧64≤2 ^ 20) then
      bif Nat.beq d b.length then
       kr true (b++([(2,a.1,a.2.1,[],c.2.1.1,IntKind.wrap .i64 (a.1+c.2.1.2.1))])) ((b++([(2,a.1,a.2.1,[],c.2.1.1,IntKind.wrap .i64 (a.1+c.2.1.2.1))])).length)
      else
       none
     else
      none
   else
   bif decide ((b.length+1)*64≤2 ^ 46)&&decide (0<64∧64≤2 ^ 20) then
    bif Nat.beq d b.length then
     kr true (b++([(2,a.1,a.2.1,[],a.2.2.2.1,a.2.2.2.2)])) ((b++([(2,a.1,a.2.1,[],a.2.2.2.1,a.2.2.2.2)])).length)
    else
     none
   else
    none
 else
  k0 h b d
noncomputable def F.zb.L2_sess_Sess_binary_1 {X:Type} (n:Nat) (k0:Bool→Z9→Nat→Option X) (kr:Bool→Z9→Nat→Option X):Nat→Z14→Int→Int→Bool→Z9→Nat→Option X
 | 0=>fun _ _ _ _ _ _=>none
 | m+1=>fun a b c d e f=>F.zb.L2_sess_Sess_binary_1.step n (F.zb.L2_sess_Sess_binary_1 n k0 kr m) k0 kr a b c d e f
noncomputable def F.zb.L0_chunk_Framer_frames_1.step {X:Type} (n:Nat) (rec:Int→Int→Z0→Int→Z14→Z0→Nat→Nat→Option X) (k0:Int→Z0→Int→Z14→Z0→Nat→Nat→Option X) (kr:Int→Z0→Int→Bool→Z14→Z0→Nat→Nat→Nat→Option X) (j:Int) (c:Int) (b:Z0) (h:Int) (d:Z14) (i:Z0) (k:Nat) (f:Nat):Option X:=
 bif decide ((i.length:Int)>(0:Int)) then
  bif decide (h>(0:Int)) then
   (sub i (0:Int) (if (i.length:Int)<(IntKind.wrap .i64 (h - (b.length:Int))) then (i.length:Int) else (IntKind.wrap .i64 (h - (b.length:Int))))).bind fun e =>
    bif decide ((b.length+e.length)*1≤2 ^ 46)&&decide (0<1∧1≤2 ^ 20) then
     bif Nat.beq k b.length then
      (sub i (if (i.length:Int)<(IntKind.wrap .i64 (h - (b.length:Int))) then (i.length:Int) else (IntKind.wrap .i64 (h - (b.length:Int)))) (i.length:Int)).bind fun l =>
       bif h==(0:Int) then
        rec j (IntKind.wrap .i64 (c+(e.length:Int))) (b++e) h d l ((b++e).length) f
       else
       bif decide (((b++e).length:Int)<h) then
        rec j (IntKind.wrap .i64 (c+(e.length:Int))) (b++e) h d l ((b++e).length) f
       else
       bif decide ((d.length+1)*56≤2 ^ 46)&&decide (0<56∧56≤2 ^ 20) then
        bif Nat.beq f d.length then
         rec j (IntKind.wrap .i64 (c+(e.length:Int))) [] (0:Int) (d++([(IntKind.wrap .i64 ((IntKind.wrap .i64 (c+(e.length:Int))) - ((b++e).length:Int)),IntKind.wrap .i64 (c+(e.length:Int)),b++e,(0,0))])) l 0 ((d++([(IntKind.wrap .i64 ((IntKind.wrap .i64 (c+(e.length:Int))) - ((b++e).length:Int)),IntKind.wrap .i64 (c+(e.length:Int)),b++e,(0,0))])).length)
        else
         none
       else
        none
     else
      none
    else
     none
  else
   (sub i (0:Int) (1:Int)).bind fun a =>
    bif decide ((b.length+a.length)*1≤2 ^ 46)&&decide (0<1∧1≤2 ^ 20) then
     bif Nat.beq k b.length then
      (F.zaj n (b++a)).bind fun g =>
       bif !((g.2.1.1==(0:Int))&&(g.2.1.2.1==(0:Int))) then
        bif !(g.2.1.1==(0:Int)) then
         bif decide ((d.length+1)*56≤2 ^ 46)&&decide (0<56∧56≤2 ^ 20) then
          bif Nat.beq f d.length then
           kr (IntKind.wrap .i64 (c+(a.length:Int))) [] (0:Int) true (d++([(IntKind.wrap .i64 ((IntKind.wrap .i64 (c+(a.length:Int))) - ((b++a).length:Int)),IntKind.wrap .i64 (c+(a.length:Int)),[],(g.2.1.1,IntKind.wrap .i64 ((IntKind.wrap .i64 (c+(a.length:Int))) - (1:Int))))])) [] 0 ((d++([(IntKind.wrap .i64 ((IntKind.wrap .i64 (c+(a.length:Int))) - ((b++a).length:Int)),IntKind.wrap .i64 (c+(a.length:Int)),[],(g.2.1.1,IntKind.wrap .i64 ((IntKind.wrap .i64 (c+(a.length:Int))) - (1:Int))))])).length) 0
          else
           none
         else
          none
        else
        bif h==(0:Int) then
         rec j (IntKind.wrap .i64 (c+(a.length:Int))) (b++a) h d [] ((b++a).length) f
        else
        bif decide (((b++a).length:Int)<h) then
         rec j (IntKind.wrap .i64 (c+(a.length:Int))) (b++a) h d [] ((b++a).length) f
        else
        bif decide ((d.length+1)*56≤2 ^ 46)&&decide (0<56∧56≤2 ^ 20) then
         bif Nat.beq f d.length then
          rec j (IntKind.wrap .i64 (c+(a.length:Int))) [] (0:Int) (d++([(IntKind.wrap .i64 ((IntKind.wrap .i64 (c+(a.length:Int))) - ((b++a).length:Int)),IntKind.wrap .i64 (c+(a.length:Int)),b++a,(0,0))])) [] 0 ((d++([(IntKind.wrap .i64 ((IntKind.wrap .i64 (c+(a.length:Int))) - ((b++a).length:Int)),IntKind.wrap .i64 (c+(a.length:Int)),b++a,(0,0))])).length)
         else
          none
        else
         none
       else
       bif decide (g.1>(0:Int)) then
        bif decide ((IntKind.wrap .i64 ((IntKind.wrap .i64 (g.1 - ((b++a).length:Int))) - (4:Int)))>j) then
         bif decide ((d.length+1)*56≤2 ^ 46)&&decide (0<56∧56≤2 ^ 20) then
          bif Nat.beq f d.length then
           kr (IntKind.wrap .i64 (c+(a.length:Int))) [] (0:Int) true (d++([(IntKind.wrap .i64 ((IntKind.wrap .i64 (c+(a.length:Int))) - ((b++a).length:Int)),IntKind.wrap .i64 (c+(a.length:Int)),[],(12,IntKind.wrap .i64 ((IntKind.wrap .i64 (c+(a.length:Int))) - (1:Int))))])) [] 0 ((d++([(IntKind.wrap .i64 ((IntKind.wrap .i64 (c+(a.length:Int))) - ((b++a).length:Int)),IntKind.wrap .i64 (c+(a.length:Int)),[],(12,IntKind.wrap .i64 ((IntKind.wrap .i64 (c+(a.length:Int))) - (1:Int))))])).length) 0
          else
           none
         else
          none
        else
         (sub i (1:Int) (i.length:Int)).bind fun m =>
          bif g.1==(0:Int) then
           rec j (IntKind.wrap .i64 (c+(a.length:Int))) (b++a) g.1 d m ((b++a).length) f
          else
          bif decide (((b++a).length:Int)<g.1) then
           rec j (IntKind.wrap .i64 (c+(a.length:Int))) (b++a) g.1 d m ((b++a).length) f
          else
          bif decide ((d.length+1)*56≤2 ^ 46)&&decide (0<56∧56≤2 ^ 20) then
           bif Nat.beq f d.length then
            rec j (IntKind.wrap .i64 (c+(a.length:Int))) [] (0:Int) (d++([(IntKind.wrap .i64 ((IntKind.wrap .i64 (c+(a.length:Int))) - ((b++a).length:Int)),IntKind.wrap .i64 (c+(a.length:Int)),b++a,(0,0))])) m 0 ((d++([(IntKind.wrap .i64 ((IntKind.wrap .i64 (c+(a.length:Int))) - ((b++a).length:Int)),IntKind.wrap .i64 (c+(a.length:Int)),b++a,(0,0))])).length)
           else
            none
          else
           none
       else
        (sub i (1:Int) (i.length:Int)).bind fun o =>
         bif g.1==(0:Int) then
          rec j (IntKind.wrap .i64 (c+(a.length:Int))) (b++a) g.1 d o ((b++a).length) f
         else
         bif decide (((b++a).length:Int)<g.1) then
          rec j (IntKind.wrap .i64 (c+(a.length:Int))) (b++a) g.1 d o ((b++a).length) f
         else
         bif decide ((d.length+1)*56≤2 ^ 46)&&decide (0<56∧56≤2 ^ 20) then
          bif Nat.beq f d.length then
           rec j (IntKind.wrap .i64 (c+(a.length:Int))) [] (0:Int) (d++([(IntKind.wrap .i64 ((IntKind.wrap .i64 (c+(a.length:Int))) - ((b++a).length:Int)),IntKind.wrap .i64 (c+(a.length:Int)),b++a,(0,0))])) o 0 ((d++([(IntKind.wrap .i64 ((IntKind.wrap .i64 (c+(a.length:Int))) - ((b++a).length:Int)),IntKind.wrap .i64 (c+(a.length:Int)),b++a,(0,0))])).length)
          else
           none
         else
          none
     else
      none
    else
     none
 else
  k0 c b h d i k f
noncomputable def F.zb.L0_chunk_Framer_frames_1 {X:Type} (n:Nat) (k0:Int→Z0→Int→Z14→Z0→Nat→Nat→Option X) (kr:Int→Z0→Int→Bool→Z14→Z0→Nat→Nat→Nat→Option X):Nat→Int→Int→Z0→Int→Z14→Z0→Nat→Nat→Option X
 | 0=>fun _ _ _ _ _ _ _ _=>none
 | m+1=>fun a b c d e f g h=>F.zb.L0_chunk_Framer_frames_1.step n (F.zb.L0_chunk_Framer_frames_1 n k0 kr m) k0 kr a b c d e f g h
noncomputable def F.zb.C29_1 {X:Type} (n:Nat) (kr:Bool→Option X) (A:Z0) (b:Int) (e:Bool) (a:Bool) (B:Int) (c:Int) (f:Z0) (C:Int) (d:Bool) (D:Nat):Option X:=
 bif e then
  F.zb.C30_1 n
   (fun E =>
    kr E) [] (28:Int) b e a c f d
 else
 bif a then
  F.zb.C30_1 n
   (fun G =>
    kr G) [] (28:Int) b e a c f d
 else
 bif d then
  F.zb.L2_sess_Sess_binary_1 n
   (fun i p U =>
    bif i then
     F.zb.C30_1 n
      (fun H =>
       kr H) p (0:Int) b i a c [] true
    else
     F.zb.C30_1 n
      (fun I =>
       kr I) p (0:Int) b i a c f d)
   (fun j q V =>
    bif j then
     F.zb.C30_1 n
      (fun J =>
       kr J) q (0:Int) b j a c [] true
    else
     F.zb.C30_1 n
      (fun K =>
       kr K) q (0:Int) b j a c f d) n [] (0:Int) (0:Int) e [] 0
 else
  (F.zab n A).bind fun L =>
   F.zb.L0_chunk_Framer_frames_1 n
    (fun g r W s Y Z a0 =>
     F.zb.L2_sess_Sess_binary_1 n
      (fun k t a1 =>
       bif k then
        F.zb.C30_1 n
         (fun M =>
          kr M) t (0:Int) b k a g [] true
       else
        F.zb.C30_1 n
         (fun N =>
          kr N) t (0:Int) b k a g r d)
      (fun l u a2 =>
       bif l then
        F.zb.C30_1 n
         (fun O =>
          kr O) u (0:Int) b l a g [] true
       else
        F.zb.C30_1 n
         (fun P =>
          kr P) u (0:Int) b l a g r d) n s (s.length:Int) (0:Int) e [] 0)
    (fun h v a3 w x a4 a5 a6 a7 =>
     F.zb.L2_sess_Sess_binary_1 n
      (fun m y a8 =>
       bif m then
        F.zb.C30_1 n
         (fun Q =>
          kr Q) y (0:Int) b m a h [] true
       else
        F.zb.C30_1 n
         (fun R =>
          kr R) y (0:Int) b m a h v w)
      (fun o z a9 =>
       bif o then
        F.zb.C30_1 n
         (fun S =>
          kr S) z (0:Int) b o a h [] true
       else
        F.zb.C30_1 n
         (fun T =>
          kr T) z (0:Int) b o a h v w) n x (x.length:Int) (0:Int) e [] 0) n B c f C [] L D 0
noncomputable def F.zb.C27_1 {X:Type} (n:Nat) (kr:Bool→Option X) (kn:Unit→Option X) (a:Z9) (b:Int) (c:Int) (d:Bool) (e:Bool) (f:Z0):Option X:=
 bif !(b==(0:Int)) then
  kr false
 else
 bif decide ((a.length:Int)>(1:Int)) then
  kr false
 else
 bif d then
  kn ()
 else
 bif e then
  kn ()
 else
 bif c==(4:Int) then
  bif !((f.length:Int)==(0:Int)) then
   kr false
  else
   kn ()
 else
  kn ()
noncomputable def F.zb.C12_1 {X:Type} (n:Nat) (kr:Bool→Option X) (krx1:Bool→Option X) (c:Z0) (J:Z9) (K:Int) (L:Int) (a:Int) (d:Bool) (f:Bool) (e:Int) (b:Int) (g:Z0) (i:Int) (h:Bool) (j:Nat):Option X:=
 bif !(K==(0:Int)) then
  kr false
 else
  F.zb.L16 n
   (fun M =>
    bif M then
     bif d then
      F.zb.C23_1 n
       (fun N =>
        kr N)
       (fun O P Q R S =>
        F.zb.C29_1 n
         (fun T =>
          kr T) c a d O e b P Q R S) [] (28:Int) a d f b g i h j
     else
     bif f then
      F.zb.C23_1 n
       (fun U =>
        kr U)
       (fun V W Y Z a0 =>
        F.zb.C29_1 n
         (fun a1 =>
          kr a1) c a d V e b W Y Z a0) [] (28:Int) a d f b g i h j
     else
     bif h then
      F.zb.L2_sess_Sess_binary_1 n
       (fun m t cY =>
        bif m then
         F.zb.C23_1 n
          (fun a2 =>
           kr a2)
          (fun a3 a4 a5 a6 a7 =>
           F.zb.C29_1 n
            (fun a8 =>
             kr a8) c a m a3 e b a4 a5 a6 a7) t (0:Int) a m f b [] (0:Int) true 0
        else
         F.zb.C23_1 n
          (fun a9 =>
           kr a9)
          (fun aA aB aC aD aE =>
           F.zb.C29_1 n
            (fun aG =>
             kr aG) c a m aA e b aB aC aD aE) t (0:Int) a m f b g i h j)
       (fun o u cZ =>
        bif o then
         F.zb.C23_1 n
          (fun aH =>
           kr aH)
          (fun aI aJ aK aL aM =>
           F.zb.C29_1 n
            (fun aN =>
             kr aN) c a o aI e b aJ aK aL aM) u (0:Int) a o f b [] (0:Int) true 0
        else
         F.zb.C23_1 n
          (fun aO =>
           kr aO)
          (fun aP aQ aR aS aT =>
           F.zb.C29_1 n
            (fun aU =>
             kr aU) c a o aP e b aQ aR aS aT) u (0:Int) a o f b g i h j) n [] (0:Int) (0:Int) d [] 0
     else
      (F.zab n c).bind fun aV =>
       F.zb.L0_chunk_Framer_frames_1 n
        (fun k v w x d0 y d1 =>
         F.zb.L2_sess_Sess_binary_1 n
          (fun p z d2 =>
           bif p then
            F.zb.C23_1 n
             (fun aW =>
              kr aW)
             (fun aY aZ b0 b1 b2 =>
              F.zb.C29_1 n
               (fun b3 =>
                kr b3) c a p aY e k aZ b0 b1 b2) z (0:Int) a p f k [] (0:Int) true 0
           else
            F.zb.C23_1 n
             (fun b4 =>
              kr b4)
             (fun b5 b6 b7 b8 b9 =>
              F.zb.C29_1 n
               (fun bA =>
                kr bA) c a p b5 e k b6 b7 b8 b9) z (0:Int) a p f k v w h y)
          (fun q A d3 =>
           bif q then
            F.zb.C23_1 n
             (fun bB =>
              kr bB)
             (fun bC bD bE bG bH =>
              F.zb.C29_1 n
               (fun bI =>
                kr bI) c a q bC e k bD bE bG bH) A (0:Int) a q f k [] (0:Int) true 0
           else
            F.zb.C23_1 n
             (fun bJ =>
              kr bJ)
             (fun bK bL bM bN bO =>
              F.zb.C29_1 n
               (fun bP =>
                kr bP) c a q bK e k bL bM bN bO) A (0:Int) a q f k v w h y) n x (x.length:Int) (0:Int) d [] 0)
        (fun l B C D E d4 G d5 d6 =>
         F.zb.L2_sess_Sess_binary_1 n
          (fun r H d7 =>
           bif r then
            F.zb.C23_1 n
             (fun bQ =>
              kr bQ)
             (fun bR bS bT bU bV =>
              F.zb.C29_1 n
               (fun bW =>
                kr bW) c a r bR e l bS bT bU bV) H (0:Int) a r f l [] (0:Int) true 0
           else
            F.zb.C23_1 n
             (fun bY =>
              kr bY)
             (fun bZ c0 c1 c2 c3 =>
              F.zb.C29_1 n
               (fun c4 =>
                kr c4) c a r bZ e l c0 c1 c2 c3) H (0:Int) a r f l B C D G)
          (fun s I d8 =>
           bif s then
            F.zb.C23_1 n
             (fun c5 =>
              kr c5)
             (fun c6 c7 c8 c9 cA =>
              F.zb.C29_1 n
               (fun cB =>
                kr cB) c a s c6 e l c7 c8 c9 cA) I (0:Int) a s f l [] (0:Int) true 0
           else
            F.zb.C23_1 n
             (fun cC =>
              kr cC)
             (fun cD cE cG cH cI =>
              F.zb.C29_1 n
               (fun cJ =>
                kr cJ) c a s cD e l cE cG cH cI) I (0:Int) a s f l B C D G) n E (E.length:Int) (0:Int) d [] 0) n e b g i [] aV j 0
    else
    bif f then
     F.zb.C27_1 n
      (fun cK =>
       kr cK)
      (fun (_:Unit) =>
       F.zb.C29_1 n
        (fun cL =>
         kr cL) c a d f e b g i h j) [] (28:Int) a d f g
    else
    bif d then
     F.zb.C27_1 n
      (fun cM =>
       kr cM)
      (fun (_:Unit) =>
       F.zb.C29_1 n
        (fun cN =>
         kr cN) c a d true e b g i h j) [] (0:Int) a d true g
    else
    bif a == (4:Int) then
     bif h then
      F.zb.C27_1 n
       (fun cO =>
        kr cO)
       (fun (_:Unit) =>
        F.zb.C29_1 n
         (fun cP =>
          kr cP) c a d true e b g i h j) [] (0:Int) a d true g
     else
     bif (g.length:Int)==(0:Int) then
      F.zb.C27_1 n
       (fun cQ =>
        kr cQ)
       (fun (_:Unit) =>
        F.zb.C29_1 n
         (fun cR =>
          kr cR) c a d true e b g i true j) [] (0:Int) a d true g
     else
      F.zb.C27_1 n
       (fun cS =>
        kr cS)
       (fun (_:Unit) =>
        F.zb.C29_1 n
         (fun cT =>
          kr cT) c a d true e b [] (0:Int) true 0) ([(3,IntKind.wrap .i64 (b - (g.length:Int)),b,[],30,IntKind.wrap .i64 (b - (g.length:Int)))]) (0:Int) a d true []
    else
     F.zb.C27_1 n
      (fun cU =>
       kr cU)
      (fun (_:Unit) =>
       F.zb.C29_1 n
        (fun cV =>
         kr cV) c a d true e b g i h j) [] (0:Int) a d true g)
   (fun cW =>
    kr cW) n J false (0:Int) L
noncomputable def F.zb.C9_2 {X:Type} (n:Nat) (kr:Bool→Option X) (krx1:Bool→Option X) (L:Z0) (c:Z0) (u:Int) (d:Int) (e:Int) (h:Bool) (a:Bool) (b:Int) (f:Int) (i:Z0) (j:Int) (g:Bool) (k:Nat):Option X:=
 bif !(u==(0:Int)) then
  bif !(u==(0:Int)) then
   kr false
  else
   kr false
 else
 bif h then
  F.zb.C12_1 n
   (fun M =>
    kr M)
   (fun N =>
    kr N) c [] (28:Int) d e h a b f i j g k
 else
 bif a then
  F.zb.C12_1 n
   (fun O =>
    kr O)
   (fun P =>
    kr P) c [] (28:Int) d e h a b f i j g k
 else
 bif g then
  F.zb.L2_sess_Sess_binary_1 n
   (fun o v aH =>
    bif o then
     F.zb.C12_1 n
      (fun Q =>
       kr Q)
      (fun R =>
       kr R) c v (0:Int) d e o a b f [] (0:Int) true 0
    else
     F.zb.C12_1 n
      (fun S =>
       kr S)
      (fun T =>
       kr T) c v (0:Int) d e o a b f i j g k)
   (fun p w aI =>
    bif p then
     F.zb.C12_1 n
      (fun U =>
       kr U)
      (fun V =>
       kr V) c w (0:Int) d e p a b f [] (0:Int) true 0
    else
     F.zb.C12_1 n
      (fun W =>
       kr W)
      (fun Y =>
       kr Y) c w (0:Int) d e p a b f i j g k) n [] (0:Int) (0:Int) h [] 0
 else
  (F.zab n L).bind fun Z =>
   F.zb.L0_chunk_Framer_frames_1 n
    (fun l x y z aJ A aK =>
     F.zb.L2_sess_Sess_binary_1 n
      (fun q B aL =>
       bif q then
        F.zb.C12_1 n
         (fun a0 =>
          kr a0)
         (fun a1 =>
          kr a1) c B (0:Int) d e q a b l [] (0:Int) true 0
       else
        F.zb.C12_1 n
         (fun a2 =>
          kr a2)
         (fun a3 =>
          kr a3) c B (0:Int) d e q a b l x y g A)
      (fun r C aM =>
       bif r then
        F.zb.C12_1 n
         (fun a4 =>
          kr a4)
         (fun a5 =>
          kr a5) c C (0:Int) d e r a b l [] (0:Int) true 0
       else
        F.zb.C12_1 n
         (fun a6 =>
          kr a6)
         (fun a7 =>
          kr a7) c C (0:Int) d e r a b l x y g A) n z (z.length:Int) (0:Int) h [] 0)
    (fun m D E G H aN I aO aP =>
     F.zb.L2_sess_Sess_binary_1 n
      (fun s J aQ =>
       bif s then
        F.zb.C12_1 n
         (fun a8 =>
          kr a8)
         (fun a9 =>
          kr a9) c J (0:Int) d e s a b m [] (0:Int) true 0
       else
        F.zb.C12_1 n
         (fun aA =>
          kr aA)
         (fun aB =>
          kr aB) c J (0:Int) d e s a b m D E G I)
      (fun t K aR =>
       bif t then
        F.zb.C12_1 n
         (fun aC =>
          kr aC)
         (fun aD =>
          kr aD) c K (0:Int) d e t a b m [] (0:Int) true 0
       else
        F.zb.C12_1 n
         (fun aE =>
          kr aE)
         (fun aG =>
          kr aG) c K (0:Int) d e t a b m D E G I) n H (H.length:Int) (0:Int) h [] 0) n b f i j [] Z k 0
noncomputable def F.zb (n:Nat) (a0:Z0) (a1:Z16) (a2:Z0):Option (Bool):=
 bif decide ((a0.length:Int)>(1500:Int)) then
  (F.zm n ).bind fun a =>
   some (a)
 else
 bif decide ((a2.length:Int)>(100:Int)) then
  (F.zm n ).bind fun b =>
   some (b)
 else
 bif a1.1==(1:Int) then
  bif a1.1==(1:Int) then
   bif decide (a1.2.1<(1:Int)) then
    F.zb.C9 n
     (fun c =>
      some (c)) (10:Int)
   else
   bif decide (a1.2.1>(8192:Int)) then
    F.zb.C9 n
     (fun d =>
      some (d)) (10:Int)
   else
    F.zb.C9_1 n
     (fun e =>
      some (e))
     (fun f =>
      some (f)) a0 a2 (0:Int) a1.1 a1.1 false false a1.2.1 (0:Int) (0:Int) [] false 0
  else
  bif a1.1==(4:Int) then
   bif decide (a1.2.1<(1:Int)) then
    F.zb.C9 n
     (fun g =>
      some (g)) (10:Int)
   else
   bif decide (a1.2.1>(1048576:Int)) then
    F.zb.C9 n
     (fun h =>
      some (h)) (10:Int)
   else
    F.zb.C9_2 n
     (fun i =>
      some (i))
     (fun j =>
      some (j)) a0 a2 (0:Int) a1.1 a1.1 false false a1.2.1 (0:Int) [] (0:Int) false 0
  else
   F.zb.C9 n
    (fun k =>
     some (k)) (29:Int)
 else
 bif a1.1==(2:Int) then
  bif a1.1==(2:Int) then
   bif decide (a1.2.1<(1:Int)) then
    F.zb.C9 n
     (fun l =>
      some (l)) (10:Int)
   else
   bif decide (a1.2.1>(8192:Int)) then
    F.zb.C9 n
     (fun m =>
      some (m)) (10:Int)
   else
    F.zb.C9_1 n
     (fun o =>
      some (o))
     (fun p =>
      some (p)) a0 a2 (0:Int) a1.1 a1.1 false false a1.2.1 (0:Int) (0:Int) [] false 0
  else
  bif a1.1==(4:Int) then
   bif decide (a1.2.1<(1:Int)) then
    F.zb.C9 n
     (fun q =>
      some (q)) (10:Int)
   else
   bif decide (a1.2.1>(1048576:Int)) then
    F.zb.C9 n
     (fun r =>
      some (r)) (10:Int)
   else
    F.zb.C9_2 n
     (fun s =>
      some (s))
     (fun t =>
      some (t)) a0 a2 (0:Int) a1.1 a1.1 false false a1.2.1 (0:Int) [] (0:Int) false 0
  else
   F.zb.C9 n
    (fun u =>
     some (u)) (29:Int)
 else
 bif a1.1==(3:Int) then
  bif decide (a1.2.1<(1:Int)) then
   F.zb.C9 n
    (fun v =>
     some (v)) (10:Int)
  else
  bif decide (a1.2.1>(8192:Int)) then
   F.zb.C9 n
    (fun w =>
     some (w)) (10:Int)
  else
   F.zb.C9_1 n
    (fun x =>
     some (x))
    (fun y =>
     some (y)) a0 a2 (0:Int) a1.1 a1.1 false false a1.2.1 (0:Int) (0:Int) [] false 0
 else
 bif a1.1==(4:Int) then
  bif decide (a1.2.1<(1:Int)) then
   F.zb.C9 n
    (fun z =>
     some (z)) (10:Int)
  else
  bif decide (a1.2.1>(1048576:Int)) then
   F.zb.C9 n
    (fun A =>
     some (A)) (10:Int)
  else
   F.zb.C9_2 n
    (fun B =>
     some (B))
    (fun C =>
     some (C)) a0 a2 (0:Int) a1.1 a1.1 false false a1.2.1 (0:Int) [] (0:Int) false 0
 else
  F.zb.C9 n
   (fun D =>
    some (D)) (29:Int)
end Go.AM
namespace Go.Proofs
open Go.Shelf
def Tryz.lays161_ren:Go.Shelf.Ren:=⟨fun | 161=>201 | 231=>259 | 227=>251 | 233=>260 | 235=>261 | 228=>294 | 197=>301 | 151=>296 | 260=>320 | 152=>317 | 137=>334 | 119=>335 | 224=>132 | 225=>298 | 217=>297 | 266=>318 | n=>n,fun | 9=>9 | 4=>4 | 3=>3 | 5=>5 | 117=>321 | 116=>320 | 0=>0 | 124=>324 | 105=>347 | 21=>21 | 119=>371 | 46=>156 | 139=>374 | 138=>373 | n=>n,fun | 3=>2 | 4=>3 | n=>n⟩
theorem Tryz.lays161:Go.Proofs.Lays.n161 Tryz.prog Tryz.lays161_ren:={
 mixed:=by kernel_rfl
 f119:=Tryz.func335.trans (congrArg some (by kernel_rfl))
 f137:=Tryz.func334.trans (congrArg some (by kernel_rfl))
 f151:=Tryz.func296.trans (congrArg some (by kernel_rfl))
 f152:=Tryz.func317.trans (congrArg some (by kernel_rfl))
 f161:=Tryz.func201.trans (congrArg some (by kernel_rfl))
 f197:=Tryz.func301.trans (congrArg some (by kernel_rfl))
 f217:=Tryz.func297.trans (congrArg some (by kernel_rfl))
 f224:=Tryz.func132.trans (congrArg some (by kernel_rfl))
 f225:=Tryz.func298.trans (congrArg some (by kernel_rfl))
 f227:=Tryz.func251.trans (congrArg some (by kernel_rfl))
 f228:=Tryz.func294.trans (congrArg some (by kernel_rfl))
 f231:=Tryz.func259.trans (congrArg some (by kernel_rfl))
 f233:=Tryz.func260.trans (congrArg some (by kernel_rfl))
 f235:=Tryz.func261.trans (congrArg some (by kernel_rfl))
 f260:=Tryz.func320.trans (congrArg some (by kernel_rfl))
 f266:=Tryz.func318.trans (congrArg some (by kernel_rfl))
 t0:=Tryz.underlying0
 a0:=Tryz.isAgg0
 z0:=Tryz.sizeOf0
 v0:=Tryz.zeroValue0
 t3:=Tryz.underlying3
 a3:=Tryz.isAgg3
 z3:=Tryz.sizeOf3
 v3:=Tryz.zeroValue3
 t4:=Tryz.underlying4
 a4:=Tryz.isAgg4
 z4:=Tryz.sizeOf4
 v4:=Tryz.zeroValue4
 t5:=Tryz.underlying5
 a5:=Tryz.isAgg5
 z5:=Tryz.sizeOf5
 v5:=Tryz.zeroValue5
 t9:=Tryz.underlying9
 a9:=Tryz.isAgg9
 z9:=Tryz.sizeOf9
 v9:=Tryz.zeroValue9
 t21:=Tryz.underlying21
 a21:=Tryz.isAgg21
 z21:=Tryz.sizeOf21
 v21:=Tryz.zeroValue21
 t46:=Tryz.underlying156
 a46:=Tryz.isAgg156
 z46:=Tryz.sizeOf156
 v46:=Tryz.zeroValue156
 t105:=Tryz.underlying347
 a105:=Tryz.isAgg347
 z105:=Tryz.sizeOf347
 v105:=Tryz.zeroValue347
 t116:=Tryz.underlying320
 a116:=Tryz.isAgg320
 z116:=Tryz.sizeOf320
 t117:=Tryz.underlying321
 a117:=Tryz.isAgg321
 z117:=Tryz.sizeOf321
 v117:=Tryz.zeroValue321
 t119:=Tryz.underlying371
 a119:=Tryz.isAgg371
 z119:=Tryz.sizeOf371
 t124:=Tryz.underlying324
 a124:=Tryz.isAgg324
 z124:=Tryz.sizeOf324
 v124:=Tryz.zeroValue324
 t138:=Tryz.underlying373
 a138:=Tryz.isAgg373
 z138:=Tryz.sizeOf373
 v138:=Tryz.zeroValue373
 t139:=Tryz.underlying374
 a139:=Tryz.isAgg374
 z139:=Tryz.sizeOf374
 v139:=Tryz.zeroValue374
 g3:=by kernel_rfl
 g4:=by kernel_rfl }
open Go.RowKit in
theorem Tryz.strings_TrimLeft_one (s:ByteArray) (c:UInt8) (hc:c.toNat<128) (w:World) :
 Calls Tryz.prog 201 #[.string s,.string ⟨#[c]⟩] w fun e w'=>e = .returned (.string ⟨(Lib.trimLeftB s.data.toList c).toArray⟩)∧w'=w:=Any.strings_TrimLeft_one Tryz.lays161 s c hc w
def Tryz.lays162_ren:Go.Shelf.Ren:=⟨fun | 162=>196 | 232=>250 | 227=>251 | 234=>252 | 236=>253 | 228=>294 | 271=>295 | 151=>296 | 120=>316 | 197=>301 | 152=>317 | 260=>320 | 137=>334 | 119=>335 | 224=>132 | 225=>298 | 217=>297 | 266=>318 | n=>n,fun | 9=>9 | 4=>4 | 3=>3 | 5=>5 | 117=>321 | 116=>320 | 0=>0 | 124=>324 | 21=>21 | 105=>347 | 46=>156 | 119=>371 | 139=>374 | 138=>373 | n=>n,fun | 3=>2 | 4=>3 | n=>n⟩
theorem Tryz.lays162:Go.Proofs.Lays.n162 Tryz.prog Tryz.lays162_ren:={
 mixed:=by kernel_rfl
 f119:=Tryz.func335.trans (congrArg some (by kernel_rfl))
 f120:=Tryz.func316.trans (congrArg some (by kernel_rfl))
 f137:=Tryz.func334.trans (congrArg some (by kernel_rfl))
 f151:=Tryz.func296.trans (congrArg some (by kernel_rfl))
 f152:=Tryz.func317.trans (congrArg some (by kernel_rfl))
 f162:=Tryz.func196.trans (congrArg some (by kernel_rfl))
 f197:=Tryz.func301.trans (congrArg some (by kernel_rfl))
 f217:=Tryz.func297.trans (congrArg some (by kernel_rfl))
 f224:=Tryz.func132.trans (congrArg some (by kernel_rfl))
 f225:=Tryz.func298.trans (congrArg some (by kernel_rfl))
 f227:=Tryz.func251.trans (congrArg some (by kernel_rfl))
 f228:=Tryz.func294.trans (congrArg some (by kernel_rfl))
 f232:=Tryz.func250.trans (congrArg some (by kernel_rfl))
 f234:=Tryz.func252.trans (congrArg some (by kernel_rfl))
 f236:=Tryz.func253.trans (congrArg some (by kernel_rfl))
 f260:=Tryz.func320.trans (congrArg some (by kernel_rfl))
 f266:=Tryz.func318.trans (congrArg some (by kernel_rfl))
 f271:=Tryz.func295.trans (congrArg some (by kernel_rfl))
 t0:=Tryz.underlying0
 a0:=Tryz.isAgg0
 z0:=Tryz.sizeOf0
 v0:=Tryz.zeroValue0
 t3:=Tryz.underlying3
 a3:=Tryz.isAgg3
 z3:=Tryz.sizeOf3
 v3:=Tryz.zeroValue3
 t4:=Tryz.underlying4
 a4:=Tryz.isAgg4
 z4:=Tryz.sizeOf4
 v4:=Tryz.zeroValue4
 t5:=Tryz.underlying5
 a5:=Tryz.isAgg5
 z5:=Tryz.sizeOf5
 v5:=Tryz.zeroValue5
 t9:=Tryz.underlying9
 a9:=Tryz.isAgg9
 z9:=Tryz.sizeOf9
 v9:=Tryz.zeroValue9
 t21:=Tryz.underlying21
 a21:=Tryz.isAgg21
 z21:=Tryz.sizeOf21
 v21:=Tryz.zeroValue21
 t46:=Tryz.underlying156
 a46:=Tryz.isAgg156
 z46:=Tryz.sizeOf156
 v46:=Tryz.zeroValue156
 t105:=Tryz.underlying347
 a105:=Tryz.isAgg347
 z105:=Tryz.sizeOf347
 v105:=Tryz.zeroValue347
 t116:=Tryz.underlying320
 a116:=Tryz.isAgg320
 z116:=Tryz.sizeOf320
 t117:=Tryz.underlying321
 a117:=Tryz.isAgg321
 z117:=Tryz.sizeOf321
 v117:=Tryz.zeroValue321
 t119:=Tryz.underlying371
 a119:=Tryz.isAgg371
 z119:=Tryz.sizeOf371
 t124:=Tryz.underlying324
 a124:=Tryz.isAgg324
 z124:=Tryz.sizeOf324
 v124:=Tryz.zeroValue324
 t138:=Tryz.underlying373
 a138:=Tryz.isAgg373
 z138:=Tryz.sizeOf373
 v138:=Tryz.zeroValue373
 t139:=Tryz.underlying374
 a139:=Tryz.isAgg374
 z139:=Tryz.sizeOf374
 v139:=Tryz.zeroValue374
 g3:=by kernel_rfl
 g4:=by kernel_rfl }
open Go.RowKit in
theorem Tryz.strings_TrimRight_one (s:ByteArray) (c:UInt8) (hc:c.toNat<128) (w:World) (hs:s.size≤9223372036854775807) :
 Calls Tryz.prog 196 #[.string s,.string ⟨#[c]⟩] w fun e w'=>e = .returned (.string ⟨(Lib.trimRightB s.data.toList c).toArray⟩)∧w'=w:=Any.strings_TrimRight_one Tryz.lays162 s c hc w hs
def Tryz.laysC172_ren:Go.Shelf.Ren:=⟨fun | 172=>307 | 244=>330 | 245=>331 | 247=>341 | 279=>342 | 280=>343 | 281=>344 | 282=>345 | 287=>347 | 316=>348 | 171=>195 | 205=>349 | 321=>350 | 322=>351 | 243=>249 | 246=>293 | 283=>287 | 284=>288 | 285=>289 | 286=>290 | 129=>311 | 317=>310 | 318=>312 | 319=>313 | 320=>314 | 337=>332 | 338=>333 | n=>n,fun | 9=>9 | 3=>3 | 75=>221 | 76=>222 | 4=>4 | 5=>5 | 167=>380 | 37=>22 | 0=>0 | 85=>381 | 2=>2 | 168=>383 | 53=>121 | 175=>391 | 46=>156 | 210=>395 | 127=>296 | 145=>400 | 143=>398 | 21=>21 | 171=>341 | 173=>343 | 212=>357 | 51=>141 | 20=>20 | 213=>358 | 232=>386 | 233=>387 | 80=>227 | n=>n,fun | 15=>6 | 16=>7 | 17=>1 | 18=>4 | 19=>5 | n=>n⟩
theorem Tryz.laysC172:Go.Proofs.LaysC.n172 Tryz.prog Tryz.laysC172_ren:={
 mixed:=by kernel_rfl
 f129:=Tryz.func311.trans (congrArg some (by kernel_rfl))
 f171:=Tryz.func195.trans (congrArg some (by kernel_rfl))
 f172:=Tryz.func307.trans (congrArg some (by kernel_rfl))
 f205:=Tryz.func349.trans (congrArg some (by kernel_rfl))
 f243:=Tryz.func249.trans (congrArg some (by kernel_rfl))
 f244:=Tryz.func330.trans (congrArg some (by kernel_rfl))
 f245:=Tryz.func331.trans (congrArg some (by kernel_rfl))
 f246:=Tryz.func293.trans (congrArg some (by kernel_rfl))
 f247:=Tryz.func341.trans (congrArg some (by kernel_rfl))
 f279:=Tryz.func342.trans (congrArg some (by kernel_rfl))
 f280:=Tryz.func343.trans (congrArg some (by kernel_rfl))
 f281:=Tryz.func344.trans (congrArg some (by kernel_rfl))
 f282:=Tryz.func345.trans (congrArg some (by kernel_rfl))
 f283:=Tryz.func287.trans (congrArg some (by kernel_rfl))
 f284:=Tryz.func288.trans (congrArg some (by kernel_rfl))
 f285:=Tryz.func289.trans (congrArg some (by kernel_rfl))
 f286:=Tryz.func290.trans (congrArg some (by kernel_rfl))
 f287:=Tryz.func347.trans (congrArg some (by kernel_rfl))
 f316:=Tryz.func348.trans (congrArg some (by kernel_rfl))
 f317:=Tryz.func310.trans (congrArg some (by kernel_rfl))
 f318:=Tryz.func312.trans (congrArg some (by kernel_rfl))
 f319:=Tryz.func313.trans (congrArg some (by kernel_rfl))
 f320:=Tryz.func314.trans (congrArg some (by kernel_rfl))
 f321:=Tryz.func350.trans (congrArg some (by kernel_rfl))
 f322:=Tryz.func351.trans (congrArg some (by kernel_rfl))
 f337:=Tryz.func332.trans (congrArg some (by kernel_rfl))
 f338:=Tryz.func333.trans (congrArg some (by kernel_rfl))
 t0:=Tryz.underlying0
 a0:=Tryz.isAgg0
 z0:=Tryz.sizeOf0
 v0:=Tryz.zeroValue0
 t2:=Tryz.underlying2
 a2:=Tryz.isAgg2
 z2:=Tryz.sizeOf2
 v2:=Tryz.zeroValue2
 t3:=Tryz.underlying3
 a3:=Tryz.isAgg3
 z3:=Tryz.sizeOf3
 v3:=Tryz.zeroValue3
 t4:=Tryz.underlying4
 a4:=Tryz.isAgg4
 z4:=Tryz.sizeOf4
 v4:=Tryz.zeroValue4
 t5:=Tryz.underlying5
 a5:=Tryz.isAgg5
 z5:=Tryz.sizeOf5
 v5:=Tryz.zeroValue5
 t9:=Tryz.underlying9
 a9:=Tryz.isAgg9
 z9:=Tryz.sizeOf9
 v9:=Tryz.zeroValue9
 t20:=Tryz.underlying20
 a20:=Tryz.isAgg20
 z20:=Tryz.sizeOf20
 v20:=Tryz.zeroValue20
 t21:=Tryz.underlying21
 a21:=Tryz.isAgg21
 z21:=Tryz.sizeOf21
 v21:=Tryz.zeroValue21
 t37:=Tryz.underlying22
 a37:=Tryz.isAgg22
 z37:=Tryz.sizeOf22
 v37:=Tryz.zeroValue22
 t46:=Tryz.underlying156
 a46:=Tryz.isAgg156
 z46:=Tryz.sizeOf156
 v46:=Tryz.zeroValue156
 t51:=Tryz.underlying141
 a51:=Tryz.isAgg141
 z51:=Tryz.sizeOf141
 v51:=Tryz.zeroValue141
 t53:=Tryz.underlying121
 a53:=Tryz.isAgg121
 z53:=Tryz.sizeOf121
 v53:=Tryz.zeroValue121
 t75:=Tryz.underlying221
 a75:=Tryz.isAgg221
 z75:=Tryz.sizeOf221
 v75:=Tryz.zeroValue221
 t76:=Tryz.underlying222
 a76:=Tryz.isAgg222
 z76:=Tryz.sizeOf222
 v76:=Tryz.zeroValue222
 t85:=Tryz.underlying381
 a85:=Tryz.isAgg381
 z85:=Tryz.sizeOf381
 v85:=Tryz.zeroValue381
 t127:=Tryz.underlying296
 a127:=Tryz.isAgg296
 z127:=Tryz.sizeOf296
 v127:=Tryz.zeroValue296
 t143:=Tryz.underlying398
 a143:=Tryz.isAgg398
 z143:=Tryz.sizeOf398
 v143:=Tryz.zeroValue398
 t145:=Tryz.underlying400
 a145:=Tryz.isAgg400
 z145:=Tryz.sizeOf400
 v145:=Tryz.zeroValue400
 t167:=Tryz.underlying380
 a167:=Tryz.isAgg380
 z167:=Tryz.sizeOf380
 v167:=Tryz.zeroValue380
 t168:=Tryz.underlying383
 a168:=Tryz.isAgg383
 z168:=Tryz.sizeOf383
 v168:=Tryz.zeroValue383
 t171:=Tryz.underlying341
 a171:=Tryz.isAgg341
 z171:=Tryz.sizeOf341
 v171:=Tryz.zeroValue341
 t173:=Tryz.underlying343
 a173:=Tryz.isAgg343
 z173:=Tryz.sizeOf343
 v173:=Tryz.zeroValue343
 t175:=Tryz.underlying391
 a175:=Tryz.isAgg391
 z175:=Tryz.sizeOf391
 v175:=Tryz.zeroValue391
 t210:=Tryz.underlying395
 a210:=Tryz.isAgg395
 z210:=Tryz.sizeOf395
 v210:=Tryz.zeroValue395
 t212:=Tryz.underlying357
 a212:=Tryz.isAgg357
 z212:=Tryz.sizeOf357
 v212:=Tryz.zeroValue357
 t213:=Tryz.underlying358
 a213:=Tryz.isAgg358
 z213:=Tryz.sizeOf358
 t232:=Tryz.underlying386
 a232:=Tryz.isAgg386
 z232:=Tryz.sizeOf386
 v232:=Tryz.zeroValue386
 t233:=Tryz.underlying387
 a233:=Tryz.isAgg387
 z233:=Tryz.sizeOf387
 v233:=Tryz.zeroValue387
 g15:=by kernel_rfl
 g16:=by kernel_rfl
 g17:=by kernel_rfl
 g18:=by kernel_rfl
 g19:=by kernel_rfl
 t80:=Tryz.underlying227
 a80:=Tryz.isAgg227
 z80:=Tryz.sizeOf227
 v80:=Tryz.zeroValue227
 i0:=by kernel_rfl
 i2:=by kernel_rfl
 i3:=by kernel_rfl
 i4:=by kernel_rfl
 i5:=by kernel_rfl
 i9:=by kernel_rfl
 i20:=by kernel_rfl
 i21:=by kernel_rfl
 i37:=by kernel_rfl
 i46:=by kernel_rfl
 i51:=by kernel_rfl
 i53:=by kernel_rfl
 i75:=by kernel_rfl
 i76:=by kernel_rfl
 i80:=by kernel_rfl
 i85:=by kernel_rfl
 i127:=by kernel_rfl
 i143:=by kernel_rfl
 i145:=by kernel_rfl
 i167:=by kernel_rfl
 i168:=by kernel_rfl
 i171:=by kernel_rfl
 i173:=by kernel_rfl
 i175:=by kernel_rfl
 i210:=by kernel_rfl
 i212:=by kernel_rfl
 i232:=by kernel_rfl
 i233:=by kernel_rfl
 m15:=by kernel_rfl
 m16:=by kernel_rfl
 m17:=by kernel_rfl
 m18:=by kernel_rfl
 m19:=by kernel_rfl
 c0:=by kernel_rfl
 c2:=by kernel_rfl
 c3:=by kernel_rfl
 c4:=by kernel_rfl
 c5:=by kernel_rfl
 c9:=by kernel_rfl
 c20:=by kernel_rfl
 c21:=by kernel_rfl
 c37:=by kernel_rfl
 c46:=by kernel_rfl
 c51:=by kernel_rfl
 c53:=by kernel_rfl
 c75:=by kernel_rfl
 c76:=by kernel_rfl
 c80:=by kernel_rfl
 c85:=by kernel_rfl
 c127:=by kernel_rfl
 c143:=by kernel_rfl
 c145:=by kernel_rfl
 c167:=by kernel_rfl
 c168:=by kernel_rfl
 c171:=by kernel_rfl
 c173:=by kernel_rfl
 c175:=by kernel_rfl
 c210:=by kernel_rfl
 c212:=by kernel_rfl
 c213:=by kernel_rfl
 c232:=by kernel_rfl
 c233:=by kernel_rfl }
open Go.RowKit in
theorem Tryz.strconv_Atoi_ok (s:ByteArray) (hmax:s.size≤9223372036854775806) (v:Int) (h:Lib.atoiAll s.data.toList = .ok v) (w:World) :
 Calls Tryz.prog 307 #[.string s] w fun e w'=>e = .returned (.tuple #[.int .i64 v,.nilIface])∧(w'=w∨∃ t,w'=Lib.bytesWorld w 5 t):=Any.strconv_Atoi_ok Tryz.laysC172 s hmax v h w
def Tryz.lays219_ren:Go.Shelf.Ren:=⟨fun | 219=>254 | 217=>297 | 225=>298 | 224=>132 | 267=>299 | 266=>318 | 314=>319 | n=>n,fun | 9=>9 | 3=>3 | 4=>4 | 5=>5 | 46=>156 | 146=>267 | 51=>141 | n=>n,fun | 1=>0 | n=>n⟩
theorem Tryz.lays219:Go.Proofs.Lays.n219 Tryz.prog Tryz.lays219_ren:={
 mixed:=by kernel_rfl
 f217:=Tryz.func297.trans (congrArg some (by kernel_rfl))
 f219:=Tryz.func254.trans (congrArg some (by kernel_rfl))
 f224:=Tryz.func132.trans (congrArg some (by kernel_rfl))
 f225:=Tryz.func298.trans (congrArg some (by kernel_rfl))
 f266:=Tryz.func318.trans (congrArg some (by kernel_rfl))
 f267:=Tryz.func299.trans (congrArg some (by kernel_rfl))
 f314:=Tryz.func319.trans (congrArg some (by kernel_rfl))
 t3:=Tryz.underlying3
 a3:=Tryz.isAgg3
 z3:=Tryz.sizeOf3
 v3:=Tryz.zeroValue3
 t4:=Tryz.underlying4
 a4:=Tryz.isAgg4
 z4:=Tryz.sizeOf4
 v4:=Tryz.zeroValue4
 t5:=Tryz.underlying5
 a5:=Tryz.isAgg5
 z5:=Tryz.sizeOf5
 v5:=Tryz.zeroValue5
 t9:=Tryz.underlying9
 a9:=Tryz.isAgg9
 z9:=Tryz.sizeOf9
 v9:=Tryz.zeroValue9
 t46:=Tryz.underlying156
 a46:=Tryz.isAgg156
 z46:=Tryz.sizeOf156
 v46:=Tryz.zeroValue156
 t51:=Tryz.underlying141
 a51:=Tryz.isAgg141
 z51:=Tryz.sizeOf141
 v51:=Tryz.zeroValue141
 t146:=Tryz.underlying267
 a146:=Tryz.isAgg267
 z146:=Tryz.sizeOf267
 v146:=Tryz.zeroValue267
 g1:=by kernel_rfl }
open Go.RowKit Go.Lib in
theorem Tryz.stringslite_Index_one (s:ByteArray) (c:UInt8) (w:World) :
 Calls Tryz.prog 254 #[.string s,.string ⟨#[c]⟩] w fun e w'=>e = .returned (.int .i64 (Lib.indexByte s.data.toList c))∧w'=w:=Any.stringslite_Index_one Tryz.lays219 s c w
def Tryz.lays143_ren:Go.Shelf.Ren:=⟨fun | 143=>273 | 219=>254 | 217=>297 | 225=>298 | 224=>132 | 267=>299 | 266=>318 | 314=>319 | n=>n,fun | 9=>9 | 3=>3 | 4=>4 | 5=>5 | 46=>156 | 146=>267 | 51=>141 | n=>n,fun | 1=>0 | n=>n⟩
theorem Tryz.lays143:Go.Proofs.Lays.n143 Tryz.prog Tryz.lays143_ren:={
 mixed:=by kernel_rfl
 f143:=Tryz.func273.trans (congrArg some (by kernel_rfl))
 f217:=Tryz.func297.trans (congrArg some (by kernel_rfl))
 f219:=Tryz.func254.trans (congrArg some (by kernel_rfl))
 f224:=Tryz.func132.trans (congrArg some (by kernel_rfl))
 f225:=Tryz.func298.trans (congrArg some (by kernel_rfl))
 f266:=Tryz.func318.trans (congrArg some (by kernel_rfl))
 f267:=Tryz.func299.trans (congrArg some (by kernel_rfl))
 f314:=Tryz.func319.trans (congrArg some (by kernel_rfl))
 t3:=Tryz.underlying3
 a3:=Tryz.isAgg3
 z3:=Tryz.sizeOf3
 v3:=Tryz.zeroValue3
 t4:=Tryz.underlying4
 a4:=Tryz.isAgg4
 z4:=Tryz.sizeOf4
 v4:=Tryz.zeroValue4
 t5:=Tryz.underlying5
 a5:=Tryz.isAgg5
 z5:=Tryz.sizeOf5
 v5:=Tryz.zeroValue5
 t9:=Tryz.underlying9
 a9:=Tryz.isAgg9
 z9:=Tryz.sizeOf9
 v9:=Tryz.zeroValue9
 t46:=Tryz.underlying156
 a46:=Tryz.isAgg156
 z46:=Tryz.sizeOf156
 v46:=Tryz.zeroValue156
 t51:=Tryz.underlying141
 a51:=Tryz.isAgg141
 z51:=Tryz.sizeOf141
 v51:=Tryz.zeroValue141
 t146:=Tryz.underlying267
 a146:=Tryz.isAgg267
 z146:=Tryz.sizeOf267
 v146:=Tryz.zeroValue267
 g1:=by kernel_rfl }
open Go.RowKit Go.Lib in
theorem Tryz.strings_Index_one (s:ByteArray) (c:UInt8) (w:World) :
 Calls Tryz.prog 273 #[.string s,.string ⟨#[c]⟩] w fun e w'=>e = .returned (.int .i64 (Lib.indexByte s.data.toList c))∧w'=w:=Any.strings_Index_one Tryz.lays143 s c w
def Tryz.lays138_ren:Go.Shelf.Ren:=⟨fun | 138=>272 | 195=>305 | 218=>306 | 143=>273 | 219=>254 | 217=>297 | 225=>298 | 224=>132 | 267=>299 | 266=>318 | 314=>319 | n=>n,fun | 9=>9 | 3=>3 | 4=>4 | 5=>5 | 0=>0 | 46=>156 | 146=>267 | 51=>141 | n=>n,fun | 1=>0 | n=>n⟩
theorem Tryz.lays138:Go.Proofs.Lays.n138 Tryz.prog Tryz.lays138_ren:={
 mixed:=by kernel_rfl
 f138:=Tryz.func272.trans (congrArg some (by kernel_rfl))
 f143:=Tryz.func273.trans (congrArg some (by kernel_rfl))
 f195:=Tryz.func305.trans (congrArg some (by kernel_rfl))
 f217:=Tryz.func297.trans (congrArg some (by kernel_rfl))
 f218:=Tryz.func306.trans (congrArg some (by kernel_rfl))
 f219:=Tryz.func254.trans (congrArg some (by kernel_rfl))
 f224:=Tryz.func132.trans (congrArg some (by kernel_rfl))
 f225:=Tryz.func298.trans (congrArg some (by kernel_rfl))
 f266:=Tryz.func318.trans (congrArg some (by kernel_rfl))
 f267:=Tryz.func299.trans (congrArg some (by kernel_rfl))
 f314:=Tryz.func319.trans (congrArg some (by kernel_rfl))
 t0:=Tryz.underlying0
 a0:=Tryz.isAgg0
 z0:=Tryz.sizeOf0
 v0:=Tryz.zeroValue0
 t3:=Tryz.underlying3
 a3:=Tryz.isAgg3
 z3:=Tryz.sizeOf3
 v3:=Tryz.zeroValue3
 t4:=Tryz.underlying4
 a4:=Tryz.isAgg4
 z4:=Tryz.sizeOf4
 v4:=Tryz.zeroValue4
 t5:=Tryz.underlying5
 a5:=Tryz.isAgg5
 z5:=Tryz.sizeOf5
 v5:=Tryz.zeroValue5
 t9:=Tryz.underlying9
 a9:=Tryz.isAgg9
 z9:=Tryz.sizeOf9
 v9:=Tryz.zeroValue9
 t46:=Tryz.underlying156
 a46:=Tryz.isAgg156
 z46:=Tryz.sizeOf156
 v46:=Tryz.zeroValue156
 t51:=Tryz.underlying141
 a51:=Tryz.isAgg141
 z51:=Tryz.sizeOf141
 v51:=Tryz.zeroValue141
 t146:=Tryz.underlying267
 a146:=Tryz.isAgg267
 z146:=Tryz.sizeOf267
 v146:=Tryz.zeroValue267
 g1:=by kernel_rfl }
open Go.RowKit Go.Lib in
theorem Tryz.strings_Count_one (s:ByteArray) (c:UInt8) (w:World) :
 Calls Tryz.prog 272 #[.string s,.string ⟨#[c]⟩] w fun e w'=>e = .returned (.int .i64 (Lib.countByte s.data.toList c))∧w'=w:=Any.strings_Count_one Tryz.lays138 s c w
def Tryz.lays221_ren:Go.Shelf.Ren:=⟨fun | 221=>213 | 268=>271 | 138=>272 | 143=>273 | 195=>305 | 197=>301 | 218=>306 | 219=>254 | 260=>320 | 217=>297 | 225=>298 | 224=>132 | 267=>299 | 266=>318 | 314=>319 | n=>n,fun | 9=>9 | 3=>3 | 31=>168 | 4=>4 | 0=>0 | 105=>347 | 21=>21 | 5=>5 | 46=>156 | 119=>371 | 139=>374 | 138=>373 | 146=>267 | 51=>141 | n=>n,fun | 1=>0 | 3=>2 | 4=>3 | n=>n⟩
theorem Tryz.lays221:Go.Proofs.Lays.n221 Tryz.prog Tryz.lays221_ren:={
 mixed:=by kernel_rfl
 f138:=Tryz.func272.trans (congrArg some (by kernel_rfl))
 f143:=Tryz.func273.trans (congrArg some (by kernel_rfl))
 f195:=Tryz.func305.trans (congrArg some (by kernel_rfl))
 f197:=Tryz.func301.trans (congrArg some (by kernel_rfl))
 f217:=Tryz.func297.trans (congrArg some (by kernel_rfl))
 f218:=Tryz.func306.trans (congrArg some (by kernel_rfl))
 f219:=Tryz.func254.trans (congrArg some (by kernel_rfl))
 f221:=Tryz.func213.trans (congrArg some (by kernel_rfl))
 f224:=Tryz.func132.trans (congrArg some (by kernel_rfl))
 f225:=Tryz.func298.trans (congrArg some (by kernel_rfl))
 f260:=Tryz.func320.trans (congrArg some (by kernel_rfl))
 f266:=Tryz.func318.trans (congrArg some (by kernel_rfl))
 f267:=Tryz.func299.trans (congrArg some (by kernel_rfl))
 f268:=Tryz.func271.trans (congrArg some (by kernel_rfl))
 f314:=Tryz.func319.trans (congrArg some (by kernel_rfl))
 t0:=Tryz.underlying0
 a0:=Tryz.isAgg0
 z0:=Tryz.sizeOf0
 v0:=Tryz.zeroValue0
 t3:=Tryz.underlying3
 a3:=Tryz.isAgg3
 z3:=Tryz.sizeOf3
 v3:=Tryz.zeroValue3
 t4:=Tryz.underlying4
 a4:=Tryz.isAgg4
 z4:=Tryz.sizeOf4
 v4:=Tryz.zeroValue4
 t5:=Tryz.underlying5
 a5:=Tryz.isAgg5
 z5:=Tryz.sizeOf5
 v5:=Tryz.zeroValue5
 t9:=Tryz.underlying9
 a9:=Tryz.isAgg9
 z9:=Tryz.sizeOf9
 v9:=Tryz.zeroValue9
 t21:=Tryz.underlying21
 a21:=Tryz.isAgg21
 z21:=Tryz.sizeOf21
 v21:=Tryz.zeroValue21
 t31:=Tryz.underlying168
 a31:=Tryz.isAgg168
 z31:=Tryz.sizeOf168
 v31:=Tryz.zeroValue168
 t46:=Tryz.underlying156
 a46:=Tryz.isAgg156
 z46:=Tryz.sizeOf156
 v46:=Tryz.zeroValue156
 t51:=Tryz.underlying141
 a51:=Tryz.isAgg141
 z51:=Tryz.sizeOf141
 v51:=Tryz.zeroValue141
 t105:=Tryz.underlying347
 a105:=Tryz.isAgg347
 z105:=Tryz.sizeOf347
 v105:=Tryz.zeroValue347
 t119:=Tryz.underlying371
 a119:=Tryz.isAgg371
 z119:=Tryz.sizeOf371
 t138:=Tryz.underlying373
 a138:=Tryz.isAgg373
 z138:=Tryz.sizeOf373
 v138:=Tryz.zeroValue373
 t139:=Tryz.underlying374
 a139:=Tryz.isAgg374
 z139:=Tryz.sizeOf374
 v139:=Tryz.zeroValue374
 t146:=Tryz.underlying267
 a146:=Tryz.isAgg267
 z146:=Tryz.sizeOf267
 v146:=Tryz.zeroValue267
 g1:=by kernel_rfl
 g3:=by kernel_rfl
 g4:=by kernel_rfl }
def Tryz.lays264_ren:Go.Shelf.Ren:=⟨fun | 264=>262 | n=>n,fun | 53=>121 | 46=>156 | n=>n,fun | n=>n⟩
theorem Tryz.lays264:Go.Proofs.Lays.n264 Tryz.prog Tryz.lays264_ren:={
 mixed:=by kernel_rfl
 f264:=Tryz.func262.trans (congrArg some (by kernel_rfl))
 t46:=Tryz.underlying156
 a46:=Tryz.isAgg156
 z46:=Tryz.sizeOf156
 v46:=Tryz.zeroValue156
 t53:=Tryz.underlying121
 a53:=Tryz.isAgg121
 z53:=Tryz.sizeOf121
 v53:=Tryz.zeroValue121 }
open Go.RowKit Go.Lib in
theorem Tryz.bits_Mul64 (x y:Nat) (hx:x<18446744073709551616) (hy:y<18446744073709551616) (w:World) :
 Calls Tryz.prog 262 #[.int .u64 x,.int .u64 y] w fun e w'=>e = .returned (.tuple #[.int .u64 ((x*y / 18446744073709551616:Nat):Int),.int .u64 ((x*y % 18446744073709551616:Nat):Int)])∧w'=w:=Any.bits_Mul64 Tryz.lays264 x y hx hy w
def Tryz.lays185_ren:Go.Shelf.Ren:=⟨fun | 185=>90 | 187=>130 | 115=>70 | 253=>131 | 224=>132 | 254=>133 | 255=>188 | 291=>189 | n=>n,fun | 37=>22 | 3=>3 | 4=>4 | 0=>0 | 5=>5 | 46=>156 | 9=>9 | 146=>267 | 51=>141 | n=>n,fun | 1=>0 | n=>n⟩
theorem Tryz.lays185:Go.Proofs.Lays.n185 Tryz.prog Tryz.lays185_ren:={
 mixed:=by kernel_rfl
 f115:=Tryz.func70.trans (congrArg some (by kernel_rfl))
 f185:=Tryz.func90.trans (congrArg some (by kernel_rfl))
 f187:=Tryz.func130.trans (congrArg some (by kernel_rfl))
 f224:=Tryz.func132.trans (congrArg some (by kernel_rfl))
 f253:=Tryz.func131.trans (congrArg some (by kernel_rfl))
 f254:=Tryz.func133.trans (congrArg some (by kernel_rfl))
 f255:=Tryz.func188.trans (congrArg some (by kernel_rfl))
 f291:=Tryz.func189.trans (congrArg some (by kernel_rfl))
 t0:=Tryz.underlying0
 a0:=Tryz.isAgg0
 z0:=Tryz.sizeOf0
 v0:=Tryz.zeroValue0
 t3:=Tryz.underlying3
 a3:=Tryz.isAgg3
 z3:=Tryz.sizeOf3
 v3:=Tryz.zeroValue3
 t4:=Tryz.underlying4
 a4:=Tryz.isAgg4
 z4:=Tryz.sizeOf4
 v4:=Tryz.zeroValue4
 t5:=Tryz.underlying5
 a5:=Tryz.isAgg5
 z5:=Tryz.sizeOf5
 v5:=Tryz.zeroValue5
 t9:=Tryz.underlying9
 a9:=Tryz.isAgg9
 z9:=Tryz.sizeOf9
 v9:=Tryz.zeroValue9
 t37:=Tryz.underlying22
 a37:=Tryz.isAgg22
 z37:=Tryz.sizeOf22
 v37:=Tryz.zeroValue22
 t46:=Tryz.underlying156
 a46:=Tryz.isAgg156
 z46:=Tryz.sizeOf156
 v46:=Tryz.zeroValue156
 t51:=Tryz.underlying141
 a51:=Tryz.isAgg141
 z51:=Tryz.sizeOf141
 v51:=Tryz.zeroValue141
 t146:=Tryz.underlying267
 a146:=Tryz.isAgg267
 z146:=Tryz.sizeOf267
 v146:=Tryz.zeroValue267
 g1:=by kernel_rfl }
open Go.RowKit Go.Lib in
theorem Tryz.bytes_Index_one (b o n c b2 o2 d:Nat) (xs:List Int) (cv:Int) (w:World) (hx:xs.length=n) (hc:∀ i,i<n→w.cell? ⟨b,o+i,none⟩=some (.int .u8 (xs.getD i 0))) (hc2:w.cell? ⟨b2,o2,none⟩=some (.int .u8 cv)) :
 Calls Tryz.prog 90 #[.slice (some ⟨b,o,none⟩) n c,.slice (some ⟨b2,o2,none⟩) 1 d] w fun e w'=>e = .returned (.int .i64 (Lib.indexByte (Lib.bytesOf xs) cv.toNat.toUInt8))∧w'=w:=Any.bytes_Index_one Tryz.lays185 b o n c b2 o2 d xs cv w hx hc hc2
def Tryz.laySort_ren:Go.Shelf.Ren:=⟨fun | 6=>265 | 15=>303 | 14=>302 | 28=>329 | 29=>311 | 20=>321 | 21=>322 | 22=>323 | 23=>324 | 24=>325 | 25=>326 | 26=>327 | 27=>328 | 46=>336 | 47=>337 | 48=>338 | 49=>339 | 50=>340 | 57=>346 | n=>n,fun | 22=>61 | 24=>126 | 25=>331 | 3=>3 | 39=>156 | 0=>0 | 53=>141 | 55=>121 | 4=>4 | 46=>363 | 45=>362 | 50=>260 | 5=>5 | 9=>9 | 66=>375 | 70=>378 | 76=>388 | 77=>389 | n=>n,fun | n=>n⟩
theorem Tryz.laySort:Go.Proofs.SlLaysF0.n6 Tryz.prog Tryz.laySort_ren:={
 mixed:=by kernel_rfl
 f6:=⟨Tryz.f265.name,by decide,Tryz.func265.trans (congrArg some (by kernel_rfl))⟩
 f14:=⟨Tryz.f302.name,by decide,Tryz.func302.trans (congrArg some (by kernel_rfl))⟩
 f15:=Tryz.func303.trans (congrArg some (by kernel_rfl))
 f20:=⟨Tryz.f321.name,by decide,Tryz.func321.trans (congrArg some (by kernel_rfl))⟩
 f21:=⟨Tryz.f322.name,by decide,Tryz.func322.trans (congrArg some (by kernel_rfl))⟩
 f22:=⟨Tryz.f323.name,by decide,Tryz.func323.trans (congrArg some (by kernel_rfl))⟩
 f23:=⟨Tryz.f324.name,by decide,Tryz.func324.trans (congrArg some (by kernel_rfl))⟩
 f24:=⟨Tryz.f325.name,by decide,Tryz.func325.trans (congrArg some (by kernel_rfl))⟩
 f25:=⟨Tryz.f326.name,by decide,Tryz.func326.trans (congrArg some (by kernel_rfl))⟩
 f26:=⟨Tryz.f327.name,by decide,Tryz.func327.trans (congrArg some (by kernel_rfl))⟩
 f27:=⟨Tryz.f328.name,by decide,Tryz.func328.trans (congrArg some (by kernel_rfl))⟩
 f28:=Tryz.func329.trans (congrArg some (by kernel_rfl))
 f29:=Tryz.func311.trans (congrArg some (by kernel_rfl))
 f46:=⟨Tryz.f336.name,by decide,Tryz.func336.trans (congrArg some (by kernel_rfl))⟩
 f47:=Tryz.func337.trans (congrArg some (by kernel_rfl))
 f48:=Tryz.func338.trans (congrArg some (by kernel_rfl))
 f49:=⟨Tryz.f339.name,by decide,Tryz.func339.trans (congrArg some (by kernel_rfl))⟩
 f50:=⟨Tryz.f340.name,by decide,Tryz.func340.trans (congrArg some (by kernel_rfl))⟩
 f57:=⟨Tryz.f346.name,by decide,Tryz.func346.trans (congrArg some (by kernel_rfl))⟩
 t0:=Tryz.underlying0
 a0:=Tryz.isAgg0
 z0:=Tryz.sizeOf0
 v0:=Tryz.zeroValue0
 t3:=Tryz.underlying3
 a3:=Tryz.isAgg3
 z3:=Tryz.sizeOf3
 v3:=Tryz.zeroValue3
 t4:=Tryz.underlying4
 a4:=Tryz.isAgg4
 z4:=Tryz.sizeOf4
 v4:=Tryz.zeroValue4
 t5:=Tryz.underlying5
 a5:=Tryz.isAgg5
 z5:=Tryz.sizeOf5
 v5:=Tryz.zeroValue5
 t9:=Tryz.underlying9
 a9:=Tryz.isAgg9
 z9:=Tryz.sizeOf9
 v9:=Tryz.zeroValue9
 t22:=Tryz.underlying61
 a22:=Tryz.isAgg61
 z22:=Tryz.sizeOf61
 v22:=Tryz.zeroValue61
 t25:=Tryz.underlying331
 a25:=Tryz.isAgg331
 z25:=Tryz.sizeOf331
 v25:=Tryz.zeroValue331
 t39:=Tryz.underlying156
 a39:=Tryz.isAgg156
 z39:=Tryz.sizeOf156
 v39:=Tryz.zeroValue156
 t45:=Tryz.underlying362
 a45:=Tryz.isAgg362
 z45:=Tryz.sizeOf362
 v45:=Tryz.zeroValue362
 t46:=Tryz.underlying363
 a46:=Tryz.isAgg363
 z46:=Tryz.sizeOf363
 v46:=Tryz.zeroValue363
 t50:=Tryz.underlying260
 a50:=Tryz.isAgg260
 z50:=Tryz.sizeOf260
 v50:=Tryz.zeroValue260
 t53:=Tryz.underlying141
 a53:=Tryz.isAgg141
 z53:=Tryz.sizeOf141
 v53:=Tryz.zeroValue141
 t55:=Tryz.underlying121
 a55:=Tryz.isAgg121
 z55:=Tryz.sizeOf121
 v55:=Tryz.zeroValue121
 t66:=Tryz.underlying375
 a66:=Tryz.isAgg375
 z66:=Tryz.sizeOf375
 v66:=Tryz.zeroValue375
 t70:=Tryz.underlying378
 a70:=Tryz.isAgg378
 z70:=Tryz.sizeOf378
 v70:=Tryz.zeroValue378
 t76:=Tryz.underlying388
 a76:=Tryz.isAgg388
 z76:=Tryz.sizeOf388
 v76:=Tryz.zeroValue388
 t77:=Tryz.underlying389
 a77:=Tryz.isAgg389
 z77:=Tryz.sizeOf389
 v77:=Tryz.zeroValue389 }
end Go.Proofs
set_option linter.unusedVariables false
set_option linter.unusedSimpArgs false
namespace Go.Proofs
open Go.Shelf Go.RowKit Go.Lib
set_option maxHeartbeats 1000000 in
theorem Tryz.strings_Split_one (s:ByteArray) (c:UInt8) (w:World) (hs:s.size<4294967281) :
 Calls Tryz.prog 153 #[.string s,.string ⟨#[c]⟩] w fun e w'=>∃ (l:List ByteArray) (t:TypeId),e = .returned (.slice (some ⟨w.heap.size,0,none⟩) l.length l.length)∧w'=w.alloc (.cells (l.map Value.string).toArray t)∧l.map (·.data.toList)=AM.splitL c s.data.toList:=by
 have mixed:Tryz.prog.follows .mixedOrders:=by kernel_rfl
 have h1:1≤(⟨#[c]⟩:ByteArray).size:=Nat.le_refl 1
 have hle:=Lib.countB_le ⟨#[c]⟩ h1 s.size s (Nat.le_refl _)
 have hlen:=Lib.splitB_all ⟨#[c]⟩ h1 0 _ s rfl
 have hcb:Lib.countB s ⟨#[c]⟩=s.data.toList.count c:=Lib.count_one c s.data.toList
 have hI:∀ (x:ByteArray) (cs:Array Value),x.size≤s.size→Calls Tryz.prog 273 #[.string x,.string ⟨#[c]⟩] (w.alloc (.cells cs 9)) fun e w'=>e = .returned (.int .i64 (Lib.indexB x ⟨#[c]⟩))∧w'=w.alloc (.cells cs 9):=
  fun x cs hx=>(Tryz.strings_Index_one x c _).mono fun e w' ⟨he,hw⟩=>⟨by rw [he,← Lib.index_one]; try rfl,hw⟩
 have hC:Calls Tryz.prog 272 #[.string s,.string ⟨#[c]⟩] w fun e w'=>e = .returned (.int .i64 (Lib.countB s ⟨#[c]⟩))∧w'=w:=
  (Tryz.strings_Count_one s c w).mono fun e w' ⟨he,hw⟩=>⟨by rw [he,hcb]; rfl,hw⟩
 have h:=Any.strings_genSplit_core Tryz.lays221 (by kernel_rfl) s ⟨#[c]⟩ 0 (-1) (Lib.countB s ⟨#[c]⟩+1) w hs h1 (Nat.zero_le _) hI hC (by decide) (by decide) (by rw [if_pos (by decide)]; omega)
 rw [Nat.add_sub_cancel,hlen] at h
 have e2:Lib.cellsOf (Lib.splitB ⟨#[c]⟩ 0 (Lib.countB s ⟨#[c]⟩) s) (Lib.countB s ⟨#[c]⟩+1)=((Lib.splitB ⟨#[c]⟩ 0 (Lib.countB s ⟨#[c]⟩) s).map Value.string).toArray:=by rw [← hlen]; exact Lib.cellsOf_full _
 rw [e2] at h
 have hd:(Lib.splitB ⟨#[c]⟩ 0 (Lib.countB s ⟨#[c]⟩) s).map (·.data.toList)=AM.splitL c s.data.toList:=by
  rw [Lib.splitB_data,hcb]
  exact AM.splitK_one c _ _ rfl
 change Calls Tryz.prog 213 _ _ _ at h
 generalize Lib.splitB ⟨#[c]⟩ 0 (Lib.countB s ⟨#[c]⟩) s=l at h hd hlen
 rw [← hlen] at h
 clear e2 hI hC hle hlen hcb
 go_enter Tryz.func153,Tryz.ntmps153
 go_wp2_with (go_at_call 213; refine h.mono ?_; rintro e w' ⟨rfl,hw⟩; rw [hw])
 go_ret
 exact ⟨l,_,rfl,rfl,hd⟩
end Go.Proofs
set_option linter.unusedVariables false
set_option linter.unusedSimpArgs false
namespace Go.Proofs
open Go.Shelf Go.RowKit Go.Sort
set_option maxHeartbeats 1000000 in
theorem Tryz.isNaN_str (s:ByteArray) (w:World):Calls Tryz.prog 304 #[.string s] w fun e w'=>e = .returned (.bool false)∧w'=w:=by
 have mixed:Tryz.prog.follows .mixedOrders:=by kernel_rfl
 go_enter Tryz.func304,Tryz.ntmps304
 go_wp2
 go_ret
 exact ⟨rfl,rfl⟩
theorem Tryz.gtr_str (x y:ByteArray) (w:World):(Go.binOp .gtr 9 (.string x) (.string y)).run Tryz.prog w = .ok (.bool (!(Op.bytesLess x.toList y.toList||x.toList==y.toList))) w:=by simp [Go.binOp,Op.stringOp]
set_option maxHeartbeats 2000000 in
theorem Tryz.compare_str (x y:ByteArray) (w:World):Calls Tryz.prog 268 #[.string x,.string y] w fun e w'=>e = .returned (.int .i64 (if Op.bytesLess x.toList y.toList then -1 else if Op.bytesLess x.toList y.toList||x.toList==y.toList then 0 else 1))∧w'=w:=by
 have mixed:Tryz.prog.follows .mixedOrders:=by kernel_rfl
 go_enter Tryz.func268,Tryz.ntmps268
 go_wp2_with (go_at_call 304; refine (Tryz.isNaN_str _ _).mono ?_; rintro e w' ⟨rfl,rfl⟩)
 all_goals try (
  rw [Tryz.gtr_str]
  simp only [Result.andThen]
  rw [Oper.upon_value]
  generalize hq:(Op.bytesLess x.toList y.toList||x.toList==y.toList)=q
  cases q
  all_goals (simp only [Bool.not_true,Bool.not_false]; go_wp2))
 all_goals (go_ret; refine ⟨?_,rfl⟩; simp_all)
set_option maxHeartbeats 4000000 in
theorem Tryz.or_ints (b:Nat) (p q:Int) (w:World) (h0:w.cell? ⟨b,0,none⟩=some (.int .i64 p)) (h1:w.cell? ⟨b,1,none⟩=some (.int .i64 q)):Calls Tryz.prog 267 #[.slice (some ⟨b,0,none⟩) 2 2] w fun e w'=>e = .returned (.int .i64 (if p=0 then q else p))∧w'=w:=by
 have mixed:Tryz.prog.follows .mixedOrders:=by kernel_rfl
 go_enter Tryz.func267,Tryz.ntmps267
 go_wp2
 refine wp_loop_rounds 3 ?_
 rw [rounds_succ]
 by_cases hp:p=0
 · subst hp
   go_wp2
   rw [rounds_succ]
   by_cases hq:q=0
   · subst hq
     go_wp2
     rw [rounds_succ]
     go_wp2
     go_ret
     exact ⟨rfl,rfl⟩
   · go_wp2
     all_goals first | (go_ret; refine ⟨?_,rfl⟩; simp_all) | (exfalso; simp_all)
 · go_wp2
   all_goals first | (go_ret; refine ⟨?_,rfl⟩; simp_all) | (exfalso; simp_all)
set_option maxHeartbeats 8000000 in
set_option maxRecDepth 100000 in
theorem Tryz.cmpTag (x y:AM.TagD) (w:World):Calls Tryz.prog 266 #[.agg (AM.encT x).toArray,.agg (AM.encT y).toArray] w fun e w'=>e = .returned (.int .i64 (AM.cmpL x y))∧∃ q os,w'=grow (w.drewN q) os:=by
 have mixed:Tryz.prog.follows .mixedOrders:=by kernel_rfl
 obtain ⟨k1,v1⟩:=x
 obtain ⟨k2,v2⟩:=y
 show Calls Tryz.prog 266 #[.agg #[.string ⟨k1.toArray⟩,.string ⟨v1.toArray⟩],.agg #[.string ⟨k2.toArray⟩,.string ⟨v2.toArray⟩]] w _
 have hb:∀ l:List UInt8,(⟨l.toArray⟩:ByteArray).toList=l:=fun l=>by rw [AM.ba_toList]
 have c1:∀ W,Calls Tryz.prog 268 #[.string ⟨k1.toArray⟩,.string ⟨k2.toArray⟩] W fun e w'=>e = .returned (.int .i64 (AM.cmpS k1 k2))∧w'=W:=fun W=>by
  have h:=Tryz.compare_str ⟨k1.toArray⟩ ⟨k2.toArray⟩ W
  simp only [hb] at h
  exact h
 have c2:∀ W,Calls Tryz.prog 268 #[.string ⟨v1.toArray⟩,.string ⟨v2.toArray⟩] W fun e w'=>e = .returned (.int .i64 (AM.cmpS v1 v2))∧w'=W:=fun W=>by
  have h:=Tryz.compare_str ⟨v1.toArray⟩ ⟨v2.toArray⟩ W
  simp only [hb] at h
  exact h
 unfold AM.cmpL
 simp only
 clear hb
 generalize AM.cmpS k1 k2=r1 at c1 ⊢
 generalize AM.cmpS v1 v2=r2 at c2 ⊢
 generalize (⟨k1.toArray⟩:ByteArray)=k1 at c1 ⊢
 generalize (⟨k2.toArray⟩:ByteArray)=k2 at c1 ⊢
 generalize (⟨v1.toArray⟩:ByteArray)=v1 at c2 ⊢
 generalize (⟨v2.toArray⟩:ByteArray)=v2 at c2 ⊢
 have c3:∀ (W:World) (b:Nat),W.heap.size=b→Calls Tryz.prog 267 #[.slice (some ⟨b,0,none⟩) 2 2] (W.alloc (.cells #[.int .i64 r1,.int .i64 r2] 3)).drew fun e w'=>e = .returned (.int .i64 (if r1=0 then r2 else r1))∧w'=(W.alloc (.cells #[.int .i64 r1,.int .i64 r2] 3)).drew:=by
  rintro W b rfl
  have hh:(W.alloc (.cells #[.int .i64 r1,.int .i64 r2] 3)).drew.heap[W.heap.size]? = some (.cells #[.int .i64 r1,.int .i64 r2] 3 (0,0)):=World.alloc_heap_new W _
  exact Tryz.or_ints _ r1 r2 _ (by rw [Lib.cell_of_heap hh]; rfl) (by rw [Lib.cell_of_heap hh]; rfl)
 generalize (if r1=0 then r2 else r1)=rr at c3 ⊢
 go_enter Tryz.func266,Tryz.ntmps266
 go_wp2
 go_region_held2 (fun W=>W.cell? ⟨w.heap.size,0,none⟩=some (.string k1)∧W.cell? ⟨w.heap.size,1,none⟩=some (.string v1)∧W.cell? ⟨w.heap.size+1,0,none⟩=some (.string k2)∧W.cell? ⟨w.heap.size+1,1,none⟩=some (.string v2)) (go_keep) (first
  | (go_at_call_of 268 (Value.string k1); refine (c1 _).mono ?_; rintro e w' ⟨rfl,rfl⟩)
  | (go_at_call_of 268 (Value.string v1); refine (c2 _).mono ?_; rintro e w' ⟨rfl,rfl⟩)
  | (go_at_call 267; refine (c3 _ _ (by simp)).mono ?_; rintro e w' ⟨rfl,rfl⟩))
 go_wp2
 go_ret
 exact ⟨rfl,1,_,by rw [alloc_eq_grow,alloc_eq_grow,alloc_eq_grow,grow_grow,grow_grow]; rfl⟩
set_option maxHeartbeats 4000000 in
set_option maxRecDepth 100000 in
theorem Tryz.sort_none (A:Option Addr) (w:World):Calls Tryz.prog 265 #[.slice A 0 0,.func (.func 266) #[] #[]] w fun e w'=>e = .returned (.tuple #[])∧w.grownBy w' none:=by
 have mixed:Tryz.prog.follows .mixedOrders:=by kernel_rfl
 go_enter Tryz.func265,Tryz.ntmps265
 go_wp2
 refine wp_loop_rounds 1 ?_
 rw [rounds_succ]
 go_wp2
 refine wp_loop_rounds 1 ?_
 rw [rounds_succ]
 go_wp2
 go_end0
 all_goals try simp only []
 go_wp2
 try simp only [Exit.inBlock,Exit.then]
 refine bodyPost_ret (results_none rfl _ _ _) rfl ?_
 try simp only []
 go_at_K
 go_wp2
 go_end0
 exact ⟨rfl,⟨rfl,rfl,rfl,Nat.le_refl _,fun _ _ _=>rfl⟩⟩
theorem zk1:AM.PrOK Tryz.prog (fun _=>True) 265 (.sort AM.TyTag 266 AM.sortTags):=by
 refine AM.sort_ok (AM.enters Tryz.func265 (by kernel_rfl) (by decide)) (fun q cap d w hH hq hd => ?_) Tryz.sort_none
 have eg:∀ args w,(callFunc 266 args).run Tryz.prog w = .ok (.enter 266 args) w:=enters_of Tryz.func266 (by kernel_rfl) rfl
 exact AnyQ.slices_SortFunc Tryz.laySort 2 Tryz.isAgg126 Tryz.sizeOf126 AM.encT (fun _=>rfl) (fun x v hv=>by simp [AM.encT] at hv; rcases hv with rfl | rfl<;>rfl) AM.cmpL AM.swoT 266 #[] q 0 cap d w eg (fun _ _ _ _ x y=>Tryz.cmpTag x y _) hH hq hd
end Go.Proofs
set_option linter.unusedVariables false
set_option linter.unusedSimpArgs false
namespace Go.AM
open Go.Proofs Go.RowKit
def longF:List AV→List AV→Option AV
 | [.int .i64 m,_,.int .i64 f,_,_],[.int .i64 e]=>some (.bool (decide (IntKind.wrap .i64 (e - f)>m)))
 | _,_=>none
theorem RepL.uncons {w:World} {G:GS} {vs:List Value} {c:AV} {cs:List AV} (h:RepL w G vs (c::cs)):∃ v us,vs=v::us∧RepV w G v c∧RepL w G us cs:=by
 cases vs with
 | nil=>exact absurd h.1 (by simp)
 | cons v us=>exact ⟨v,us,rfl,h.tail⟩
set_option maxHeartbeats 2000000 in
set_option maxRecDepth 100000 in
theorem zmv (b:Nat) (mo fr e:Int) (w:World) (h0:w.cell? ⟨b,0,none⟩=some (.int .i64 mo)) (h2:w.cell? ⟨b,2,none⟩=some (.int .i64 fr)) :
 Calls Tryz.prog 51 #[.pointer (some ⟨b,0,none⟩),.int .i64 e] w fun en w'=>en = .returned (.bool (decide (IntKind.wrap .i64 (e - fr)>mo)))∧w.grownBy w' none:=by
 have mixed:Tryz.prog.follows .mixedOrders=true:=by kernel_rfl
 go_enter Tryz.func51,Tryz.ntmps51
 go_wp2
 go_region
 go_wp2
 go_ret
 refine ⟨?_,rfl,rfl,rfl,Nat.le_refl _,fun _ _ _=>rfl⟩
 show Ending.returned (.bool (decide (mo<wrap64 (e - fr))))=_
 rw [show wrap64 (e - fr)=IntKind.wrap .i64 (e - fr) from by simp [wrap64,IntKind.wrap_i64]]
theorem zlt:PrOK Tryz.prog (fun _=>True) 51 (.rd longF):=by
 intro w G b vs t cs ar us v _ hh hcs has hF
 have he:Enters Tryz.prog 51:=enters Tryz.func51 (by kernel_rfl) (by decide)
 unfold longF at hF
 split at hF
 · rename_i m x1 f x3 x4 e
   cases hF
   obtain ⟨v0,u0,e0,r0,hcs⟩:=hcs.uncons
   obtain ⟨v1,u1,e1,r1,hcs⟩:=hcs.uncons
   obtain ⟨v2,u2,e2,r2,hcs⟩:=hcs.uncons
   obtain ⟨y,rfl,ry⟩:=has.one
   obtain ⟨rfl,_⟩:=zj r0
   obtain ⟨rfl,_⟩:=zj r2
   obtain ⟨rfl,_⟩:=zj ry
   have c0:w.cell? ⟨b,0,none⟩=some (.int .i64 m):=by rw [Lib.cell_of_heap hh,← Array.getElem?_toList,e0]; rfl
   have c2:w.cell? ⟨b,2,none⟩=some (.int .i64 f):=by rw [Lib.cell_of_heap hh,← Array.getElem?_toList,e0,e1,e2]; rfl
   refine zaj he ((zmv b m f e w c0 c2).mono ?_)
   rintro en w' ⟨rfl,hg⟩
   exact ⟨_,rfl,hg,.bool _⟩
 · cases hF
end Go.AM
set_option linter.unusedVariables false
set_option linter.unusedSimpArgs false
namespace Go.AM
open Go.Proofs Go.RowKit
set_option maxHeartbeats 2000000 in
set_option maxRecDepth 100000 in
theorem zoq (b:Nat) (w:World) (h4:w.cell? ⟨b,4,none⟩=some (.bool false)) :
 Calls Tryz.prog 76 #[.pointer (some ⟨b,0,none⟩)] w fun e w'=>e = .returned (.tuple #[])∧w'=w:=by
 have mixed:Tryz.prog.follows .mixedOrders=true:=by kernel_rfl
 go_enter Tryz.func76,Tryz.ntmps76
 go_wp2
 go_end0
 exact ⟨rfl,rfl⟩
set_option maxHeartbeats 2000000 in
set_option maxRecDepth 100000 in
theorem zor (b:Nat) (w:World) (h4:w.cell? ⟨b,4,none⟩=some (.bool true)) (h2:w.cell? ⟨b,2,none⟩=some (.int .i64 0)) (h3:w.cell? ⟨b,3,none⟩=some (.int .i64 0)) :
 Calls Tryz.prog 76 #[.pointer (some ⟨b,0,none⟩)] w fun e w'=>e = .returned (.tuple #[])∧w'=w:=by
 have mixed:Tryz.prog.follows .mixedOrders=true:=by kernel_rfl
 go_enter Tryz.func76,Tryz.ntmps76
 go_wp2
 go_end0
 exact ⟨rfl,rfl⟩
set_option maxHeartbeats 2000000 in
set_option maxRecDepth 100000 in
theorem zmw (b:Nat) (c i:Int) (w:World) (h4:w.cell? ⟨b,4,none⟩=some (.bool true)) (h2:w.cell? ⟨b,2,none⟩=some (.int .i64 c)) (h3:w.cell? ⟨b,3,none⟩=some (.int .i64 i)) (hci:¬(c=0∧i=0)) :
 Calls Tryz.prog 76 #[.pointer (some ⟨b,0,none⟩)] w fun e w'=>e = .panicked (stopE 166 (.pointer (some ⟨b,0,none⟩)))∧w'=w:=by
 have mixed:Tryz.prog.follows .mixedOrders=true:=by kernel_rfl
 by_cases hc:c=0
 · have hi:¬ i=0:=fun e=>hci ⟨hc,e⟩
   go_enter Tryz.func76,Tryz.ntmps76
   go_wp2
   exact ⟨rfl,rfl,rfl⟩
 · go_enter Tryz.func76,Tryz.ntmps76
   go_wp2
   exact ⟨rfl,rfl,rfl⟩
theorem zs8:PrOK Tryz.prog (fun _=>True) 76 (.must 166):=by
 intro w b vs t x y c i tr _ hh hvs
 have he:Enters Tryz.prog 76:=enters Tryz.func76 (by kernel_rfl) (by decide)
 have c2:w.cell? ⟨b,2,none⟩=some (.int .i64 c):=by rw [Lib.cell_of_heap hh,← Array.getElem?_toList,hvs]; rfl
 have c3:w.cell? ⟨b,3,none⟩=some (.int .i64 i):=by rw [Lib.cell_of_heap hh,← Array.getElem?_toList,hvs]; rfl
 have c4:w.cell? ⟨b,4,none⟩=some (.bool tr):=by rw [Lib.cell_of_heap hh,← Array.getElem?_toList,hvs]; rfl
 refine ⟨he _ _,callsIn_wide.2 ?_⟩
 cases tr
 · refine (zoq b w c4).mono ?_
   rintro e w' ⟨rfl,rfl⟩
   exact ⟨rfl,rfl⟩
 · by_cases hci:c=0∧i=0
   · obtain ⟨rfl,rfl⟩:=hci
     refine (zor b w c4 c2 c3).mono ?_
     rintro e w' ⟨rfl,rfl⟩
     exact ⟨rfl,rfl⟩
   · refine (zmw b c i w c4 c2 c3 hci).mono ?_
     rintro e w' ⟨rfl,rfl⟩
     refine ⟨rfl,?_⟩
     rw [if_pos]
     rw [Bool.true_and,Bool.not_eq_true',Bool.and_eq_false_iff,beq_eq_false_iff_ne,beq_eq_false_iff_ne]
     by_cases hc:c=0
     · exact Or.inr fun e=>hci ⟨hc,e⟩
     · exact Or.inl hc
set_option maxHeartbeats 2000000 in
set_option maxRecDepth 100000 in
theorem zmx (cv cu cn cf:Nat) (at' co fa no fc ff:Int) (tr:Bool) (w:World)
 (hv:w.cell? ⟨cv,0,none⟩=some (.pointer (some ⟨cu,0,none⟩))) (h1:w.cell? ⟨cu,1,none⟩=some (.int .i64 at')) (h2:w.cell? ⟨cu,2,none⟩=some (.int .i64 co)) (h3:w.cell? ⟨cu,3,none⟩=some (.int .i64 fa)) (h4:w.cell? ⟨cu,4,none⟩=some (.bool tr))
 (hn:w.cell? ⟨cn,0,none⟩=some (.int .i64 no)) (hf0:w.cell? ⟨cf,0,none⟩=some (.int .i64 fc)) (hf1:w.cell? ⟨cf,1,none⟩=some (.int .i64 ff))
 (z4:w.frozen? ⟨cu,4,none⟩=false) (zn:w.frozen? ⟨cn,0,none⟩=false) (zf0:w.frozen? ⟨cf,0,none⟩=false) (zf1:w.frozen? ⟨cf,1,none⟩=false)
 (d1:cu≠cn) (d2:cu≠cf) (d3:cn≠cf) (d4:cv≠cu) (d5:cv≠cn) (d6:cv≠cf) :
 CallsD Tryz.prog 113 #[.pointer (some ⟨cv,0,none⟩),.pointer (some ⟨cn,0,none⟩),.pointer (some ⟨cf,0,none⟩)] .returning w fun e u' w'=>e = .returned (.tuple #[])∧u' = .returning∧w'=((((w.setCell ⟨cu,4,none⟩ (.bool false)).setCell ⟨cn,0,none⟩ (.int .i64 at')).setCell ⟨cf,0,none⟩ (.int .i64 co)).setCell ⟨cf,1,none⟩ (.int .i64 fa)).drew:=by
 have mixed:Tryz.prog.follows .mixedOrders=true:=by kernel_rfl
 refine callsD_of_wpS Tryz.func113 rfl fun c₀ cs hu => ?_
 apply wpS_seq
 apply wpS_region
 simp [wpOpsS,go_sem,recoverD,hu,Tryz.ntmps113,Exit.thenS,hv,h4,z4]
 apply wpS_seq
 apply wpS_seq
 apply wpS_region
 simp [wpOpsS,go_sem,recoverD,hu,Exit.thenS]
 apply wpS_seq
 apply wpS_region
 simp [wpOpsS,go_sem,recoverD,hu,Exit.thenS]
 refine wpS_cond (t:=false) (by simp [Act.eval,Array.replicate]) ?_
 simp only [Bool.false_eq_true,if_false]
 refine wpS_of_wp (wp_skip ?_)
 simp only [Exit.thenS]
 refine wpS_of_wp ?_
 have k:∀ (a:Addr) (v:Value),a≠⟨cu,4,none⟩→w.cell? a=some v→(w.setCell ⟨cu,4,none⟩ (.bool false)).cell? a=some v:=fun a v ha h=>(World.cell?_setCell_other _ _ _ _ (Ne.symm ha)).trans h
 have kv:=k _ _ (by simp [d4]) hv
 have k1:=k _ _ (by simp) h1
 have k2:=k _ _ (by simp) h2
 have k3:=k _ _ (by simp) h3
 have kn:=k _ _ (by simp [Ne.symm d1]) hn
 have kf0:=k _ _ (by simp [Ne.symm d2]) hf0
 have kf1:=k _ _ (by simp [Ne.symm d2]) hf1
 have yn:(w.setCell ⟨cu,4,none⟩ (.bool false)).frozen? ⟨cn,0,none⟩=false:=by simpa using zn
 have yf0:(w.setCell ⟨cu,4,none⟩ (.bool false)).frozen? ⟨cf,0,none⟩=false:=by simpa using zf0
 have yf1:(w.setCell ⟨cu,4,none⟩ (.bool false)).frozen? ⟨cf,1,none⟩=false:=by simpa using zf1
 generalize w.setCell ⟨cu,4,none⟩ (.bool false)=w1 at *
 go_region
 all_goals
  refine ⟨rfl,.returning,?_,.tuple #[],by simp [results,Tryz.results113],rfl,rfl,rfl⟩
  cases c₀
  simp_all
set_option maxHeartbeats 2000000 in
set_option maxRecDepth 100000 in
theorem zjz (cv cu cn cf:Nat) (at' co fa no fc ff:Int) (tr:Bool) (w:World)
 (hv:w.cell? ⟨cv,0,none⟩=some (.pointer (some ⟨cu,0,none⟩))) (h1:w.cell? ⟨cu,1,none⟩=some (.int .i64 at')) (h2:w.cell? ⟨cu,2,none⟩=some (.int .i64 co)) (h3:w.cell? ⟨cu,3,none⟩=some (.int .i64 fa)) (h4:w.cell? ⟨cu,4,none⟩=some (.bool tr))
 (hn:w.cell? ⟨cn,0,none⟩=some (.int .i64 no)) (hf0:w.cell? ⟨cf,0,none⟩=some (.int .i64 fc)) (hf1:w.cell? ⟨cf,1,none⟩=some (.int .i64 ff))
 (z4:w.frozen? ⟨cu,4,none⟩=false) (zn:w.frozen? ⟨cn,0,none⟩=false) (zf0:w.frozen? ⟨cf,0,none⟩=false) (zf1:w.frozen? ⟨cf,1,none⟩=false)
 (d1:cu≠cn) (d2:cu≠cf) (d3:cn≠cf) (d4:cv≠cu) (d5:cv≠cn) (d6:cv≠cf) :
 CallsD Tryz.prog 113 #[.pointer (some ⟨cv,0,none⟩),.pointer (some ⟨cn,0,none⟩),.pointer (some ⟨cf,0,none⟩)] (.panicking [{ v:=.iface 166 (.agg #[.pointer (some ⟨cu,0,none⟩)]),recovered:=false }]) w fun e u' w'=>e = .returned (.tuple #[])∧u' = .panicking [{ v:=.iface 166 (.agg #[.pointer (some ⟨cu,0,none⟩)]),recovered:=true }]∧w'=(((((w.setCell ⟨cu,4,none⟩ (.bool false)).alloc (.cells #[.pointer (some ⟨cu,0,none⟩)] 166)).setCell ⟨cn,0,none⟩ (.int .i64 at')).setCell ⟨cf,0,none⟩ (.int .i64 co)).setCell ⟨cf,1,none⟩ (.int .i64 fa)).drew:=by
 have mixed:Tryz.prog.follows .mixedOrders=true:=by kernel_rfl
 refine callsD_of_wpS Tryz.func113 rfl fun c₀ cs hu => ?_
 apply wpS_seq
 apply wpS_region
 simp [wpOpsS,go_sem,recoverD,hu,Tryz.ntmps113,Exit.thenS,hv,h4,z4]
 have k:∀ (a:Addr) (v:Value),a≠⟨cu,4,none⟩→w.cell? a=some v→(w.setCell ⟨cu,4,none⟩ (.bool false)).cell? a=some v:=fun a v ha h=>(World.cell?_setCell_other _ _ _ _ (Ne.symm ha)).trans h
 have kv:=k _ _ (by simp [d4]) hv
 have k1:=k _ _ (by simp) h1
 have k2:=k _ _ (by simp) h2
 have k3:=k _ _ (by simp) h3
 have kn:=k _ _ (by simp [Ne.symm d1]) hn
 have kf0:=k _ _ (by simp [Ne.symm d2]) hf0
 have kf1:=k _ _ (by simp [Ne.symm d2]) hf1
 have yn:(w.setCell ⟨cu,4,none⟩ (.bool false)).frozen? ⟨cn,0,none⟩=false:=by simpa using zn
 have yf0:(w.setCell ⟨cu,4,none⟩ (.bool false)).frozen? ⟨cf,0,none⟩=false:=by simpa using zf0
 have yf1:(w.setCell ⟨cu,4,none⟩ (.bool false)).frozen? ⟨cf,1,none⟩=false:=by simpa using zf1
 obtain ⟨j,hj,_⟩:=Option.map_eq_some_iff.1 (show (Tryz.prog.info? 164).map (·.size)=some 5 by kernel_rfl)
 have hneq:∀ w:World,(binOp .neq 145 (.pointer (some ⟨cu,0,none⟩)) (.pointer (some ⟨cu,0,none⟩))).run Tryz.prog w = .ok (.bool false) w:=fun w=>Lib.run_neq_ptr_same w _ Tryz.underlying145 hj
 have hta:∀ w:World,(Instr.typeAssert (.iface 166 (.agg #[.pointer (some ⟨cu,0,none⟩)])) 20 166 true).run Tryz.prog w = .ok (.tuple #[.agg #[.pointer (some ⟨cu,0,none⟩)],.bool true]) w:=fun _=>rfl
 generalize w.setCell ⟨cu,4,none⟩ (.bool false)=w1 at *
 apply wpS_seq
 apply wpS_seq
 apply wpS_region
 simp [wpOpsS,go_sem,recoverD,hu,Exit.thenS]
 apply wpS_seq
 apply wpS_region
 simp [wpOpsS,go_sem,recoverD,hu,Exit.thenS]
 refine wpS_cond (t:=true) (by simp [Act.eval,Array.replicate]) ?_
 simp only [if_true]
 apply wpS_seq
 apply wpS_region
 simp [wpOpsS,go_sem,recoverD,hu,Exit.thenS,hta]
 have lv:cv<w1.heap.size:=World.block_lt_of_cell? _ _ kv
 have lu:cu<w1.heap.size:=World.block_lt_of_cell? _ _ k1
 have ln:cn<w1.heap.size:=World.block_lt_of_cell? _ _ kn
 have lf:cf<w1.heap.size:=World.block_lt_of_cell? _ _ kf0
 have hnew:(w1.alloc (.cells #[.pointer (some ⟨cu,0,none⟩)] 166)).cell? ⟨w1.heap.size,0,none⟩=some (.pointer (some ⟨cu,0,none⟩)):=by simp
 replace kv:=(World.cell?_alloc_past (.cells #[.pointer (some ⟨cu,0,none⟩)] 166) cv 0 lv).trans kv
 replace k1:=(World.cell?_alloc_past (.cells #[.pointer (some ⟨cu,0,none⟩)] 166) cu 1 lu).trans k1
 replace k2:=(World.cell?_alloc_past (.cells #[.pointer (some ⟨cu,0,none⟩)] 166) cu 2 lu).trans k2
 replace k3:=(World.cell?_alloc_past (.cells #[.pointer (some ⟨cu,0,none⟩)] 166) cu 3 lu).trans k3
 replace kn:=(World.cell?_alloc_past (.cells #[.pointer (some ⟨cu,0,none⟩)] 166) cn 0 ln).trans kn
 replace kf0:=(World.cell?_alloc_past (.cells #[.pointer (some ⟨cu,0,none⟩)] 166) cf 0 lf).trans kf0
 replace kf1:=(World.cell?_alloc_past (.cells #[.pointer (some ⟨cu,0,none⟩)] 166) cf 1 lf).trans kf1
 replace yn:=(World.frozen?_alloc_past (.cells #[.pointer (some ⟨cu,0,none⟩)] 166) cn 0 ln).trans yn
 replace yf0:=(World.frozen?_alloc_past (.cells #[.pointer (some ⟨cu,0,none⟩)] 166) cf 0 lf).trans yf0
 replace yf1:=(World.frozen?_alloc_past (.cells #[.pointer (some ⟨cu,0,none⟩)] 166) cf 1 lf).trans yf1
 generalize w1.heap.size=q at *
 generalize w1.alloc (.cells #[.pointer (some ⟨cu,0,none⟩)] 166)=w2 at *
 apply wpS_seq
 apply wpS_region
 simp [wpOpsS,go_sem,recoverD,hu,Exit.thenS,hnew,kv,hneq]
 refine wpS_cond (t:=false) (by simp [Act.eval,Array.replicate]) ?_
 simp only [Bool.false_eq_true,if_false]
 refine wpS_of_wp (wp_skip ?_)
 simp only [Exit.thenS]
 refine wpS_of_wp ?_
 go_region
 all_goals
  refine ⟨rfl,.panicking [{ v:=.iface 166 (.agg #[.pointer (some ⟨cu,0,none⟩)]),recovered:=true }],?_,.tuple #[],by simp [results,Tryz.results113],rfl,rfl,rfl⟩
  cases c₀
  simp_all
theorem zs9 {W:World→Prop} {F:sdenL [.sl .u8 .unk]→Option (RV.one (.sl .u8 .unk)).den} (hcl:FnOK Tryz.prog W 54 [.sl .u8 .unk] (.one (.sl .u8 .unk)) F) (hF:∀ l:List UInt8,l.length≤70368744177664→F (l,())=some l)
 {B0:Nat} {w0:Wd} {G:GS} {h:H} {w:World} (s:St B0 w0 G h w) (hw:W w) {u:Value} {l:List UInt8} {c:Cap} (hu:RepV w G u (.sl .u8 l c)) (hl:l.length≤70368744177664) :
 Calls Tryz.prog 54 #[u] w fun e w'=>∃ A cc G',e = .returned (.slice A l.length cc)∧Ext G.base G G'∧Keep G.D w w'∧St B0 w0 G' h w'∧RepV w' G' (.slice A l.length cc) (.sl .u8 l .unk):=by
 have he:Enters Tryz.prog 54:=enters Tryz.func54 (by kernel_rfl) (by decide)
 have hu':RepL w ⟨G.D,[],[],[],[],bv0⟩ (#[u]:Array Value).toList (sencL [.sl .u8 .unk] (l,())):=by
  refine ⟨rfl,fun i v a hv ha => ?_⟩
  match i,hv,ha with
  | 0,hv,ha =>
   cases hv; cases ha
   cases hu with
   | sl _ _ _ _ hc _=>exact .sl .u8 l .unk u hc trivial
  | i+1,hv,ha=>simp at hv
 rcases hcl (l,()) l (hF l hl) w G.D #[u] hw hu' (fun b o x=>(s.dat b o x).1) with ⟨h1,h2⟩ | ⟨v,w',h1,h2⟩
 · refine (callsIn_wide.1 h2).mono fun e w' hR => ?_
   cases e with
   | returned v =>
    obtain ⟨av,G',h',x,kp,st,rv,hk⟩:=zfq s hR (k:=fun a h1=>some (a,h1)) rfl
    simp only [Option.some.injEq,Prod.mk.injEq] at hk
    obtain ⟨rfl,rfl⟩:=hk
    obtain ⟨A,cc,rfl⟩:∃ A cc,v = .slice A l.length cc:=by
     have rv:RepV w' G' v (.sl .u8 l .unk):=rv
     cases rv with
     | sl _ _ _ _ hc _ =>
      simp only [RepC] at hc
      obtain ⟨_,A,cc,_,hv,_⟩:=hc
      exact ⟨A,cc,by simpa using hv⟩
    refine ⟨A,cc,G',rfl,x,kp,?_,rv⟩
    have e:h.tk++(mat [] ((RV.one (.sl .u8 .unk)).enc l)).2=h.tk:=List.append_nil _
    rw [e] at st
    exact st
   | panicked ch=>exact hR.elim
   | outgrown=>exact hR.elim
 · rw [he #[u] w] at h1; cases h1
theorem zff {n f:Nat} {a c i:Int} {W:World} (h0:W.cell? ⟨n,0,none⟩=some (.int .i64 a)) (h1:W.cell? ⟨f,0,none⟩=some (.int .i64 c)) (h2:W.cell? ⟨f,1,none⟩=some (.int .i64 i)) {tmps:Array Value}
 (t4:tmps[4]?.getD undef = .pointer (some ⟨n,0,none⟩)) (t5:tmps[5]?.getD undef = .pointer (some ⟨f,0,none⟩)):(results Tryz.f81 tmps).run Tryz.prog W = .ok (.tuple #[.int .i64 a,.agg #[.int .i64 c,.int .i64 i]]) W:=by
 simp [results,Tryz.results81,go_sem,t4,t5,h0,h1,h2]
set_option maxHeartbeats 4000000 in
set_option maxRecDepth 100000 in
theorem zuk {W:World→Prop} {F:sdenL [.sl .u8 .unk]→Option (RV.one (.sl .u8 .unk)).den} (hcl:FnOK Tryz.prog W 54 [.sl .u8 .unk] (.one (.sl .u8 .unk)) F) (hF:∀ l:List UInt8,l.length≤70368744177664→F (l,())=some l):PrOK Tryz.prog W 81 (.tryp 166):=by
 intro X B0 w0 G h w vals l c f first cap k r hW hlen s hr hyp
 have he:Enters Tryz.prog 81:=enters Tryz.func81 (by kernel_rfl) (by decide)
 obtain ⟨u,g,hvals,ru,rg⟩:=hr.two
 have hvals':vals=#[u,g]:=Array.ext' (by simpa using hvals)
 subst hvals'
 cases rg with
 | fn _ x y _ _ hx hx1 hy hy1 =>
 refine ⟨he _ _,callsIn_wide.2 ?_⟩
 have i0:∀ (w:World) (G:GS) (k:Int),RepV w G (.int .i64 k) (.int .i64 k):=fun w G k => .int _ _ (by simp)
 obtain ⟨G1,x1,k1,s1,b1,v1⟩:=s.newBox (vs:=#[.int .i64 0]) (cs:=[.int .i64 0]) (.cons (i0 _ _ _) .nil) 3 rfl
 obtain ⟨G2,x2,k2,s2,b2,v2⟩:=s1.newBox (vs:=#[.int .i64 0,.int .i64 0]) (cs:=[.int .i64 0,.int .i64 0]) (.cons (i0 _ _ _) (.cons (i0 _ _ _) .nil)) 76 rfl
 have hc:=zs9 hcl hF s2 (hW _ s2.below) ((ru.mono x1 k1).mono x2 k2) hlen
 have hmf:∀ (fn:Fn) (first cap:Array Value) (w:World),(Instr.makeFunc fn first cap).run Tryz.prog w = .ok (.func fn first cap) w:=fun _ _ _ _=>rfl
 have hnil:∀ (fn:Fn) (a b:Array Value) (w:World),(binOp BinOp.eql 151 (.func fn a b) .nilFunc).run Tryz.prog w = .ok (.bool false) w:=fun _ _ _ _=>by kernel_rfl
 go_enter_defers Tryz.func81,Tryz.ntmps81
 go_wp2_with (first | (go_at_call 54; refine hc.mono ?_; rintro e w3 ⟨A,cc,G3,rfl,x3,k3,s3,rv⟩) | (go_at_call 112; go_in))
 obtain ⟨G4,x4,s4⟩:=s3.addHole
 have hcur:RepL w3 G4 (#[.slice A l.length cc,.int .i64 0,.int .i64 0,.int .i64 0,.bool true]:Array Value).toList [.sl .u8 l .unk,.int .i64 0,.int .i64 0,.int .i64 0,.bool true]:=
  .cons (rv.mono x4 (Keep.refl _ _)) (.cons (i0 _ _ _) (.cons (i0 _ _ _) (.cons (i0 _ _ _) (.cons (.bool _) .nil))))
 obtain ⟨G5,x5,k5,s5,b5,v5⟩:=s4.newBox hcur 164 rfl
 have l3:(h.bx++[[AV.int IntKind.i64 0]]++[[AV.int IntKind.i64 0,AV.int IntKind.i64 0]]++[hole]).length=h.bx.length+3:=by simp
 simp only [l3] at b5 v5
 obtain ⟨G6,x6,k6,s6,b6,v6⟩:=s5.fill (q:=h.bx.length+2) (by simp) (vs:=#[.pointer (some ⟨w3.heap.size,0,none⟩)]) (cs:=[.ref (h.bx.length+3) 0]) (.cons (.ref _ _ _ b5 v5) .nil) 145 rfl
 have ebx:(h.bx++[[AV.int IntKind.i64 0]]++[[AV.int IntKind.i64 0,AV.int IntKind.i64 0]]++[hole]++[[AV.sl .u8 l .unk,AV.int .i64 0,AV.int .i64 0,AV.int .i64 0,AV.bool true]]).set (h.bx.length+2) [AV.ref (h.bx.length+3) 0]=h.bx++tryBx h.bx.length l:=by
  simp [tryBx,List.set_append]
 simp only [ebx] at s6
 have y2:=x1.trans (x2.mono (zaa x1))
 have y3:=y2.trans (x3.mono (zaa y2))
 have y4:=y3.trans (x4.mono (zaa y3))
 have y5:=y4.trans (x5.mono (zaa y4))
 have y6:=y5.trans (x6.mono (zaa y5))
 have z2:=k1.trans x1.D k2
 have z3:=z2.trans y2.D k3
 have z5:=z3.trans y4.D k5
 have z6:=z5.trans y5.D k6
 obtain ⟨c5,u5⟩:=x6.keepB b5 v5
 obtain ⟨b1,v1⟩:=x2.keepB b1 v1
 obtain ⟨b1,v1⟩:=x3.keepB b1 v1
 obtain ⟨b1,v1⟩:=x4.keepB b1 v1
 obtain ⟨b1,v1⟩:=x5.keepB b1 v1
 obtain ⟨b1,v1⟩:=x6.keepB b1 v1
 simp only [List.length_append,List.length_cons,List.length_nil] at b2 v2
 obtain ⟨b2,v2⟩:=x3.keepB b2 v2
 obtain ⟨b2,v2⟩:=x4.keepB b2 v2
 obtain ⟨b2,v2⟩:=x5.keepB b2 v2
 obtain ⟨b2,v2⟩:=x6.keepB b2 v2
 have hs2:(w.alloc (.cells #[.int .i64 0] 3)).heap.size=w.heap.size+1:=Array.size_push ..
 have hs6:(w3.alloc (.cells #[.slice A l.length cc,.int .i64 0,.int .i64 0,.int .i64 0,.bool true] 164)).heap.size=w3.heap.size+1:=Array.size_push ..
 rw [hs2] at b2
 rw [hs6] at b6
 have facts:∀ {G':GS} {h':H} {w':World},Ext G6.base G6 G'→St B0 w0 G' h' w'→∀ {τ:Ty} {l':List τ.den} {sc:Cap} {ra rc ri rx0 ry0 rz0:Int} {rt:Bool},h'.bx[h.bx.length+3]? = some [.sl τ l' sc,.int .i64 ra,.int .i64 rc,.int .i64 ri,.bool rt]→h'.bx[h.bx.length+2]? = some [.ref (h.bx.length+3) 0] →
  h'.bx[h.bx.length+1]? = some [.int .i64 ry0,.int .i64 rz0]→h'.bx[h.bx.length]? = some [.int .i64 rx0] →
  (G'.bx[h.bx.length]? = some (some w.heap.size)∧G'.bx[h.bx.length+1]? = some (some (w.heap.size+1))∧G'.bx[h.bx.length+3]? = some (some w3.heap.size)) ∧
  w'.cell? ⟨w3.heap.size+1,0,none⟩=some (.pointer (some ⟨w3.heap.size,0,none⟩))∧w'.cell? ⟨w3.heap.size,1,none⟩=some (.int .i64 ra)∧w'.cell? ⟨w3.heap.size,2,none⟩=some (.int .i64 rc)∧w'.cell? ⟨w3.heap.size,3,none⟩=some (.int .i64 ri)∧w'.cell? ⟨w3.heap.size,4,none⟩=some (.bool rt) ∧
  w'.cell? ⟨w.heap.size,0,none⟩=some (.int .i64 rx0)∧w'.cell? ⟨w.heap.size+1,0,none⟩=some (.int .i64 ry0)∧w'.cell? ⟨w.heap.size+1,1,none⟩=some (.int .i64 rz0) ∧
  w'.frozen? ⟨w3.heap.size,4,none⟩=false∧w'.frozen? ⟨w.heap.size,0,none⟩=false∧w'.frozen? ⟨w.heap.size+1,0,none⟩=false∧w'.frozen? ⟨w.heap.size+1,1,none⟩=false ∧
  w3.heap.size≠w.heap.size∧w3.heap.size≠w.heap.size+1∧w3.heap.size+1≠w.heap.size∧w3.heap.size+1≠w.heap.size+1:=by
  intro G' h' w' xx st τ l' sc ra rc ri rx0 ry0 rz0 rt e3 e2 e1 e0
  obtain ⟨p0,_⟩:=xx.keepB b1 v1
  obtain ⟨p1,_⟩:=xx.keepB b2 v2
  obtain ⟨p2,_⟩:=xx.keepB b6 v6
  obtain ⟨p3,_⟩:=xx.keepB c5 u5
  obtain ⟨x0,g0,r0,z0⟩:=st.cellI p0 e0 rfl (i:=0) rfl
  obtain ⟨x1,g1,r1,z1⟩:=st.cellI p1 e1 rfl (i:=0) rfl
  obtain ⟨x2,g2,r2,z2⟩:=st.cellI p1 e1 rfl (i:=1) rfl
  obtain ⟨x3,g3,r3,z3⟩:=st.cellI p2 e2 rfl (i:=0) rfl
  obtain ⟨x4,g4,r4,z4⟩:=st.cellI p3 e3 rfl (i:=1) rfl
  obtain ⟨x5,g5,r5,z5⟩:=st.cellI p3 e3 rfl (i:=2) rfl
  obtain ⟨x6,g6,r6,z6⟩:=st.cellI p3 e3 rfl (i:=3) rfl
  obtain ⟨x7,g7,r7,z7⟩:=st.cellI p3 e3 rfl (i:=4) rfl
  obtain ⟨rfl,_⟩:=zj r0
  obtain ⟨rfl,_⟩:=zj r1
  obtain ⟨rfl,_⟩:=zj r2
  obtain ⟨rfl,_⟩:=zj r4
  obtain ⟨rfl,_⟩:=zj r5
  obtain ⟨rfl,_⟩:=zj r6
  obtain rfl:=zaf r7
  have hx3:x3 = .pointer (some ⟨w3.heap.size,0,none⟩):=by
   cases r3 with
   | ref _ _ b hb hv =>
    rw [p3] at hb
    obtain rfl:=Option.some.inj (Option.some.inj hb)
    rfl
  subst hx3
  refine ⟨⟨p0,p1,p3⟩,g3,g4,g5,g6,g7,g0,g1,g2,z7,z0,z1,z2,fun e => ?_,fun e => ?_,fun e => ?_,fun e => ?_⟩
  · rw [e] at p3; have:=st.inj _ _ _ p3 p0; omega
  · rw [e] at p3; have:=st.inj _ _ _ p3 p1; omega
  · rw [e] at p2; have:=st.inj _ _ _ p2 p0; omega
  · rw [e] at p2; have:=st.inj _ _ _ p2 p1; omega
 have drewn:∀ w:World,w.grownBy w.drew none:=fun _=>⟨rfl,rfl,rfl,Nat.le_refl _,fun _ _ _=>rfl⟩
 have setb:∀ {bx:List (List AV)} {a b d e C D:List AV},bx[h.bx.length+3]? = some a→bx[h.bx.length+2]? = some b→bx[h.bx.length+1]? = some d→bx[h.bx.length]? = some e →
  (upd (upd bx h.bx.length C) (h.bx.length+1) D)[h.bx.length+3]? = some a∧(upd (upd bx h.bx.length C) (h.bx.length+1) D)[h.bx.length+2]? = some b∧(upd (upd bx h.bx.length C) (h.bx.length+1) D)[h.bx.length+1]? = some D∧(upd (upd bx h.bx.length C) (h.bx.length+1) D)[h.bx.length]? = some C:=by
  intro bx a b d e C D h3 h2 h1 h0
  have l1:=(List.getElem?_eq_some_iff.1 h1).1
  simp only [zk]
  refine ⟨?_,?_,?_,?_⟩
  · rw [List.getElem?_set_ne (by omega),List.getElem?_set_ne (by omega)]; exact h3
  · rw [List.getElem?_set_ne (by omega),List.getElem?_set_ne (by omega)]; exact h2
  · rw [List.getElem?_set,if_pos rfl,if_pos (by rw [List.length_set]; exact l1)]
  · rw [List.getElem?_set_ne (by omega),List.getElem?_set,if_pos rfl,if_pos (by omega)]
 have rx:RepL w G x.toList first:=⟨by simpa using hx,fun i v c hv hc=>hx1 i v c (by simpa using hv) hc⟩
 have ry:RepL w G y.toList cap:=⟨by simpa using hy,fun i v c hv hc=>hy1 i v c (by simpa using hv) hc⟩
 obtain ⟨g1,g2⟩:=hyp G6 _ (x.push (.pointer (some ⟨w3.heap.size,0,none⟩))++y) y6 z6 s6 (by
  rw [Array.toList_append,Array.toList_push]
  exact ((rx.mono y6 z6).append (.cons (.ref _ _ _ c5 u5) .nil)).append (ry.mono y6 z6))
 rw [g1,Oper.upon_enter]
 refine (callsIn_wide.1 g2).mono ?_
 intro e w' hE
 cases e with
 | outgrown=>exact hE.elim
 | returned v =>
  obtain ⟨av,G',h',xx,kx,st,rv',hk⟩:=hE
  obtain ⟨τ,l',sc,ra,rc,ri,rx0,ry0,rz0,rt,e3,e2,e1,e0,hk⟩:=zfe hk
  obtain ⟨⟨p0,p1,p3⟩,kv,kc1,kc2,kc3,kc4,kn,kf0,kf1,zc4,zn,zf0,zf1,d1,d2,d5,d6⟩:=facts xx st e3 e2 e1 e0
  obtain ⟨ka,sa⟩:=st.endTry (a:=ra) (c:=rc) (i:=ri) p0 p1 e0 e1
  have kb:=Keep.of_grown (drewn _) (fun b o x=>(sa.dat b o x).1) (fun _ _ _=>by simp)
  have sb:=sa.grown0 (drewn _)
  obtain ⟨m3,m2,m1,m0⟩:=setb (C:=[.int .i64 ra]) (D:=[.int .i64 rc,.int .i64 ri]) e3 e2 e1 e0
  obtain ⟨_,jv,j1,j2,j3,j4,jn,jf0,jf1,yc4,yn,yf0,yf1,_,_,_,_⟩:=facts xx sb m3 m2 m1 m0
  obtain ⟨kc,sc'⟩:=sb.setI (o:=4) (v:=.bool false) (a:=.bool false) p3 m3 rfl (.bool _) rfl rfl
  have n0:(upd (upd (upd h'.bx h.bx.length [.int .i64 ra]) (h.bx.length+1) [.int .i64 rc,.int .i64 ri]) (h.bx.length+3) [.sl τ l' sc,.int .i64 ra,.int .i64 rc,.int .i64 ri,.bool false])[h.bx.length]? = some [.int .i64 ra]:=by
   rw [zk _ (h.bx.length+3),List.getElem?_set_ne (by omega)]; exact m0
  have n1:(upd (upd (upd h'.bx h.bx.length [.int .i64 ra]) (h.bx.length+1) [.int .i64 rc,.int .i64 ri]) (h.bx.length+3) [.sl τ l' sc,.int .i64 ra,.int .i64 rc,.int .i64 ri,.bool false])[h.bx.length+1]? = some [.int .i64 rc,.int .i64 ri]:=by
   rw [zk _ (h.bx.length+3),List.getElem?_set_ne (by omega)]; exact m1
  obtain ⟨kd,sd⟩:=sc'.endTry (a:=ra) (c:=rc) (i:=ri) p0 p1 n0 n1
  have ke:=Keep.of_grown (drewn _) (fun b o x=>(sd.dat b o x).1) (fun _ _ _=>by simp)
  have se:=sd.grown0 (drewn _)
  have q3:h.bx.length+3<h'.bx.length:=(List.getElem?_eq_some_iff.1 e3).1
  rw [zop q3] at hk
  have n2:(upd (upd (upd h'.bx h.bx.length [.int .i64 ra]) (h.bx.length+1) [.int .i64 rc,.int .i64 ri]) (h.bx.length+3) [.sl τ l' sc,.int .i64 ra,.int .i64 rc,.int .i64 ri,.bool false])[h.bx.length+2]? = some [.ref (h.bx.length+3) 0]:=by
   rw [zk _ (h.bx.length+3),List.getElem?_set_ne (by omega)]; exact m2
  have n3:(upd (upd (upd h'.bx h.bx.length [.int .i64 ra]) (h.bx.length+1) [.int .i64 rc,.int .i64 ri]) (h.bx.length+3) [.sl τ l' sc,.int .i64 ra,.int .i64 rc,.int .i64 ri,.bool false])[h.bx.length+3]? = some [.sl τ l' sc,.int .i64 ra,.int .i64 rc,.int .i64 ri,.bool false]:=by
   rw [zk _ (h.bx.length+3),List.getElem?_set,if_pos rfl,if_pos (by simp only [zk,List.length_set]; exact q3)]
  obtain ⟨o3,o2,o1,o0⟩:=setb (C:=[.int .i64 ra]) (D:=[.int .i64 rc,.int .i64 ri]) n3 n2 n1 n0
  obtain ⟨_,t0,t1,t2,t3,t4,tn,tf0,tf1,_,_,_,_,_,_,_,_⟩:=facts xx se o3 o2 o1 o0
  go_wp2
  go_region
  go_wp2
  refine leaves_cons (f:=113) (args:=#[.pointer (some ⟨w3.heap.size+1,0,none⟩),.pointer (some ⟨w.heap.size,0,none⟩),.pointer (some ⟨w.heap.size+1,0,none⟩)]) (by simp) (by simp [go_sem]) ?_
  refine (zmx _ _ _ _ ra rc ri ra rc ri rt _ jv j1 j2 j3 j4 jn jf0 jf1 yc4 yn yf0 yf1 d1 d2 (by omega) (by omega) d5 d6).mono ?_
  rintro e u' w2 ⟨rfl,rfl,rfl⟩
  refine ⟨.tuple #[.int .i64 ra,.agg #[.int .i64 rc,.int .i64 ri]],?_,?_⟩
  · exact zff tn tf0 tf1 rfl rfl
  · have yx:=y6.trans (xx.mono (zaa y6))
    exact ⟨_,G',_,yx,(((((z6.trans y6.D kx).trans yx.D ka).trans yx.D kb).trans yx.D kc).trans yx.D kd).trans yx.D ke,se,zls _ _ _ _ _,hk⟩
 | panicked ch =>
  obtain ⟨b,G',h',rfl,hb,xx,kx,st,hk⟩:=hE
  obtain ⟨τ,l',sc,ra,rc,ri,rx0,ry0,rz0,rt,e3,e2,e1,e0,hk⟩:=zfe hk
  obtain ⟨⟨p0,p1,p3⟩,kv,kc1,kc2,kc3,kc4,kn,kf0,kf1,zc4,zn,zf0,zf1,d1,d2,d5,d6⟩:=facts xx st e3 e2 e1 e0
  obtain rfl:b=w3.heap.size:=by
   rw [c5] at hb
   rcases hb with hb | hb
   · exact (Option.some.inj (Option.some.inj hb)).symm
   · cases hb
  obtain ⟨ka,sa⟩:=st.setI (o:=4) (v:=.bool false) (a:=.bool false) p3 e3 rfl (.bool _) rfl rfl
  have hal:∀ (w:World) (o:Obj),w.grownBy (w.alloc o) none:=fun w o=>World.grownBy_alloc w _ none
  have kb:=Keep.of_grown (hal _ (.cells #[.pointer (some ⟨w3.heap.size,0,none⟩)] 166)) (fun b o x=>(sa.dat b o x).1) (fun _ _ _=>by simp)
  have sb:=sa.grown0 (hal _ (.cells #[.pointer (some ⟨w3.heap.size,0,none⟩)] 166))
  have q3:h.bx.length+3<h'.bx.length:=(List.getElem?_eq_some_iff.1 e3).1
  have n0:(upd h'.bx (h.bx.length+3) [.sl τ l' sc,.int .i64 ra,.int .i64 rc,.int .i64 ri,.bool false])[h.bx.length]? = some [.int .i64 rx0]:=by
   rw [zk,List.getElem?_set_ne (by omega)]; exact e0
  have n1:(upd h'.bx (h.bx.length+3) [.sl τ l' sc,.int .i64 ra,.int .i64 rc,.int .i64 ri,.bool false])[h.bx.length+1]? = some [.int .i64 ry0,.int .i64 rz0]:=by
   rw [zk,List.getElem?_set_ne (by omega)]; exact e1
  have n2:(upd h'.bx (h.bx.length+3) [.sl τ l' sc,.int .i64 ra,.int .i64 rc,.int .i64 ri,.bool false])[h.bx.length+2]? = some [.ref (h.bx.length+3) 0]:=by
   rw [zk,List.getElem?_set_ne (by omega)]; exact e2
  have n3:(upd h'.bx (h.bx.length+3) [.sl τ l' sc,.int .i64 ra,.int .i64 rc,.int .i64 ri,.bool false])[h.bx.length+3]? = some [.sl τ l' sc,.int .i64 ra,.int .i64 rc,.int .i64 ri,.bool false]:=by
   rw [zk,List.getElem?_set,if_pos rfl,if_pos q3]
  obtain ⟨kd,sd⟩:=sb.endTry (a:=ra) (c:=rc) (i:=ri) p0 p1 n0 n1
  have ke:=Keep.of_grown (drewn _) (fun b o x=>(sd.dat b o x).1) (fun _ _ _=>by simp)
  have se:=sd.grown0 (drewn _)
  obtain ⟨o3,o2,o1,o0⟩:=setb (C:=[.int .i64 ra]) (D:=[.int .i64 rc,.int .i64 ri]) n3 n2 n1 n0
  obtain ⟨_,t0,t1,t2,t3,t4,tn,tf0,tf1,_,_,_,_,_,_,_,_⟩:=facts xx se o3 o2 o1 o0
  simp only [Exit.then,bodyPostD]
  refine leaves_cons (f:=113) (args:=#[.pointer (some ⟨w3.heap.size+1,0,none⟩),.pointer (some ⟨w.heap.size,0,none⟩),.pointer (some ⟨w.heap.size+1,0,none⟩)]) (by simp) (by simp [go_sem]) ?_
  refine (zjz _ _ _ _ ra rc ri rx0 ry0 rz0 rt _ kv kc1 kc2 kc3 kc4 kn kf0 kf1 zc4 zn zf0 zf1 d1 d2 (by omega) (by omega) d5 d6).mono ?_
  rintro e u' w2 ⟨rfl,rfl,rfl⟩
  refine ⟨.tuple #[.int .i64 ra,.agg #[.int .i64 rc,.int .i64 ri]],?_,?_⟩
  · exact zff tn tf0 tf1 rfl rfl
  · have yx:=y6.trans (xx.mono (zaa y6))
    exact ⟨_,G',_,yx,(((((z6.trans y6.D kx).trans yx.D ka).trans yx.D kb)).trans yx.D kd).trans yx.D ke,se,zls _ _ _ _ _,hk⟩
end Go.AM
set_option linter.unusedVariables false
set_option linter.unusedSimpArgs false
namespace Go.Proofs
open Go.RowKit Go.AM
set_option maxHeartbeats 6400000 in
set_option maxRecDepth 100000 in
theorem Tryz.words_call (w:World):Calls Tryz.prog 192 #[] w fun e w'=>e = .returned (.map (some w.heap.size))∧w'=w.alloc (.map wordsMap 4):=by
 have mixed:Tryz.prog.follows .mixedOrders:=by kernel_rfl
 have h0:(Instr.makeMap 277 none).run Tryz.prog w = .ok (.map (some w.heap.size)) (w.alloc (.map #[] 0)):=rfl
 have up:=fun es c key v h=>ziq (P:=Tryz.prog) (t:=277) (k:=3) (e:=9) Tryz.underlying277 Tryz.underlying3 w es c key v h
 have h1:=up #[] 0 1 (.string ⟨#[99]⟩) (by simp)
 have h2:=up #[⟨.int .i64 1,.string ⟨#[99]⟩,0⟩] 1 2 (.string ⟨#[103]⟩) (by simp)
 have h3:=up #[⟨.int .i64 1,.string ⟨#[99]⟩,0⟩,⟨.int .i64 2,.string ⟨#[103]⟩,1⟩] 2 3 (.string ⟨#[109,115]⟩) (by simp)
 have h4:=up #[⟨.int .i64 1,.string ⟨#[99]⟩,0⟩,⟨.int .i64 2,.string ⟨#[103]⟩,1⟩,⟨.int .i64 3,.string ⟨#[109,115]⟩,2⟩] 3 4 (.string ⟨#[104]⟩) (by simp)
 clear up
 simp only [List.push_toArray,List.nil_append,List.cons_append] at h1 h2 h3 h4
 go_enter Tryz.func192,Tryz.ntmps192
 go_wp2
 go_ret
 exact ⟨rfl,rfl⟩
set_option maxHeartbeats 6400000 in
set_option maxRecDepth 100000 in
theorem Tryz.statsd_Word (k:Int) (w:World):Calls Tryz.prog 135 #[.int .i64 k] w fun e w'=>e = .returned (.tuple #[.string ⟨(wordL k).toArray⟩,.int .i64 (wordE k)])∧Below w.heap.size w w':=by
 have mixed:Tryz.prog.follows .mixedOrders:=by kernel_rfl
 have e1:∀ args w,(callFunc 192 args).run Tryz.prog w = .ok (.enter 192 args) w:=enters_of Tryz.func192 (by kernel_rfl) rfl
 have hz:∀ w',(zeroValue 9).run Tryz.prog w' = .ok (.string ⟨#[]⟩) w':=fun w'=>by rfl
 obtain ⟨v,b,hv,hb,hvb,hl⟩:∃ (v:List UInt8) (b:Bool),v=wordL k∧b=decide (k=1∨k=2∨k=3∨k=4)∧(b=false→v=[])∧(Instr.lookup 277 (.map (some w.heap.size)) (.int .i64 k) true).run Tryz.prog (w.alloc (.map wordsMap 4)) = .ok (.tuple #[.string ⟨v.toArray⟩,.bool b]) (w.alloc (.map wordsMap 4)):=by
  by_cases h1:k=1
  · subst h1; exact ⟨[99],true,rfl,rfl,(fun h=>by cases h),zb1 (P:=Tryz.prog) (k:=3) (e:=9) Tryz.underlying277 Tryz.underlying3 w wordsMap 4 1 (i:=0) rfl rfl⟩
  by_cases h2:k=2
  · subst h2; exact ⟨[103],true,rfl,rfl,(fun h=>by cases h),zb1 (P:=Tryz.prog) (k:=3) (e:=9) Tryz.underlying277 Tryz.underlying3 w wordsMap 4 2 (i:=1) rfl rfl⟩
  by_cases h3:k=3
  · subst h3; exact ⟨[109,115],true,rfl,rfl,(fun h=>by cases h),zb1 (P:=Tryz.prog) (k:=3) (e:=9) Tryz.underlying277 Tryz.underlying3 w wordsMap 4 3 (i:=2) rfl rfl⟩
  by_cases h4:k=4
  · subst h4; exact ⟨[104],true,rfl,rfl,(fun h=>by cases h),zb1 (P:=Tryz.prog) (k:=3) (e:=9) Tryz.underlying277 Tryz.underlying3 w wordsMap 4 4 (i:=3) rfl rfl⟩
  refine ⟨[],false,?_,?_,(fun _=>rfl),zir (P:=Tryz.prog) (k:=3) (e:=9) Tryz.underlying277 Tryz.underlying3 w wordsMap 4 k ?_ hz⟩
  · unfold wordL; rw [if_neg h1,if_neg h2,if_neg h3,if_neg h4]
  · simp [h1,h2,h3,h4]
  · intro x hx
    simp only [wordsMap,List.mem_cons,List.mem_nil_iff,or_false] at hx
    rcases hx with rfl | rfl | rfl | rfl
    · exact ⟨1,rfl,Ne.symm h1⟩
    · exact ⟨2,rfl,Ne.symm h2⟩
    · exact ⟨3,rfl,Ne.symm h3⟩
    · exact ⟨4,rfl,Ne.symm h4⟩
 have hE:wordE k=if b then 0 else 16:=by subst hb; unfold wordE; simp
 rw [← hv,hE]
 clear hv hE hb hz
 cases b
 · obtain rfl:=hvb rfl
   go_enter Tryz.func135,Tryz.ntmps135
   go_wp2_with (go_at_fn 192; refine (Tryz.words_call _).mono ?_; rintro e w' ⟨rfl,rfl⟩)
   all_goals go_ret2
   all_goals exact ⟨rfl,zh7 _⟩
 · go_enter Tryz.func135,Tryz.ntmps135
   go_wp2_with (go_at_fn 192; refine (Tryz.words_call _).mono ?_; rintro e w' ⟨rfl,rfl⟩)
   all_goals go_ret2
   all_goals exact ⟨rfl,zh7 _⟩
end Go.Proofs
