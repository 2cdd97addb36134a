/- Part 4 of a proof by the abstract machine. -/
import Derived.Test.YtodkiaiclgdifaaGreatDoorQ3
import Derived.Shelf.Strings.Builder1
import Derived.Shelf.Strings.Builder2
import Derived.Shelf.Strings.OnBuilder
import Derived.Shelf.Strings.Trim
import Derived.Shelf.Small.Utf8
import Derived.Shelf.Small.Bits
import Derived.Shelf.Small.Strs
import Derived.Shelf.Small.Wraps
import Derived.Shelf.Strings.BuilderF
import Derived.Shelf.Strings.BuilderK
import Derived.Shelf.Utf8.RuneCount
import Derived.Shelf.Strings.Builder2Cap
import Derived.Shelf.Strconv.Atoi
import Derived.Shelf.Strconv.Itoa0
import Derived.Shelf.Strconv.Itoa1
import Derived.Shelf.LaysM
import Derived.Shelf.Strconv.Itoa2
import Derived.Shelf.Strconv.Itoa3
import Derived.Shelf.Strconv.AtoiErrFast
import Derived.Shelf.Strconv.ParseIntEmpty
import Derived.Shelf.Strconv.AtoiFail
import Derived.Shelf.Strconv.Clone
import Derived.Shelf.Strconv.SyntaxError
import Derived.Shelf.LaysC
import Derived.Shelf.Strconv.ToError
import Derived.Shelf.Strconv.AtoiErr
import Derived.Shelf.Strconv.ErrVar
import Derived.Shelf.Strconv.Lower
import Derived.Shelf.Strconv.ParseUint10
import Derived.Shelf.Strconv.ParseUint10Empty
import Derived.Shelf.Strconv.ParseUint10Any
import Derived.Shelf.Strconv.ParseInt10
import Derived.Shelf.Strconv.AtoiLong
import Derived.Shelf.Strconv.AtoiInnerAll
import Derived.Shelf.Strconv.RangeError
import Derived.Shelf.Strconv.ToErrorRange
import Derived.Shelf.Strconv.AtoiAll
import Derived.Shelf.Strconv.ErrVarAll
import Derived.Shelf.Strconv.ParseUintEmpty
import Derived.Shelf.Strconv.ParseUint10b64
import Derived.Shelf.Strconv.ParseUint10b32
import Derived.Shelf.Strconv.ParseUint10b16
import Derived.Shelf.Strconv.ParseUint10b8
import Derived.Shelf.Strconv.ParseUint10At
import Derived.Shelf.Strconv.ParseInt10At64
import Derived.Shelf.Strconv.ParseInt10At32
import Derived.Shelf.Strconv.ParseInt10At16
import Derived.Shelf.Strconv.ParseInt10At8
import Derived.Shelf.Strings.Search1
import Derived.Shelf.Strings.Search2
import Derived.Shelf.Strings.Search3
import Derived.Shelf.Strings.Cut
import Derived.Shelf.Strings.Count
import Derived.Shelf.Strings.Shaped
import Derived.Shelf.Strings.Prefix
import Derived.Shelf.Strings.Split
import Derived.Shelf.Strings.SplitShaped
import Derived.Shelf.Unicode.Decode
import Derived.Shelf.Strings.Runes
import Derived.Shelf.Strings.RuneCount
import Derived.Shelf.Strings.AsciiSet
import Derived.Shelf.Strings.Explode
import Derived.Shelf.Bits.Mul64
import Derived.Shelf.Strings.Repeat
import Derived.Shelf.Unicode.DecodeSlow
import Derived.Shelf.Unicode.DecodeAny
import Derived.Shelf.Unicode.DecodeLast
import Derived.Shelf.Strings.BuilderCap
import Derived.Shelf.Bytes.SlSearch0
import Derived.Ground.SlbCloneProg
import Derived.Shelf.Bytes.SlClone
import Derived.Ground.SlbNamesProg
import Derived.Shelf.Bytes.SlJoin
import Derived.Shelf.Bytes.SlEqualAll
import Derived.Shelf.Bytes.Small
import Derived.Shelf.SlGeneric
import Derived.Ground.SlsfProg
import Derived.Shelf.SlSortCmp.WholeK
import Derived.Test.YtodkiaiclgdifaaGreatDoorProg
import Derived.Lib.AppendIntMem
import Derived.Lib.ItoaMem
import Derived.Lib.Walk
import Derived.WalkKit
import Derived.BigCall
import Derived.BigGuard
import Derived.Lib.IndexBytes
import Derived.Shelf.Strings.BuilderX
import Derived.Lib.Builder
import Derived.Lib.UnsafeStr
import Derived.Laws.Externs
import Derived.Shelf.RegionOpenPlain
open Go.IntKind renaming wrap→afv
open Nat renaming beq→afw
open UInt8 renaming ofNat→afy
open Go.Shelf renaming Ren→afz
open Go.Lib renaming nDigits→afB,countB→afD,decDigits→afF,cell_of_heap→afG,zeros24→afK,pow10Tab→afO
open Array renaming size_replicate→afC,getElem?_modify→afJ
open Go.Value renaming int→afM
open List renaming isEmpty→afN
open Go.Oper renaming upon_value→afP
open Go.Result renaming andThen→afQ
set_option linter.unusedVariables false
namespace Go.AM
abbrev Y0:Ty:=.int .u64
abbrev Y1:Ty:=.int .i64
abbrev Y2:Ty:=.agg [.bool,Y0,Y1]
abbrev Y3:Ty:=.agg [.str,.str]
abbrev Y4:Ty:=.sl Y2
abbrev Y5:Ty:=.sl Y3
abbrev Y6:Ty:=.agg [.str,Y1,Y4,Y1,Y5,Y1]
abbrev Y7:Ty:=.sl Y6
abbrev Y8:Ty:=.agg [Y1,Y1]
abbrev Y9:Ty:=.int .u32
abbrev Ms:Ty:=.agg [.u8,Y1]
abbrev Y11:Ty:=.agg [Ms,Ms,Ms]
abbrev Y12:Ty:=.agg [Y6]
abbrev Y13:Ty:=.agg [(.sl .u8),Y1,Y8,.bool]
abbrev Y14:Ty:=.agg [Y6,Y1,Y1]
abbrev Y15:Ty:=.agg [Y1,.str,.bool]
abbrev Y16:Ty:=.agg [.u8,.u8]
abbrev Y17:Ty:=.agg [.str,.str,.str,.str,.str,.str]
abbrev Z0:Type:=List UInt8
abbrev Z1:Type:=(Bool)×(Int)×(Int)
abbrev Z2:Type:=List (Z1)
abbrev Z3:Type:=(Z0)×(Z0)
abbrev Z4:Type:=List (Z3)
abbrev Z5:Type:=(Z0)×(Int)×(Z2)×(Int)×(Z4)×(Int)
abbrev Z6:Type:=List (Z5)
abbrev Z7:Type:=List (UInt8)
abbrev Z8:Type:=List (Z7)
abbrev Z9:Type:=(Z0)×(Int)×(Z2)×(Int)×(Z4)×(Int)×Unit
abbrev bF:Type:=List (Z0)
abbrev eF:Type:=List (List UInt8×Int)
abbrev me:Type:=Nat×Nat
abbrev yM:Type:=Nat×List (Z1)
abbrev C7:Type:=(Bool)×(Int)×(Int)×Unit
abbrev E5:Type:=((Z9)×Unit)×(Unit)
abbrev W3:Type:=(E5)×(Int)×(E5)×(Int)×(E5)×(Int)×(E5)×(Int)×(E5)×(Int)×(E5)×(Int)×Unit
abbrev oe:Type:=(Int)×(Int)×Unit
abbrev Mt:Type:=(Z0)×(Z0)×Unit
abbrev sS:Type:=Nat×List (Z3)
abbrev qj:Type:=List (Bool)
abbrev AG:Type:=Nat×List (UInt8)
abbrev Mu:Type:=(Z0)×(Z0)×(Z0)×(Z0)×(Z0)×(Z0)×Unit
abbrev W4:Type:=(Int)×(Int)×(Int)×(Int)×(Int)×(Int)×Unit
abbrev W5:Type:=(Z0)×(Unit)×(Z0)×(Unit)×(Z0)×(Unit)×Unit
noncomputable def F.jG.L4.step{X:Type}(n:Nat)(rec:Int→Z0→Int→Z2→Int→Z4→Int→Option X)(k0:Z0→Int→Z2→Int→Z4→Int→Option X)(kr:Bool→Z0→Int→Z2→Int→Z4→Int→Option X)(b:Int)(c:Z0)(d:Int)(e:Z2)(f:Int)(a:Z4)(g:Int):Option X:=
 bif decide (b<(a.length:Int))then
  (idx a b).bind fun h =>
   bif decide ((h.1.length:Int)>150)then
    kr false c d e f a g
   else
    (idx a b).bind fun i =>
     bif decide ((i.2.length:Int)>150)then
      kr false c d e f a g
     else
      rec (afv .i64 (b+1)) c d e f a g
 else
  k0 c d e f a g
noncomputable def F.jG.L4{X:Type}(n:Nat)(k0:Z0→Int→Z2→Int→Z4→Int→Option X)(kr:Bool→Z0→Int→Z2→Int→Z4→Int→Option X):Nat→Int→Z0→Int→Z2→Int→Z4→Int→Option X
 |0=>fun _ _ _ _ _ _ _=>none
 |m+1=>fun a b c d e f g=>F.jG.L4.step n (F.jG.L4 n k0 kr m) k0 kr a b c d e f g
noncomputable def F.jG(n:Nat)(a0:Z9):Option (Bool):=
 bif decide ((a0.1.length:Int)>300)then
  some (false)
 else
 bif decide ((a0.2.2.1.length:Int)>80)then
  some (false)
 else
 bif decide ((a0.2.2.2.2.1.length:Int)>40)then
  some (false)
 else
  F.jG.L4 n
   (fun b c d e f g =>
    some (true))
   (fun a h i j k l m =>
    some (a)) n 0 a0.1 a0.2.1 a0.2.2.1 a0.2.2.2.1 a0.2.2.2.2.1 a0.2.2.2.2.2.1
noncomputable def F.nz.L2.step{X:Type}(n:Nat)(rec:Z6→Int→Option X)(k0:Z6→Option X)(kr:Bool→Option X)(b:Z6)(c:Int):Option X:=
 bif decide (c<(b.length:Int))then
  bif decide (c<13)then
   (idx b c).bind fun a =>
    (F.jG n (a.1,a.2.1,a.2.2.1,a.2.2.2.1,a.2.2.2.2.1,a.2.2.2.2.2,())).bind fun d =>
     bif !d then
      kr false
     else
      rec b (afv .i64 (c+1))
  else
   k0 b
 else
  k0 b
noncomputable def F.nz.L2{X:Type}(n:Nat)(k0:Z6→Option X)(kr:Bool→Option X):Nat→Z6→Int→Option X
 |0=>fun _ _=>none
 |m+1=>fun a b=>F.nz.L2.step n (F.nz.L2 n k0 kr m) k0 kr a b
noncomputable def F.nz(n:Nat)(a0:Z6):Option (Bool):=
 F.nz.L2 n
  (fun a =>
   some (decide ((a.length:Int)≤12)))
  (fun b =>
   some (b)) n a0 0
noncomputable def F.wH(n:Nat)(a0:Int):Option (Bool):=
 bif decide (a0≥1)then
  some (decide (a0≤65536))
 else
  some (false)
noncomputable def F.uc(n:Nat)(a0:Z0)(a1:Z0):Option (Int):=
 (O.mM n a0 a1).bind fun a =>
  some (a)
noncomputable def F.qh(n:Nat)(a0:Z0)(a1:Z0):Option (Bool):=
 (F.uc n a0 a1).bind fun a =>
  some (decide (a≥0))
noncomputable def F.zj.L4.step{X:Type}(n:Nat)(rec:bF→Int→bF→Int→Int→Option X)(k0:bF→Int→Option X)(kr:Z8→Int→Int→Nat→Option X)(c:bF)(b:Int)(d:bF)(e:Int)(a:Int):Option X:=
 bif decide (a<e)then
  (idx d a).bind fun f =>
   (F.qh n f ([10])).bind fun g =>
    bif g then
     kr [] a 14 0
    else
    bif decide ((afv .i64 ((f.length:Int)+1))>b)then
     kr [] a 27 0
    else
     rec c b d e (afv .i64 (a+1))
 else
  k0 c b
noncomputable def F.zj.L4{X:Type}(n:Nat)(k0:bF→Int→Option X)(kr:Z8→Int→Int→Nat→Option X):Nat→bF→Int→bF→Int→Int→Option X
 |0=>fun _ _ _ _ _=>none
 |m+1=>fun a b c d e=>F.zj.L4.step n (F.zj.L4 n k0 kr m) k0 kr a b c d e
noncomputable def F.zj.br.step{X:Type}(n:Nat)(rec:Z7→Int→Int→bF→Int→Int→bF→Int→Z8→Nat→Nat→Option X)(k0:Z7→Int→Int→bF→Int→Z8→Nat→Nat→Option X)(c:Z7)(d:Int)(a:Int)(g:bF)(h:Int)(e:Int)(i:bF)(f:Int)(b:Z8)(j:Nat)(k:Nat):Option X:=
 bif decide (e<h)then
  (idx g e).bind fun l =>
   bif decide ((afv .i64 ((afv .i64 ((afv .i64 (a+(l.length:Int)))+1)) - d))>f)then
    bif a==a then
     (sub c d a).bind fun m =>
      bif decide ((b.length+1)*24≤2 ^ 46)&&decide (0<24∧24≤2 ^ 20)then
       bif afw k b.length then
        rec c a (afv .i64 ((afv .i64 (a+(l.length:Int)))+1)) g h (afv .i64 (e+1)) i f (b++([m])) j ((b++([m])).length)
       else
        none
      else
       none
    else
     none
   else
    rec c d (afv .i64 ((afv .i64 (a+(l.length:Int)))+1)) g h (afv .i64 (e+1)) i f b j k
 else
  k0 c d a i f b j k
noncomputable def F.zj.br{X:Type}(n:Nat)(k0:Z7→Int→Int→bF→Int→Z8→Nat→Nat→Option X):Nat→Z7→Int→Int→bF→Int→Int→bF→Int→Z8→Nat→Nat→Option X
 |0=>fun _ _ _ _ _ _ _ _ _ _ _=>none
 |m+1=>fun a b c d e f g h i j k=>F.zj.br.step n (F.zj.br n k0 m) k0 a b c d e f g h i j k
noncomputable def F.zj(n:Nat)(a0:bF)(a1:Int):Option ((Z8)×(Int)×(Int)×Unit):=
 (F.wH n a1).bind fun f =>
  bif !f then
   some (([],0,10,()))
  else
   F.zj.L4 n
    (fun a g =>
     (O.join n a ([10])).bind fun d =>
      bif decide (d.length+1≤ai)then
       F.zj.br n
        (fun h e b o p c q i =>
         bif decide (b>e)then
          bif b==b then
           (sub h e b).bind fun j =>
            bif decide ((c.length+1)*24≤2 ^ 46)&&decide (0<24∧24≤2 ^ 20)then
             bif afw i c.length then
              some ((c++([j]),0,0,()))
             else
              none
            else
             none
          else
           none
         else
          some ((c,0,0,()))) n (d++([10])) 0 0 a (a.length:Int) 0 a g [] ((d++([10])).length) 0
      else
       none)
    (fun k l m r =>
     some ((k,l,m,()))) n a0 a1 a0 (a0.length:Int) 0
noncomputable def F.kL.L4.step{X:Type}(n:Nat)(rec:Z8→bF→Int→Option X)(k0:Unit→Option X)(kr:Bool→Option X)(b:Z8)(c:bF)(a:Int):Option X:=
 bif decide (a<(b.length:Int))then
  (idx b a).bind fun d =>
   (idx c a).bind fun e =>
    bif !(d==e)then
     kr false
    else
     rec b c (afv .i64 (a+1))
 else
  k0 ()
noncomputable def F.kL.L4{X:Type}(n:Nat)(k0:Unit→Option X)(kr:Bool→Option X):Nat→Z8→bF→Int→Option X
 |0=>fun _ _ _=>none
 |m+1=>fun a b c=>F.kL.L4.step n (F.kL.L4 n k0 kr m) k0 kr a b c
noncomputable def F.kL(n:Nat)(a0:Z8)(a1:bF):Option (Bool):=
 bif !((a0.length:Int)==(a1.length:Int))then
  some (false)
 else
  F.kL.L4 n
   (fun(_:Unit) =>
    some (true))
   (fun a =>
    some (a)) n a0 a1 0
noncomputable def F.uX(n:Nat)(a0:Z8):Option (Z7):=
 (O.u_ n a0 []).bind fun a =>
  some (a)
noncomputable def F.nq(n:Nat):Option (Bool):=
 (F.zj n ([[97,98],[99],[100,101,102]]) (5:Int)).bind fun a =>
  (F.zj n ([[97,98],[99],[100,101,102]]) (3:Int)).bind fun b =>
   (F.kL n a.1 ([[97,98,10,99,10],[100,101,102,10]])).bind fun c =>
    bif c then
     bif a.2.1==0 then
      bif a.2.2.1==0 then
       bif (b.1.length:Int)==0 then
        bif b.2.1==2 then
         bif b.2.2.1==27 then
          (F.uX n a.1).bind fun d =>
           some (d==([97,98,10,99,10,100,101,102,10]))
         else
          some (false)
        else
         some (false)
       else
        some (false)
      else
       some (false)
     else
      some (false)
    else
     some (false)
noncomputable def F.wI(n:Nat)(a0:Int)(a1:Int):Option ((Int)×(Bool)×Unit):=
 (O.va n a0 (10:Int)).bind fun b =>
  (O.vb n b.2.1 a1 (0:Int)).bind fun a =>
   bif b.1==0 then
    some ((a.1,a.2.1==0,()))
   else
    some ((a.1,false,()))
noncomputable def F.zh.L3.step{X:Type}(n:Nat)(rec:Bool→Int→Int→Bool→Int→Int→Option X)(k0:Bool→Int→Int→Bool→Int→Int→Option X)(c:Bool)(a:Int)(b:Int)(d:Bool)(e:Int)(f:Int):Option X:=
 bif (a.tmod 10)==0 then
  bif decide (b<18)then
   rec c (afv .u64 (a.tdiv 10)) (afv .i64 (b+1)) d e f
  else
   k0 c a b d e f
 else
  k0 c a b d e f
noncomputable def F.zh.L3{X:Type}(n:Nat)(k0:Bool→Int→Int→Bool→Int→Int→Option X):Nat→Bool→Int→Int→Bool→Int→Int→Option X
 |0=>fun _ _ _ _ _ _=>none
 |m+1=>fun a b c d e f=>F.zh.L3.step n (F.zh.L3 n k0 m) k0 a b c d e f
noncomputable def F.zh.L5.step{X:Type}(n:Nat)(rec:Bool→Int→Int→Bool→Int→Int→Option X)(k2:Bool→Int→Int→Bool→Int→Int→Option X)(kr:Int→Bool→Int→Int→Bool→Int→Int→Option X)(b:Bool)(c:Int)(a:Int)(d:Bool)(e:Int)(f:Int):Option X:=
 bif decide (a>18)then
  (F.wI n c (0:Int)).bind fun g =>
   bif !g.2.1 then
    kr 10 b c a false 0 0
   else
    rec b g.1 (afv .i64 (a - 1)) d e f
 else
  k2 b c a d e f
noncomputable def F.zh.L5{X:Type}(n:Nat)(k2:Bool→Int→Int→Bool→Int→Int→Option X)(kr:Int→Bool→Int→Int→Bool→Int→Int→Option X):Nat→Bool→Int→Int→Bool→Int→Int→Option X
 |0=>fun _ _ _ _ _ _=>none
 |m+1=>fun a b c d e f=>F.zh.L5.step n (F.zh.L5 n k2 kr m) k2 kr a b c d e f
noncomputable def F.zh(n:Nat)(a0:C7):Option ((C7)×(Int)×Unit):=
 bif a0.2.1==0 then
  some (((false,0,0,()),0,()))
 else
  F.zh.L3 n
   (fun b c d e f g =>
    F.zh.L5 n
     (fun h i a o p q =>
      bif decide (a<(-18:Int))then
       some (((false,0,0,()),10,()))
      else
       some (((h,i,a,()),0,())))
     (fun j r s t k l m =>
      some (((k,l,m,()),j,()))) n b c d e f g) n a0.1 a0.2.1 a0.2.2.1 false 0 0
noncomputable def F.qL(n:Nat)(a0:Int):Option (Bool):=
 bif decide (a0≥1)then
  some (decide (a0≤4))
 else
  some (false)
noncomputable def F.mf(n:Nat)(a0:Int)(a1:Int)(a2:Int):Option (Bool):=
 bif decide (a0≥a1)then
  some (decide (a0≤a2))
 else
  some (false)
noncomputable def F.ud(n:Nat)(a0:Int)(a1:Int):Option (Bool):=
 bif a0==3 then
  (F.mf n a1 33 (126:Int)).bind fun a =>
   bif a then
    bif !(a1==44)then
     some (!(a1==124))
    else
     some (false)
   else
    some (false)
 else
 bif a0 == 2 then
  bif a1==47 then
   some (true)
  else
   (F.mf n a1 65 (90:Int)).bind fun b =>
    bif b then
     some (true)
    else
     (F.mf n a1 97 (122:Int)).bind fun c =>
      bif c then
       some (true)
      else
      bif a1==95 then
       some (true)
      else
      bif a1==46 then
       some (true)
      else
      bif a1==45 then
       some (true)
      else
       (F.mf n a1 48 (57:Int)).bind fun d =>
        some (d)
 else
 bif a0==1 then
  (F.mf n a1 65 (90:Int)).bind fun e =>
   bif e then
    some (true)
   else
    (F.mf n a1 97 (122:Int)).bind fun f =>
     bif f then
      some (true)
     else
     bif a1==95 then
      some (true)
     else
     bif a1==46 then
      some (true)
     else
     bif a1==45 then
      some (true)
     else
      (F.mf n a1 48 (57:Int)).bind fun g =>
       some (g)
 else
 bif a0==4 then
  (F.mf n a1 48 (57:Int)).bind fun h =>
   some (h)
 else
  some (false)
noncomputable def F.iZ.L4.step{X:Type}(n:Nat)(rec:Int→Z0→Int→Int→Option X)(k0:Unit→Option X)(kr:Int→Int→Option X)(b:Int)(c:Z0)(d:Int)(a:Int):Option X:=
 bif decide (a<d)then
  (idx c a).bind fun e =>
   (F.ud n b ((e).toNat)).bind fun f =>
    bif !f then
     kr a 0
    else
     rec b c d (afv .i64 (a+1))
 else
  k0 ()
noncomputable def F.iZ.L4{X:Type}(n:Nat)(k0:Unit→Option X)(kr:Int→Int→Option X):Nat→Int→Z0→Int→Int→Option X
 |0=>fun _ _ _ _=>none
 |m+1=>fun a b c d=>F.iZ.L4.step n (F.iZ.L4 n k0 kr m) k0 kr a b c d
noncomputable def F.iZ(n:Nat)(a0:Int)(a1:Z0):Option ((Int)×(Int)×Unit):=
 (F.qL n a0).bind fun a =>
  bif !a then
   some ((0,1,()))
  else
   F.iZ.L4 n
    (fun(_:Unit) =>
     some (((-1:Int),0,())))
    (fun b c =>
     some ((b,c,()))) n a0 a1 (a1.length:Int) 0
noncomputable def F.k9(n:Nat)(a0:Int)(a1:Z0)(a2:Int)(a3:Int):Option (oe):=
 (F.iZ n a0 a1).bind fun a =>
  bif !(a.2.1==0)then
   some ((1,0,()))
  else
  bif decide (a2<0)then
   some ((1,0,()))
  else
  bif decide (a3<a2)then
   some ((1,0,()))
  else
  bif decide ((a1.length:Int)<a2)then
   some ((13,(a1.length:Int),()))
  else
  bif decide ((a1.length:Int)>a3)then
   some ((12,a3,()))
  else
  bif decide (a.1≥0)then
   some ((14,a.1,()))
  else
   some ((0,0,()))
noncomputable def F.ql(n:Nat)(a0:Z9):Option (Bool):=
 (F.k9 n 1 a0.1 1 (200:Int)).bind fun a =>
  some ((a.1==0)&&(a.2.1==0))
noncomputable def F.oM(n:Nat)(a0:Int)(a1:Int)(a2:Int):Option (Bool):=
 bif decide (a0≥a1)then
  some (decide (a0≤a2))
 else
  some (false)
noncomputable def F.tD(n:Nat)(a0:Z9):Option (Bool):=
 (F.oM n a0.2.1 1 (5:Int)).bind fun a =>
  some (a)
noncomputable def F.rM(n:Nat)(a0:C7):Option (Int):=
 bif !(a0.2.1==0)then
  bif decide (a0.2.2.1<(-18:Int))then
   some (10)
  else
  bif decide (a0.2.2.1>18)then
   some (10)
  else
   (F.zh n (a0.1,a0.2.1,a0.2.2.1,())).bind fun a =>
    bif !(a.2.1==0)then
     some (21)
    else
    bif !((a.1.1==a0.1)&&((a.1.2.1==a0.2.1)&&(a.1.2.2.1==a0.2.2.1)))then
     some (21)
    else
     some (0)
 else
  (F.zh n (a0.1,a0.2.1,a0.2.2.1,())).bind fun b =>
   bif !(b.2.1==0)then
    some (21)
   else
   bif !((b.1.1==a0.1)&&((b.1.2.1==a0.2.1)&&(b.1.2.2.1==a0.2.2.1)))then
    some (21)
   else
    some (0)
noncomputable def F.yK(n:Nat)(a0:C7):Option (Bool):=
 (F.rM n (a0.1,a0.2.1,a0.2.2.1,())).bind fun a =>
  some (!(a==0))
noncomputable def F.zm.ao.step{X:Type}(n:Nat)(rec:Z2→Int→Int→Z0→Int→Z2→Int→Z4→Int→Option X)(k0:Z0→Int→Z2→Int→Z4→Int→Option X)(kr:Int→Z0→Int→Z2→Int→Z4→Int→Option X)(i:Z2)(j:Int)(a:Int)(b:Z0)(c:Int)(d:Z2)(e:Int)(f:Z4)(g:Int):Option X:=
 bif decide (a<j)then
  (idx i a).bind fun h =>
   (F.yK n (h.1,h.2.1,h.2.2,())).bind fun k =>
    bif k then
     kr a b c d e f g
    else
     rec i j (afv .i64 (a+1)) b c d e f g
 else
  k0 b c d e f g
noncomputable def F.zm.ao{X:Type}(n:Nat)(k0:Z0→Int→Z2→Int→Z4→Int→Option X)(kr:Int→Z0→Int→Z2→Int→Z4→Int→Option X):Nat→Z2→Int→Int→Z0→Int→Z2→Int→Z4→Int→Option X
 |0=>fun _ _ _ _ _ _ _ _ _=>none
 |m+1=>fun a b c d e f g h i=>F.zm.ao.step n (F.zm.ao n k0 kr m) k0 kr a b c d e f g h i
noncomputable def F.zm(n:Nat)(a0:Z9):Option (Bool):=
 (F.oM n (a0.2.2.1.length:Int) 1 (64:Int)).bind fun a =>
  bif a then
   F.zm.ao n
    (fun c d e f g h =>
     some (true))
    (fun b i j k l m o =>
     some (!(decide (b≥0)))) n a0.2.2.1 (a0.2.2.1.length:Int) 0 a0.1 a0.2.1 a0.2.2.1 a0.2.2.2.1 a0.2.2.2.2.1 a0.2.2.2.2.2.1
  else
   some (false)
noncomputable def F.tT(n:Nat)(a0:Z9):Option (Bool):=
 (F.oM n a0.2.2.2.1 1 (1000000:Int)).bind fun a =>
  bif a then
   bif !(a0.2.1==2)then
    some (true)
   else
    some (a0.2.2.2.1==1000000)
  else
   some (false)
noncomputable def F.qM(n:Nat)(a0:Mt):Option (Int):=
 (F.k9 n 2 a0.1 1 (64:Int)).bind fun a =>
  bif !((a.1==0)&&(a.2.1==0))then
   some (19)
  else
   (F.k9 n 3 a0.2.1 0 (100:Int)).bind fun b =>
    bif !((b.1==0)&&(b.2.1==0))then
     some (19)
    else
     some (0)
noncomputable def F.Ad(n:Nat)(a0:Mt):Option (Bool):=
 (F.qM n (a0.1,a0.2.1,())).bind fun a =>
  some (!(a==0))
noncomputable def F.zt.aq.step{X:Type}(n:Nat)(rec:Z4→Int→Int→Z0→Int→Z2→Int→Z4→Int→Option X)(k0:Z0→Int→Z2→Int→Z4→Int→Option X)(kr:Int→Z0→Int→Z2→Int→Z4→Int→Option X)(h:Z4)(i:Int)(a:Int)(b:Z0)(c:Int)(d:Z2)(e:Int)(f:Z4)(g:Int):Option X:=
 bif decide (a<i)then
  (idx h a).bind fun j =>
   (F.Ad n (j.1,j.2,())).bind fun k =>
    bif k then
     kr a b c d e f g
    else
     rec h i (afv .i64 (a+1)) b c d e f g
 else
  k0 b c d e f g
noncomputable def F.zt.aq{X:Type}(n:Nat)(k0:Z0→Int→Z2→Int→Z4→Int→Option X)(kr:Int→Z0→Int→Z2→Int→Z4→Int→Option X):Nat→Z4→Int→Int→Z0→Int→Z2→Int→Z4→Int→Option X
 |0=>fun _ _ _ _ _ _ _ _ _=>none
 |m+1=>fun a b c d e f g h i=>F.zt.aq.step n (F.zt.aq n k0 kr m) k0 kr a b c d e f g h i
noncomputable def F.zt(n:Nat)(a0:Z9):Option (Bool):=
 bif decide ((a0.2.2.2.2.1.length:Int)≤32)then
  F.zt.aq n
   (fun b c d e f g =>
    some (true))
   (fun a h i j k l m =>
    some (!(decide (a≥0)))) n a0.2.2.2.2.1 (a0.2.2.2.2.1.length:Int) 0 a0.1 a0.2.1 a0.2.2.1 a0.2.2.2.1 a0.2.2.2.2.1 a0.2.2.2.2.2.1
 else
  some (false)
noncomputable def F.rN(n:Nat)(a0:Z9):Option (Bool):=
 (F.oM n a0.2.2.2.2.2.1 0 (1099511627776:Int)).bind fun a =>
  some (a)
noncomputable def F.zp.L3.step{X:Type}(n:Nat)(rec:W3→Int→Z0→Int→Z2→Int→Z4→Int→Z0→Int→Z2→Int→Z4→Int→Option X)(k0:Z0→Int→Z2→Int→Z4→Int→Z0→Int→Z2→Int→Z4→Int→Option X)(kr:Int→Z0→Int→Z2→Int→Z4→Int→Z0→Int→Z2→Int→Z4→Int→Option X)(a:W3)(b:Int)(c:Z0)(d:Int)(e:Z2)(f:Int)(g:Z4)(h:Int)(i:Z0)(j:Int)(k:Z2)(l:Int)(m:Z4)(o:Int):Option X:=
 bif decide (b<6)then
  bif b==0 then
   (F.ql n (a.1.1.1.1,a.1.1.1.2.1,a.1.1.1.2.2.1,a.1.1.1.2.2.2.1,a.1.1.1.2.2.2.2.1,a.1.1.1.2.2.2.2.2.1,())).bind fun p =>
    bif !p then
     kr a.2.1 c d e f g h i j k l m o
    else
     rec ((((a.1.1.1.1,a.1.1.1.2.1,a.1.1.1.2.2.1,a.1.1.1.2.2.2.1,a.1.1.1.2.2.2.2.1,a.1.1.1.2.2.2.2.2.1,()),()),(())),a.2.1,(((a.2.2.1.1.1.1,a.2.2.1.1.1.2.1,a.2.2.1.1.1.2.2.1,a.2.2.1.1.1.2.2.2.1,a.2.2.1.1.1.2.2.2.2.1,a.2.2.1.1.1.2.2.2.2.2.1,()),()),(())),a.2.2.2.1,(((a.2.2.2.2.1.1.1.1,a.2.2.2.2.1.1.1.2.1,a.2.2.2.2.1.1.1.2.2.1,a.2.2.2.2.1.1.1.2.2.2.1,a.2.2.2.2.1.1.1.2.2.2.2.1,a.2.2.2.2.1.1.1.2.2.2.2.2.1,()),()),(())),a.2.2.2.2.2.1,(((a.2.2.2.2.2.2.1.1.1.1,a.2.2.2.2.2.2.1.1.1.2.1,a.2.2.2.2.2.2.1.1.1.2.2.1,a.2.2.2.2.2.2.1.1.1.2.2.2.1,a.2.2.2.2.2.2.1.1.1.2.2.2.2.1,a.2.2.2.2.2.2.1.1.1.2.2.2.2.2.1,()),()),(())),a.2.2.2.2.2.2.2.1,(((a.2.2.2.2.2.2.2.2.1.1.1.1,a.2.2.2.2.2.2.2.2.1.1.1.2.1,a.2.2.2.2.2.2.2.2.1.1.1.2.2.1,a.2.2.2.2.2.2.2.2.1.1.1.2.2.2.1,a.2.2.2.2.2.2.2.2.1.1.1.2.2.2.2.1,a.2.2.2.2.2.2.2.2.1.1.1.2.2.2.2.2.1,()),()),(())),a.2.2.2.2.2.2.2.2.2.1,(((a.2.2.2.2.2.2.2.2.2.2.1.1.1.1,a.2.2.2.2.2.2.2.2.2.2.1.1.1.2.1,a.2.2.2.2.2.2.2.2.2.2.1.1.1.2.2.1,a.2.2.2.2.2.2.2.2.2.2.1.1.1.2.2.2.1,a.2.2.2.2.2.2.2.2.2.2.1.1.1.2.2.2.2.1,a.2.2.2.2.2.2.2.2.2.2.1.1.1.2.2.2.2.2.1,()),()),(())),a.2.2.2.2.2.2.2.2.2.2.2.1,()) (afv .i64 (b+1)) c d e f g h i j k l m o
  else
  bif b==1 then
   (F.tD n (a.2.2.1.1.1.1,a.2.2.1.1.1.2.1,a.2.2.1.1.1.2.2.1,a.2.2.1.1.1.2.2.2.1,a.2.2.1.1.1.2.2.2.2.1,a.2.2.1.1.1.2.2.2.2.2.1,())).bind fun q =>
    bif !q then
     kr a.2.2.2.1 c d e f g h i j k l m o
    else
     rec ((((a.1.1.1.1,a.1.1.1.2.1,a.1.1.1.2.2.1,a.1.1.1.2.2.2.1,a.1.1.1.2.2.2.2.1,a.1.1.1.2.2.2.2.2.1,()),()),(())),a.2.1,(((a.2.2.1.1.1.1,a.2.2.1.1.1.2.1,a.2.2.1.1.1.2.2.1,a.2.2.1.1.1.2.2.2.1,a.2.2.1.1.1.2.2.2.2.1,a.2.2.1.1.1.2.2.2.2.2.1,()),()),(())),a.2.2.2.1,(((a.2.2.2.2.1.1.1.1,a.2.2.2.2.1.1.1.2.1,a.2.2.2.2.1.1.1.2.2.1,a.2.2.2.2.1.1.1.2.2.2.1,a.2.2.2.2.1.1.1.2.2.2.2.1,a.2.2.2.2.1.1.1.2.2.2.2.2.1,()),()),(())),a.2.2.2.2.2.1,(((a.2.2.2.2.2.2.1.1.1.1,a.2.2.2.2.2.2.1.1.1.2.1,a.2.2.2.2.2.2.1.1.1.2.2.1,a.2.2.2.2.2.2.1.1.1.2.2.2.1,a.2.2.2.2.2.2.1.1.1.2.2.2.2.1,a.2.2.2.2.2.2.1.1.1.2.2.2.2.2.1,()),()),(())),a.2.2.2.2.2.2.2.1,(((a.2.2.2.2.2.2.2.2.1.1.1.1,a.2.2.2.2.2.2.2.2.1.1.1.2.1,a.2.2.2.2.2.2.2.2.1.1.1.2.2.1,a.2.2.2.2.2.2.2.2.1.1.1.2.2.2.1,a.2.2.2.2.2.2.2.2.1.1.1.2.2.2.2.1,a.2.2.2.2.2.2.2.2.1.1.1.2.2.2.2.2.1,()),()),(())),a.2.2.2.2.2.2.2.2.2.1,(((a.2.2.2.2.2.2.2.2.2.2.1.1.1.1,a.2.2.2.2.2.2.2.2.2.2.1.1.1.2.1,a.2.2.2.2.2.2.2.2.2.2.1.1.1.2.2.1,a.2.2.2.2.2.2.2.2.2.2.1.1.1.2.2.2.1,a.2.2.2.2.2.2.2.2.2.2.1.1.1.2.2.2.2.1,a.2.2.2.2.2.2.2.2.2.2.1.1.1.2.2.2.2.2.1,()),()),(())),a.2.2.2.2.2.2.2.2.2.2.2.1,()) (afv .i64 (b+1)) c d e f g h i j k l m o
  else
  bif b==2 then
   (F.zm n (a.2.2.2.2.1.1.1.1,a.2.2.2.2.1.1.1.2.1,a.2.2.2.2.1.1.1.2.2.1,a.2.2.2.2.1.1.1.2.2.2.1,a.2.2.2.2.1.1.1.2.2.2.2.1,a.2.2.2.2.1.1.1.2.2.2.2.2.1,())).bind fun r =>
    bif !r then
     kr a.2.2.2.2.2.1 c d e f g h i j k l m o
    else
     rec ((((a.1.1.1.1,a.1.1.1.2.1,a.1.1.1.2.2.1,a.1.1.1.2.2.2.1,a.1.1.1.2.2.2.2.1,a.1.1.1.2.2.2.2.2.1,()),()),(())),a.2.1,(((a.2.2.1.1.1.1,a.2.2.1.1.1.2.1,a.2.2.1.1.1.2.2.1,a.2.2.1.1.1.2.2.2.1,a.2.2.1.1.1.2.2.2.2.1,a.2.2.1.1.1.2.2.2.2.2.1,()),()),(())),a.2.2.2.1,(((a.2.2.2.2.1.1.1.1,a.2.2.2.2.1.1.1.2.1,a.2.2.2.2.1.1.1.2.2.1,a.2.2.2.2.1.1.1.2.2.2.1,a.2.2.2.2.1.1.1.2.2.2.2.1,a.2.2.2.2.1.1.1.2.2.2.2.2.1,()),()),(())),a.2.2.2.2.2.1,(((a.2.2.2.2.2.2.1.1.1.1,a.2.2.2.2.2.2.1.1.1.2.1,a.2.2.2.2.2.2.1.1.1.2.2.1,a.2.2.2.2.2.2.1.1.1.2.2.2.1,a.2.2.2.2.2.2.1.1.1.2.2.2.2.1,a.2.2.2.2.2.2.1.1.1.2.2.2.2.2.1,()),()),(())),a.2.2.2.2.2.2.2.1,(((a.2.2.2.2.2.2.2.2.1.1.1.1,a.2.2.2.2.2.2.2.2.1.1.1.2.1,a.2.2.2.2.2.2.2.2.1.1.1.2.2.1,a.2.2.2.2.2.2.2.2.1.1.1.2.2.2.1,a.2.2.2.2.2.2.2.2.1.1.1.2.2.2.2.1,a.2.2.2.2.2.2.2.2.1.1.1.2.2.2.2.2.1,()),()),(())),a.2.2.2.2.2.2.2.2.2.1,(((a.2.2.2.2.2.2.2.2.2.2.1.1.1.1,a.2.2.2.2.2.2.2.2.2.2.1.1.1.2.1,a.2.2.2.2.2.2.2.2.2.2.1.1.1.2.2.1,a.2.2.2.2.2.2.2.2.2.2.1.1.1.2.2.2.1,a.2.2.2.2.2.2.2.2.2.2.1.1.1.2.2.2.2.1,a.2.2.2.2.2.2.2.2.2.2.1.1.1.2.2.2.2.2.1,()),()),(())),a.2.2.2.2.2.2.2.2.2.2.2.1,()) (afv .i64 (b+1)) c d e f g h i j k l m o
  else
  bif b==3 then
   (F.tT n (a.2.2.2.2.2.2.1.1.1.1,a.2.2.2.2.2.2.1.1.1.2.1,a.2.2.2.2.2.2.1.1.1.2.2.1,a.2.2.2.2.2.2.1.1.1.2.2.2.1,a.2.2.2.2.2.2.1.1.1.2.2.2.2.1,a.2.2.2.2.2.2.1.1.1.2.2.2.2.2.1,())).bind fun s =>
    bif !s then
     kr a.2.2.2.2.2.2.2.1 c d e f g h i j k l m o
    else
     rec ((((a.1.1.1.1,a.1.1.1.2.1,a.1.1.1.2.2.1,a.1.1.1.2.2.2.1,a.1.1.1.2.2.2.2.1,a.1.1.1.2.2.2.2.2.1,()),()),(())),a.2.1,(((a.2.2.1.1.1.1,a.2.2.1.1.1.2.1,a.2.2.1.1.1.2.2.1,a.2.2.1.1.1.2.2.2.1,a.2.2.1.1.1.2.2.2.2.1,a.2.2.1.1.1.2.2.2.2.2.1,()),()),(())),a.2.2.2.1,(((a.2.2.2.2.1.1.1.1,a.2.2.2.2.1.1.1.2.1,a.2.2.2.2.1.1.1.2.2.1,a.2.2.2.2.1.1.1.2.2.2.1,a.2.2.2.2.1.1.1.2.2.2.2.1,a.2.2.2.2.1.1.1.2.2.2.2.2.1,()),()),(())),a.2.2.2.2.2.1,(((a.2.2.2.2.2.2.1.1.1.1,a.2.2.2.2.2.2.1.1.1.2.1,a.2.2.2.2.2.2.1.1.1.2.2.1,a.2.2.2.2.2.2.1.1.1.2.2.2.1,a.2.2.2.2.2.2.1.1.1.2.2.2.2.1,a.2.2.2.2.2.2.1.1.1.2.2.2.2.2.1,()),()),(())),a.2.2.2.2.2.2.2.1,(((a.2.2.2.2.2.2.2.2.1.1.1.1,a.2.2.2.2.2.2.2.2.1.1.1.2.1,a.2.2.2.2.2.2.2.2.1.1.1.2.2.1,a.2.2.2.2.2.2.2.2.1.1.1.2.2.2.1,a.2.2.2.2.2.2.2.2.1.1.1.2.2.2.2.1,a.2.2.2.2.2.2.2.2.1.1.1.2.2.2.2.2.1,()),()),(())),a.2.2.2.2.2.2.2.2.2.1,(((a.2.2.2.2.2.2.2.2.2.2.1.1.1.1,a.2.2.2.2.2.2.2.2.2.2.1.1.1.2.1,a.2.2.2.2.2.2.2.2.2.2.1.1.1.2.2.1,a.2.2.2.2.2.2.2.2.2.2.1.1.1.2.2.2.1,a.2.2.2.2.2.2.2.2.2.2.1.1.1.2.2.2.2.1,a.2.2.2.2.2.2.2.2.2.2.1.1.1.2.2.2.2.2.1,()),()),(())),a.2.2.2.2.2.2.2.2.2.2.2.1,()) (afv .i64 (b+1)) c d e f g h i j k l m o
  else
  bif b==4 then
   (F.zt n (a.2.2.2.2.2.2.2.2.1.1.1.1,a.2.2.2.2.2.2.2.2.1.1.1.2.1,a.2.2.2.2.2.2.2.2.1.1.1.2.2.1,a.2.2.2.2.2.2.2.2.1.1.1.2.2.2.1,a.2.2.2.2.2.2.2.2.1.1.1.2.2.2.2.1,a.2.2.2.2.2.2.2.2.1.1.1.2.2.2.2.2.1,())).bind fun t =>
    bif !t then
     kr a.2.2.2.2.2.2.2.2.2.1 c d e f g h i j k l m o
    else
     rec ((((a.1.1.1.1,a.1.1.1.2.1,a.1.1.1.2.2.1,a.1.1.1.2.2.2.1,a.1.1.1.2.2.2.2.1,a.1.1.1.2.2.2.2.2.1,()),()),(())),a.2.1,(((a.2.2.1.1.1.1,a.2.2.1.1.1.2.1,a.2.2.1.1.1.2.2.1,a.2.2.1.1.1.2.2.2.1,a.2.2.1.1.1.2.2.2.2.1,a.2.2.1.1.1.2.2.2.2.2.1,()),()),(())),a.2.2.2.1,(((a.2.2.2.2.1.1.1.1,a.2.2.2.2.1.1.1.2.1,a.2.2.2.2.1.1.1.2.2.1,a.2.2.2.2.1.1.1.2.2.2.1,a.2.2.2.2.1.1.1.2.2.2.2.1,a.2.2.2.2.1.1.1.2.2.2.2.2.1,()),()),(())),a.2.2.2.2.2.1,(((a.2.2.2.2.2.2.1.1.1.1,a.2.2.2.2.2.2.1.1.1.2.1,a.2.2.2.2.2.2.1.1.1.2.2.1,a.2.2.2.2.2.2.1.1.1.2.2.2.1,a.2.2.2.2.2.2.1.1.1.2.2.2.2.1,a.2.2.2.2.2.2.1.1.1.2.2.2.2.2.1,()),()),(())),a.2.2.2.2.2.2.2.1,(((a.2.2.2.2.2.2.2.2.1.1.1.1,a.2.2.2.2.2.2.2.2.1.1.1.2.1,a.2.2.2.2.2.2.2.2.1.1.1.2.2.1,a.2.2.2.2.2.2.2.2.1.1.1.2.2.2.1,a.2.2.2.2.2.2.2.2.1.1.1.2.2.2.2.1,a.2.2.2.2.2.2.2.2.1.1.1.2.2.2.2.2.1,()),()),(())),a.2.2.2.2.2.2.2.2.2.1,(((a.2.2.2.2.2.2.2.2.2.2.1.1.1.1,a.2.2.2.2.2.2.2.2.2.2.1.1.1.2.1,a.2.2.2.2.2.2.2.2.2.2.1.1.1.2.2.1,a.2.2.2.2.2.2.2.2.2.2.1.1.1.2.2.2.1,a.2.2.2.2.2.2.2.2.2.2.1.1.1.2.2.2.2.1,a.2.2.2.2.2.2.2.2.2.2.1.1.1.2.2.2.2.2.1,()),()),(())),a.2.2.2.2.2.2.2.2.2.2.2.1,()) (afv .i64 (b+1)) c d e f g h i j k l m o
  else
  bif b==5 then
   (F.rN n (a.2.2.2.2.2.2.2.2.2.2.1.1.1.1,a.2.2.2.2.2.2.2.2.2.2.1.1.1.2.1,a.2.2.2.2.2.2.2.2.2.2.1.1.1.2.2.1,a.2.2.2.2.2.2.2.2.2.2.1.1.1.2.2.2.1,a.2.2.2.2.2.2.2.2.2.2.1.1.1.2.2.2.2.1,a.2.2.2.2.2.2.2.2.2.2.1.1.1.2.2.2.2.2.1,())).bind fun u =>
    bif !u then
     kr a.2.2.2.2.2.2.2.2.2.2.2.1 c d e f g h i j k l m o
    else
     rec ((((a.1.1.1.1,a.1.1.1.2.1,a.1.1.1.2.2.1,a.1.1.1.2.2.2.1,a.1.1.1.2.2.2.2.1,a.1.1.1.2.2.2.2.2.1,()),()),(())),a.2.1,(((a.2.2.1.1.1.1,a.2.2.1.1.1.2.1,a.2.2.1.1.1.2.2.1,a.2.2.1.1.1.2.2.2.1,a.2.2.1.1.1.2.2.2.2.1,a.2.2.1.1.1.2.2.2.2.2.1,()),()),(())),a.2.2.2.1,(((a.2.2.2.2.1.1.1.1,a.2.2.2.2.1.1.1.2.1,a.2.2.2.2.1.1.1.2.2.1,a.2.2.2.2.1.1.1.2.2.2.1,a.2.2.2.2.1.1.1.2.2.2.2.1,a.2.2.2.2.1.1.1.2.2.2.2.2.1,()),()),(())),a.2.2.2.2.2.1,(((a.2.2.2.2.2.2.1.1.1.1,a.2.2.2.2.2.2.1.1.1.2.1,a.2.2.2.2.2.2.1.1.1.2.2.1,a.2.2.2.2.2.2.1.1.1.2.2.2.1,a.2.2.2.2.2.2.1.1.1.2.2.2.2.1,a.2.2.2.2.2.2.1.1.1.2.2.2.2.2.1,()),()),(())),a.2.2.2.2.2.2.2.1,(((a.2.2.2.2.2.2.2.2.1.1.1.1,a.2.2.2.2.2.2.2.2.1.1.1.2.1,a.2.2.2.2.2.2.2.2.1.1.1.2.2.1,a.2.2.2.2.2.2.2.2.1.1.1.2.2.2.1,a.2.2.2.2.2.2.2.2.1.1.1.2.2.2.2.1,a.2.2.2.2.2.2.2.2.1.1.1.2.2.2.2.2.1,()),()),(())),a.2.2.2.2.2.2.2.2.2.1,(((a.2.2.2.2.2.2.2.2.2.2.1.1.1.1,a.2.2.2.2.2.2.2.2.2.2.1.1.1.2.1,a.2.2.2.2.2.2.2.2.2.2.1.1.1.2.2.1,a.2.2.2.2.2.2.2.2.2.2.1.1.1.2.2.2.1,a.2.2.2.2.2.2.2.2.2.2.1.1.1.2.2.2.2.1,a.2.2.2.2.2.2.2.2.2.2.1.1.1.2.2.2.2.2.1,()),()),(())),a.2.2.2.2.2.2.2.2.2.2.2.1,()) (afv .i64 (b+1)) c d e f g h i j k l m o
  else
   none
 else
  k0 c d e f g h i j k l m o
noncomputable def F.zp.L3{X:Type}(n:Nat)(k0:Z0→Int→Z2→Int→Z4→Int→Z0→Int→Z2→Int→Z4→Int→Option X)(kr:Int→Z0→Int→Z2→Int→Z4→Int→Z0→Int→Z2→Int→Z4→Int→Option X):Nat→W3→Int→Z0→Int→Z2→Int→Z4→Int→Z0→Int→Z2→Int→Z4→Int→Option X
 |0=>fun _ _ _ _ _ _ _ _ _ _ _ _ _ _=>none
 |m+1=>fun a b c d e f g h i j k l o p=>F.zp.L3.step n (F.zp.L3 n k0 kr m) k0 kr a b c d e f g h i j k l o p
noncomputable def F.zp(n:Nat)(a0:Z9):Option (Int):=
 F.zp.L3 n
  (fun b c d e f g h i j k l m =>
   some (0))
  (fun a o p q r s t u v w x y z =>
   some (a)) n ((((a0.1,a0.2.1,a0.2.2.1,a0.2.2.2.1,a0.2.2.2.2.1,a0.2.2.2.2.2.1,()),()),(())),15,(((a0.1,a0.2.1,a0.2.2.1,a0.2.2.2.1,a0.2.2.2.2.1,a0.2.2.2.2.2.1,()),()),(())),16,(((a0.1,a0.2.1,a0.2.2.1,a0.2.2.2.1,a0.2.2.2.2.1,a0.2.2.2.2.2.1,()),()),(())),17,(((a0.1,a0.2.1,a0.2.2.1,a0.2.2.2.1,a0.2.2.2.2.1,a0.2.2.2.2.2.1,()),()),(())),18,(((a0.1,a0.2.1,a0.2.2.1,a0.2.2.2.1,a0.2.2.2.2.1,a0.2.2.2.2.2.1,()),()),(())),19,(((a0.1,a0.2.1,a0.2.2.1,a0.2.2.2.1,a0.2.2.2.2.1,a0.2.2.2.2.2.1,()),()),(())),20,()) 0 a0.1 a0.2.1 a0.2.2.1 a0.2.2.2.1 a0.2.2.2.2.1 a0.2.2.2.2.2.1 a0.1 a0.2.1 a0.2.2.1 a0.2.2.2.1 a0.2.2.2.2.1 a0.2.2.2.2.2.1
noncomputable def F.zw(n:Nat)(a0:Z4):Option (Z4):=
 bif (a0.length:Int)==(a0.length:Int)then
  (sub a0 0 (a0.length:Int)).bind fun a =>
   some (a)
 else
  none
noncomputable def F.zy.L5.step{X:Type}(n:Nat)(rec:me→Int→me→Int→Int→sS→sS→sS→Option X)(k0:me→Int→sS→sS→sS→Option X)(a:me)(b:Int)(d:me)(i:Int)(e:Int)(f:sS)(g:sS)(c:sS):Option X:=
 bif decide (e<i)then
  bif decide (0≤e)&&decide (e<((d.2:Nat):Int))then
   bif afw d.1 c.1 then
    (idx c.2 e).bind fun h =>
     bif e==0 then
      bif decide (0≤b)&&decide (b<((a.2:Nat):Int))then
       bif afw a.1 c.1 then
        (idx c.2 b).bind fun k =>
         rec (a.1,a.2) (afv .i64 (b+1)) (d.1,d.2) i (afv .i64 (e+1)) (f.1,f.2) (g.1,g.2) (a.1,dF c.2 (Int.toNat b) (h.1,h.2))
       else
        none
      else
       none
     else
     bif decide (0≤(afv .i64 (b - 1)))&&decide ((afv .i64 (b - 1))<((a.2:Nat):Int))then
      bif afw a.1 c.1 then
       (idx c.2 (afv .i64 (b - (1:Int)))).bind fun j =>
        bif !((h.1==j.1)&&(h.2==j.2))then
         bif decide (0≤b)&&decide (b<((a.2:Nat):Int))then
          bif afw a.1 c.1 then
           (idx c.2 b).bind fun l =>
            rec (a.1,a.2) (afv .i64 (b+1)) (d.1,d.2) i (afv .i64 (e+1)) (f.1,f.2) (g.1,g.2) (a.1,dF c.2 (Int.toNat b) (h.1,h.2))
          else
           none
         else
          none
        else
         rec (a.1,a.2) b (d.1,d.2) i (afv .i64 (e+1)) (f.1,f.2) (g.1,g.2) (c.1,c.2)
      else
       none
     else
      none
   else
    none
  else
   none
 else
  k0 (a.1,a.2) b (f.1,f.2) (g.1,g.2) (c.1,c.2)
noncomputable def F.zy.L5{X:Type}(n:Nat)(k0:me→Int→sS→sS→sS→Option X):Nat→me→Int→me→Int→Int→sS→sS→sS→Option X
 |0=>fun _ _ _ _ _ _ _ _=>none
 |m+1=>fun a b c d e f g h=>F.zy.L5.step n (F.zy.L5 n k0 m) k0 a b c d e f g h
noncomputable def F.zy(n:Nat)(a0:Z4):Option (Z4):=
 bif afN a0 then
  both
   (
    bif afw (cy []).length 0&&Nat.blt 0 ai then
     F.zy.L5 n
      (fun d e q r a =>
       bif afw d.1 a.1 then
        (sub a.2 0 e).bind fun f =>
         (F.zw n f).bind fun g =>
          some (g)
       else
        none) n (1,0) 0 (1,0) 0 0 (1,[]) (1,[]) (1,cy [])
    else
     none)
   (
    bif decide ((0+a0.length)*32≤2 ^ 46)&&decide (0<32∧32≤2 ^ 20)then
     bif afw (cy ([]++a0)).length (([]++a0).length)&&Nat.blt (([]++a0).length) ai then
      F.zy.L5 n
       (fun h i s t b =>
        bif afw h.1 b.1 then
         (sub b.2 0 i).bind fun j =>
          (F.zw n j).bind fun k =>
           some (k)
        else
         none) n (2,([]++a0).length) 0 (2,([]++a0).length) ((([]++a0).length:Nat):Int) 0 (1,[]) (1,[]) (2,cy ([]++a0))
     else
      none
    else
     none)
 else
 bif decide ((0+a0.length)*32≤2 ^ 46)&&decide (0<32∧32≤2 ^ 20)then
  bif afw (cy ([]++a0)).length (([]++a0).length)&&Nat.blt (([]++a0).length) ai then
   F.zy.L5 n
    (fun l m u v c =>
     bif afw l.1 c.1 then
      (sub c.2 0 m).bind fun o =>
       (F.zw n o).bind fun p =>
        some (p)
     else
      none) n (2,([]++a0).length) 0 (2,([]++a0).length) ((([]++a0).length:Nat):Int) 0 (1,[]) (1,[]) (2,cy ([]++a0))
  else
   none
 else
  none
noncomputable def F.zl.L3.step{X:Type}(n:Nat)(rec:me→me→Int→Int→Z0→Int→Z2→Int→Z4→Int→Z0→Int→Z2→Int→Z4→Int→yM→yM→Nat→Nat→Option X)(k0:me→Z0→Int→Z2→Int→Z4→Int→Z0→Int→Z2→Int→Z4→Int→yM→yM→Nat→Nat→Option X)(b:me)(d:me)(g:Int)(a:Int)(h:Z0)(i:Int)(j:Z2)(k:Int)(l:Z4)(m:Int)(o:Z0)(p:Int)(q:Z2)(r:Int)(s:Z4)(t:Int)(e:yM)(c:yM)(u:Nat)(v:Nat):Option X:=
 bif decide (a<g)then
  bif decide (0≤a)&&decide (a<((d.2:Nat):Int))then
   bif afw d.1 c.1 then
    (idx c.2 a).bind fun w =>
     (F.zh n (w.1,w.2.1,w.2.2,())).bind fun f =>
      bif f.2.1==0 then
       bif decide (0≤a)&&decide (a<((b.2:Nat):Int))then
        bif afw b.1 c.1 then
         (idx c.2 a).bind fun x =>
          rec (b.1,b.2) (d.1,d.2) g (afv .i64 (a+1)) h i j k l m o p q r s t (e.1,e.2) (b.1,dF c.2 (Int.toNat a) (f.1.1,f.1.2.1,f.1.2.2.1)) u v
        else
         none
       else
        none
      else
       rec (b.1,b.2) (d.1,d.2) g (afv .i64 (a+1)) h i j k l m o p q r s t (e.1,e.2) (c.1,c.2) u v
   else
    none
  else
   none
 else
  k0 (b.1,b.2) h i j k l m o p q r s t (e.1,e.2) (c.1,c.2) u v
noncomputable def F.zl.L3{X:Type}(n:Nat)(k0:me→Z0→Int→Z2→Int→Z4→Int→Z0→Int→Z2→Int→Z4→Int→yM→yM→Nat→Nat→Option X):Nat→me→me→Int→Int→Z0→Int→Z2→Int→Z4→Int→Z0→Int→Z2→Int→Z4→Int→yM→yM→Nat→Nat→Option X
 |0=>fun _ _ _ _ _ _ _ _ _ _ _ _ _ _ _ _ _ _ _ _=>none
 |m+1=>fun a b c d e f g h i j k l o p q r s t u v=>F.zl.L3.step n (F.zl.L3 n k0 m) k0 a b c d e f g h i j k l o p q r s t u v
noncomputable def F.zl(n:Nat)(a0:Z9):Option ((Z9)×(Int)×Unit):=
 bif afN a0.2.2.1 then
  both
   (
    F.zl.L3 n
     (fun w d e C f g h D E G H I J K a L M =>
      bif afw w.1 a.1 then
       (F.zp n (d,e,a.2,f,g,h,())).bind fun i =>
        bif !(i==0)then
         some ((([],0,[],0,[],0,()),i,()))
        else
         (F.zy n g).bind fun x =>
          some (((d,e,a.2,f,x,h,()),0,()))
      else
       none) n (1,0) (1,0) 0 0 a0.1 a0.2.1 a0.2.2.1 a0.2.2.2.1 a0.2.2.2.2.1 a0.2.2.2.2.2.1 [] 0 [] 0 [] 0 (1,[]) (1,[]) 0 0)
   (
    bif decide ((0+a0.2.2.1.length)*24≤2 ^ 46)&&decide (0<24∧24≤2 ^ 20)then
     F.zl.L3 n
      (fun y j k N l m o O P Q R S T U b V W =>
       bif afw y.1 b.1 then
        (F.zp n (j,k,b.2,l,m,o,())).bind fun p =>
         bif !(p==0)then
          some ((([],0,[],0,[],0,()),p,()))
         else
          (F.zy n m).bind fun z =>
           some (((j,k,b.2,l,z,o,()),0,()))
       else
        none) n (2,([]++a0.2.2.1).length) (2,([]++a0.2.2.1).length) ((([]++a0.2.2.1).length:Nat):Int) 0 a0.1 a0.2.1 a0.2.2.1 a0.2.2.2.1 a0.2.2.2.2.1 a0.2.2.2.2.2.1 [] 0 [] 0 [] 0 (1,[]) (2,[]++a0.2.2.1) 0 0
    else
     none)
 else
 bif decide ((0+a0.2.2.1.length)*24≤2 ^ 46)&&decide (0<24∧24≤2 ^ 20)then
  F.zl.L3 n
   (fun A q r Y s t u Z a1 a2 a3 a4 a5 a6 c a7 a8 =>
    bif afw A.1 c.1 then
     (F.zp n (q,r,c.2,s,t,u,())).bind fun v =>
      bif !(v==0)then
       some ((([],0,[],0,[],0,()),v,()))
      else
       (F.zy n t).bind fun B =>
        some (((q,r,c.2,s,B,u,()),0,()))
    else
     none) n (2,([]++a0.2.2.1).length) (2,([]++a0.2.2.1).length) ((([]++a0.2.2.1).length:Nat):Int) 0 a0.1 a0.2.1 a0.2.2.1 a0.2.2.2.1 a0.2.2.2.2.1 a0.2.2.2.2.2.1 [] 0 [] 0 [] 0 (1,[]) (2,[]++a0.2.2.1) 0 0
 else
  none
noncomputable def F.zu.bu.step{X:Type}(n:Nat)(rec:Z6→Int→Int→Z6→Int→Int→Z6→Z6→Nat→Nat→Option X)(k0:Z6→Int→Int→Z6→Z6→Nat→Nat→Option X)(kr:Z6→Int→Int→Z6→Z6→Nat→Nat→Option X)(ue:Z6→Int→Int→Z6→Z6→Nat→Nat→Option X)(k:Z6)(l:Int)(e:Int)(f:Z6)(g:Int)(h:Int)(b:Z6)(d:Z6)(i:Nat)(j:Nat):Option X:=
 bif decide (e<l)then
  (idx k e).bind fun c =>
   (F.zl n (c.1,c.2.1,c.2.2.1,c.2.2.2.1,c.2.2.2.2.1,c.2.2.2.2.2,())).bind fun a =>
    bif !(a.2.1==0)then
     kr [] (b.length:Int) a.2.1 b d 0 j
    else
    bif decide ((b.length+1)*88≤2 ^ 46)&&decide (0<88∧88≤2 ^ 20)then
     bif afw j b.length then
      bif !(a.2.1==0)then
       ue f g h (b++([(a.1.1,a.1.2.1,a.1.2.2.1,a.1.2.2.2.1,a.1.2.2.2.2.1,a.1.2.2.2.2.2.1)])) d i ((b++([(a.1.1,a.1.2.1,a.1.2.2.1,a.1.2.2.2.1,a.1.2.2.2.2.1,a.1.2.2.2.2.2.1)])).length)
      else
       rec k l (afv .i64 (e+1)) f g h (b++([(a.1.1,a.1.2.1,a.1.2.2.1,a.1.2.2.2.1,a.1.2.2.2.2.1,a.1.2.2.2.2.2.1)])) d i ((b++([(a.1.1,a.1.2.1,a.1.2.2.1,a.1.2.2.2.1,a.1.2.2.2.2.1,a.1.2.2.2.2.2.1)])).length)
     else
      none
    else
     none
 else
  k0 f g h b d i j
noncomputable def F.zu.bu{X:Type}(n:Nat)(k0:Z6→Int→Int→Z6→Z6→Nat→Nat→Option X)(kr:Z6→Int→Int→Z6→Z6→Nat→Nat→Option X)(ue:Z6→Int→Int→Z6→Z6→Nat→Nat→Option X):Nat→Z6→Int→Int→Z6→Int→Int→Z6→Z6→Nat→Nat→Option X
 |0=>fun _ _ _ _ _ _ _ _ _ _=>none
 |m+1=>fun a b c d e f g h i j=>F.zu.bu.step n (F.zu.bu n k0 kr ue m) k0 kr ue a b c d e f g h i j
noncomputable def F.zu(n:Nat)(a0:Z6):Option ((Z6)×(Int)×(Int)×Unit):=
 bif decide ((a0.length:Int)>1000)then
  some (([],1000,12,()))
 else
  F.zu.bu n
   (fun f g h a i j k =>
    some ((a,0,0,())))
   (fun b c d l m o p =>
    some ((b,c,d,())))
   (fun q r s e t u v =>
    some ((e,0,0,()))) n a0 (a0.length:Int) 0 [] 0 0 [] a0 0 0
noncomputable def F.zi.L2.step{X:Type}(n:Nat)(rec:Int→Z7→Nat→Option X)(k0:Int→Z7→Nat→Option X)(a:Int)(b:Z7)(c:Nat):Option X:=
 bif decide (a≥128)then
  bif decide ((b.length+1)*1≤2 ^ 46)&&decide (0<1∧1≤2 ^ 20)then
   bif afw c b.length then
    rec (km .u64 a 7) (b++([afy ((bw .or .u8 (afv .u8 (a)) (128:Int))).toNat])) ((b++([afy ((bw .or .u8 (afv .u8 (a)) (128:Int))).toNat])).length)
   else
    none
  else
   none
 else
  k0 a b c
noncomputable def F.zi.L2{X:Type}(n:Nat)(k0:Int→Z7→Nat→Option X):Nat→Int→Z7→Nat→Option X
 |0=>fun _ _ _=>none
 |m+1=>fun a b c=>F.zi.L2.step n (F.zi.L2 n k0 m) k0 a b c
noncomputable def F.zi(n:Nat)(a0:Int):Option (Z7):=
 bif decide ((0:Int)=0)&&(decide ((0:Int)≤(10:Int))&&decide ((1:Int)*(10:Int)≤281474976710656)&&decide ((10:Int)≤281474976710656))&&true then
  F.zi.L2 n
   (fun b a c =>
    bif decide ((a.length+1)*1≤2 ^ 46)&&decide (0<1∧1≤2 ^ 20)then
     bif afw c a.length then
      ((bif afw ((a++([afy ((afv .u8 (b))).toNat])).length) ((a++([afy ((afv .u8 (b))).toNat])).length)then some (a++([afy ((afv .u8 (b))).toNat]),([none]:List (Option Nat)))else none).bind fun x=>some x.1)
     else
      none
    else
     none) n a0 [] 0
 else
  none
noncomputable def F.wJ(n:Nat)(a0:Int):Option (Z7):=
 some ([afy ((afv .u8 (km .u32 a0 (24:Int)))).toNat,afy ((afv .u8 (km .u32 a0 (16:Int)))).toNat,afy ((afv .u8 (km .u32 a0 (8:Int)))).toNat,afy ((afv .u8 (a0))).toNat])
noncomputable def F.k_.L2.step{X:Type}(n:Nat)(rec:Int→Int→Option X)(k0:Int→Option X)(a:Int)(b:Int):Option X:=
 bif decide (b<8)then
  rec (bw .xor .u32 (km .u32 a 1) (afv .u32 ((bw .and .u32 a 1)*3988292384))) (afv .i64 (b+1))
 else
  k0 a
noncomputable def F.k_.L2{X:Type}(n:Nat)(k0:Int→Option X):Nat→Int→Int→Option X
 |0=>fun _ _=>none
 |m+1=>fun a b=>F.k_.L2.step n (F.k_.L2 n k0 m) k0 a b
noncomputable def F.k_(n:Nat)(a0:Int):Option (Int):=
 F.k_.L2 n
  (fun a =>
   some (a)) n a0 0
noncomputable def F.lS.L3.step{X:Type}(n:Nat)(rec:Int→Z7→Int→Int→Option X)(k0:Int→Option X)(b:Int)(c:Z7)(d:Int)(a:Int):Option X:=
 bif decide (a<d)then
  (idx c a).bind fun e =>
   (F.k_ n (bw .xor .u32 b (afv .u32 ((e).toNat)))).bind fun f =>
    rec f c d (afv .i64 (a+1))
 else
  k0 b
noncomputable def F.lS.L3{X:Type}(n:Nat)(k0:Int→Option X):Nat→Int→Z7→Int→Int→Option X
 |0=>fun _ _ _ _=>none
 |m+1=>fun a b c d=>F.lS.L3.step n (F.lS.L3 n k0 m) k0 a b c d
noncomputable def F.lS(n:Nat)(a0:Int)(a1:Z7):Option (Int):=
 F.lS.L3 n
  (fun a =>
   some ((bw .xor .u32 a 4294967295))) n (bw .xor .u32 a0 4294967295) a1 (a1.length:Int) 0
noncomputable def F.rO(n:Nat)(a0:Z7):Option (Int):=
 (F.lS n 0 a0).bind fun a =>
  some (a)
noncomputable def F.qn(n:Nat)(a0:Mt)(a1:Mt):Option (Bool):=
 bif !(a0.1==a1.1)then
  some (Op.bytesLess a0.1 a1.1)
 else
  some (Op.bytesLess a0.2.1 a1.2.1)
noncomputable def F.lT.L2.step{X:Type}(n:Nat)(rec:Z4→Int→Option X)(k0:Unit→Option X)(kr:Bool→Option X)(a:Z4)(b:Int):Option X:=
 bif decide (b<(a.length:Int))then
  (idx a (afv .i64 (b - (1:Int)))).bind fun c =>
   (idx a b).bind fun d =>
    (F.qn n (c.1,c.2,()) (d.1,d.2,())).bind fun e =>
     bif !e then
      kr false
     else
      rec a (afv .i64 (b+1))
 else
  k0 ()
noncomputable def F.lT.L2{X:Type}(n:Nat)(k0:Unit→Option X)(kr:Bool→Option X):Nat→Z4→Int→Option X
 |0=>fun _ _=>none
 |m+1=>fun a b=>F.lT.L2.step n (F.lT.L2 n k0 kr m) k0 kr a b
noncomputable def F.lT(n:Nat)(a0:Z4):Option (Bool):=
 F.lT.L2 n
  (fun(_:Unit) =>
   some (true))
  (fun a =>
   some (a)) n a0 1
noncomputable def F.xk(n:Nat)(a0:Z9):Option (Bool):=
 (F.zp n (a0.1,a0.2.1,a0.2.2.1,a0.2.2.2.1,a0.2.2.2.2.1,a0.2.2.2.2.2.1,())).bind fun a =>
  bif a==0 then
   (F.lT n a0.2.2.2.2.1).bind fun b =>
    some (b)
  else
   some (false)
noncomputable def F.AH(n:Nat)(a0:Int):Option (Int):=
 bif decide (a0<0)then
  some ((bw .or .u64 (gk .u64 (bw .xor .u64 (IntKind.max .u64) (afv .u64 (a0))) 1) 1))
 else
  some ((gk .u64 (afv .u64 (a0)) 1))
noncomputable def F.vd(n:Nat)(a0:C7):Option ((Z7)×(Int)×Unit):=
 (F.rM n (a0.1,a0.2.1,a0.2.2.1,())).bind fun e =>
  bif !(e==0)then
   some (([],e,()))
  else
   (F.AH n a0.2.2.1).bind fun f =>
    bif a0.1 then
     (F.zi n (bw .or .u64 (gk .u64 f 1) (1:Int))).bind fun a =>
      (F.zi n a0.2.1).bind fun c =>
       bif decide ((a.length+c.length)*1≤2 ^ 46)&&decide (0<1∧1≤2 ^ 20)then
        bif afw a.length a.length then
         (((bif afw ((a++c).length) ((a++c).length)then some (a++c,([none,some c.length]:List (Option Nat)))else none).bind fun x=>some ((x.1,0,()),x.2)).bind fun z=>some z.1)
        else
         none
       else
        none
    else
     (F.zi n (gk .u64 f (1:Int))).bind fun b =>
      (F.zi n a0.2.1).bind fun d =>
       bif decide ((b.length+d.length)*1≤2 ^ 46)&&decide (0<1∧1≤2 ^ 20)then
        bif afw b.length b.length then
         (((bif afw ((b++d).length) ((b++d).length)then some (b++d,([none,some d.length]:List (Option Nat)))else none).bind fun x=>some ((x.1,0,()),x.2)).bind fun z=>some z.1)
        else
         none
       else
        none
noncomputable def F.zb.qN{X:Type}(n:Nat)(kr:Z7→Int→Int→eF→bF→Nat→Nat→Option X)(kn:Z6→Z7→Z6→Int→Int→eF→bF→Nat→Nat→Option X)(g:Z6)(a:Z7)(h:Int)(b:Z7)(c:Int)(i:Z6)(j:Int)(k:Int)(d:eF)(e:bF)(l:Nat)(m:Nat)(f:Nat):Option X:=
 bif !(c==0)then
  kr [] h c d e 0 f
 else
 bif decide ((a.length+b.length)*1≤2 ^ 46)&&decide (0<1∧1≤2 ^ 20)then
  bif afw l a.length then
   kn g (a++b) i j k d e ((a++b).length) f
  else
   none
 else
  none
noncomputable def F.zb.fM.step{X:Type}(n:Nat)(rec:Z2→Int→Int→eF→bF→Z0→Int→Z2→Int→Z4→Int→Z0→Int→Z2→Int→Z4→Int→Z7→Int→Nat→Nat→Nat→Option X)(k1:eF→bF→Z0→Int→Z2→Int→Z4→Int→Z0→Int→Z2→Int→Z4→Int→Z7→Int→Nat→Nat→Nat→Option X)(d:Z2)(e:Int)(c:Int)(f:eF)(g:bF)(h:Z0)(i:Int)(j:Z2)(k:Int)(l:Z4)(m:Int)(o:Z0)(p:Int)(q:Z2)(r:Int)(s:Z4)(t:Int)(a:Z7)(u:Int)(v:Nat)(w:Nat)(x:Nat):Option X:=
 bif decide (c<e)then
  (idx d c).bind fun y =>
   (F.vd n (y.1,y.2.1,y.2.2,())).bind fun b =>
    bif u==0 then
     bif decide ((a.length+b.1.length)*1≤2 ^ 46)&&decide (0<1∧1≤2 ^ 20)then
      bif afw x a.length then
       rec d e (afv .i64 (c+1)) f g h i j k l m o p q r s t (a++b.1) b.2.1 v w ((a++b.1).length)
      else
       none
     else
      none
    else
    bif decide ((a.length+b.1.length)*1≤2 ^ 46)&&decide (0<1∧1≤2 ^ 20)then
     bif afw x a.length then
      rec d e (afv .i64 (c+1)) f g h i j k l m o p q r s t (a++b.1) u v w ((a++b.1).length)
     else
      none
    else
     none
 else
  k1 f g h i j k l m o p q r s t a u v w x
noncomputable def F.zb.fM{X:Type}(n:Nat)(k1:eF→bF→Z0→Int→Z2→Int→Z4→Int→Z0→Int→Z2→Int→Z4→Int→Z7→Int→Nat→Nat→Nat→Option X):Nat→Z2→Int→Int→eF→bF→Z0→Int→Z2→Int→Z4→Int→Z0→Int→Z2→Int→Z4→Int→Z7→Int→Nat→Nat→Nat→Option X
 |0=>fun _ _ _ _ _ _ _ _ _ _ _ _ _ _ _ _ _ _ _ _ _ _=>none
 |m+1=>fun a b c d e f g h i j k l o p q r s t u v w x=>F.zb.fM.step n (F.zb.fM n k1 m) k1 a b c d e f g h i j k l o p q r s t u v w x
noncomputable def F.zb.eZ{X:Type}(n:Nat)(kn:Z4→Int→Int→eF→bF→Z0→Int→Z2→Int→Z4→Int→Z0→Int→Z2→Int→Z4→Int→Z7→Int→Nat→Nat→Nat→Option X)(g:Z4)(h:Int)(i:Int)(f:eF)(c:bF)(j:Z0)(k:Int)(l:Z2)(m:Int)(o:Z4)(p:Int)(q:Z0)(r:Int)(s:Z2)(t:Int)(u:Z4)(v:Int)(a:Z7)(w:Int)(C:Z0)(b:Z0)(x:Nat)(z:Nat)(y:Nat):Option X:=
 js f b (fun B =>
  (F.zi n (afv .u64 (B))).bind fun A =>
   lZ (some [(.fn 74 [] [(.ref 5 0),(.ref 4 0)])]) (some [(.fn 74 [] [(.ref 5 0),(.ref 4 0)])]) (
    bif w==0 then
     bif decide ((a.length+A.length)*1≤2 ^ 46)&&decide (0<1∧1≤2 ^ 20)then
      bif afw y a.length then
       kn g h i f c j k l m o p q r s t u v (a++A) 0 x z ((a++A).length)
      else
       none
     else
      none
    else
    bif decide ((a.length+A.length)*1≤2 ^ 46)&&decide (0<1∧1≤2 ^ 20)then
     bif afw y a.length then
      kn g h i f c j k l m o p q r s t u v (a++A) w x z ((a++A).length)
     else
      none
    else
     none))
  (
   bif decide ((b.length:Int)>200)then
    lZ (some [(.fn 74 [] [(.ref 5 0),(.ref 4 0)])]) (some [(.fn 74 [] [(.ref 5 0),(.ref 4 0)])]) (
     bif w==0 then
      bif decide ((a.length+0)*1≤2 ^ 46)&&decide (0<1∧1≤2 ^ 20)then
       bif afw y a.length then
        kn g h i f c j k l m o p q r s t u v (a++[]) 12 x z ((a++[]).length)
       else
        none
      else
       none
     else
     bif decide ((a.length+0)*1≤2 ^ 46)&&decide (0<1∧1≤2 ^ 20)then
      bif afw y a.length then
       kn g h i f c j k l m o p q r s t u v (a++[]) w x z ((a++[]).length)
      else
       none
     else
      none)
   else
   bif decide ((c.length:Int)≥65536)then
    lZ (some [(.fn 74 [] [(.ref 5 0),(.ref 4 0)])]) (some [(.fn 74 [] [(.ref 5 0),(.ref 4 0)])]) (
     bif w==0 then
      bif decide ((a.length+0)*1≤2 ^ 46)&&decide (0<1∧1≤2 ^ 20)then
       bif afw y a.length then
        kn g h i f c j k l m o p q r s t u v (a++[]) 12 x z ((a++[]).length)
       else
        none
      else
       none
     else
     bif decide ((a.length+0)*1≤2 ^ 46)&&decide (0<1∧1≤2 ^ 20)then
      bif afw y a.length then
       kn g h i f c j k l m o p q r s t u v (a++[]) w x z ((a++[]).length)
      else
       none
     else
      none)
   else
   bif decide ((c.length+1)*16≤2 ^ 46)&&decide (0<16∧16≤2 ^ 20)then
    bif afw z c.length then
     (F.zi n (0:Int)).bind fun d =>
      (F.zi n (afv .u64 ((b.length:Int)))).bind fun e =>
       bif decide ((d.length+e.length)*1≤2 ^ 46)&&decide (0<1∧1≤2 ^ 20)then
        bif afw d.length d.length then
         bif decide ((((d++e).length)+b.length)*1≤2 ^ 46)&&decide (0<1∧1≤2 ^ 20)then
          bif afw ((d++e).length) ((d++e).length)then
           lZ (some [(.fn 74 [] [(.ref 5 0),(.ref 4 0)])]) (some [(.fn 74 [] [(.ref 5 0),(.ref 4 0)])]) (
            bif w==0 then
             bif decide ((a.length+(((d++e)++b).length))*1≤2 ^ 46)&&decide (0<1∧1≤2 ^ 20)then
              bif afw y a.length then
               kn g h i (gZ f b ((c++([b])).length:Int)) (c++([b])) j k l m o p q r s t u v (a++((d++e)++b)) 0 x ((c++([b])).length) ((a++((d++e)++b)).length)
              else
               none
             else
              none
            else
            bif decide ((a.length+(((d++e)++b).length))*1≤2 ^ 46)&&decide (0<1∧1≤2 ^ 20)then
             bif afw y a.length then
              kn g h i (gZ f b ((c++([b])).length:Int)) (c++([b])) j k l m o p q r s t u v (a++((d++e)++b)) w x ((c++([b])).length) ((a++((d++e)++b)).length)
             else
              none
            else
             none)
          else
           none
         else
          none
        else
         none
       else
        none
    else
     none
   else
    none)
noncomputable def F.zb.fx.step {X:Type} (n:Nat) (rec:Z4→Int→Int→eF→bF→Z0→Int→Z2→Int→Z4→Int→Z0→Int→Z2→Int→Z4→Int→Z7→Int→Nat→Nat→Nat→Option X) (k3:eF→bF→Z0→Int→Z2→Int→Z4→Int→Z0→Int→Z2→Int→Z4→Int→Z7→Int→Nat→Nat→Nat→Option X) (h:Z4) (i:Int) (e:Int) (f:eF) (c:bF) (j:Z0) (k:Int) (l:Z2) (m:Int) (o:Z4) (p:Int) (q:Z0) (r:Int) (s:Z2) (t:Int) (u:Z4) (v:Int) (b:Z7) (w:Int) (x:Nat) (z:Nat) (y:Nat):Option X:=
 bif decide (e < i)then
  (idx h e).bind fun a =>
   js f a.1 (fun B =>
    (F.zi n (afv .u64 (B))).bind fun A =>
     lZ (some [(.fn 74 [] [(.ref 5 0),(.ref 4 0)])]) (some [(.fn 74 [] [(.ref 5 0),(.ref 4 0)])]) (
      bif w==0 then
       bif decide ((b.length+A.length)*1≤2 ^ 46)&&decide (0<1∧1≤2 ^ 20)then
        bif afw y b.length then
         F.zb.eZ n
          (fun C D E G H I J K L M N O P Q R S T U V W Y Z =>
           rec C D (afv .i64 (E+1)) G H I J K L M N O P Q R S T U V W Y Z) h i e f c j k l m o p q r s t u v (b++A) 0 a.1 a.2 x z ((b++A).length)
        else
         none
       else
        none
      else
      bif decide ((b.length+A.length)*1≤2 ^ 46)&&decide (0<1∧1≤2 ^ 20)then
       bif afw y b.length then
        F.zb.eZ n
         (fun a0 a1 a2 a3 a4 a5 a6 a7 a8 a9 aA aB aC aD aE aG aH aI aJ aK aL aM =>
          rec a0 a1 (afv .i64 (a2+1)) a3 a4 a5 a6 a7 a8 a9 aA aB aC aD aE aG aH aI aJ aK aL aM) h i e f c j k l m o p q r s t u v (b++A) w a.1 a.2 x z ((b++A).length)
       else
        none
      else
       none))
    (
     bif decide ((a.1.length:Int)>200)then
      lZ (some [(.fn 74 [] [(.ref 5 0),(.ref 4 0)])]) (some [(.fn 74 [] [(.ref 5 0),(.ref 4 0)])]) (
       bif w==0 then
        bif decide ((b.length+0)*1≤2 ^ 46)&&decide (0<1∧1≤2 ^ 20)then
         bif afw y b.length then
          F.zb.eZ n
           (fun aN aO aP aQ aR aS aT aU aV aW aY aZ b0 b1 b2 b3 b4 b5 b6 b7 b8 b9 =>
            rec aN aO (afv .i64 (aP+1)) aQ aR aS aT aU aV aW aY aZ b0 b1 b2 b3 b4 b5 b6 b7 b8 b9) h i e f c j k l m o p q r s t u v (b++[]) 12 a.1 a.2 x z ((b++[]).length)
         else
          none
        else
         none
       else
       bif decide ((b.length+0)*1≤2 ^ 46)&&decide (0<1∧1≤2 ^ 20)then
        bif afw y b.length then
         F.zb.eZ n
          (fun bA bB bC bD bE bG bH bI bJ bK bL bM bN bO bP bQ bR bS bT bU bV bW =>
           rec bA bB (afv .i64 (bC+1)) bD bE bG bH bI bJ bK bL bM bN bO bP bQ bR bS bT bU bV bW) h i e f c j k l m o p q r s t u v (b++[]) w a.1 a.2 x z ((b++[]).length)
        else
         none
       else
        none)
     else
     bif decide ((c.length:Int)≥65536)then
      lZ (some [(.fn 74 [] [(.ref 5 0),(.ref 4 0)])]) (some [(.fn 74 [] [(.ref 5 0),(.ref 4 0)])]) (
       bif w==0 then
        bif decide ((b.length+0)*1≤2 ^ 46)&&decide (0<1∧1≤2 ^ 20)then
         bif afw y b.length then
          F.zb.eZ n
           (fun bY bZ c0 c1 c2 c3 c4 c5 c6 c7 c8 c9 cA cB cC cD cE cG cH cI cJ cK =>
            rec bY bZ (afv .i64 (c0+1)) c1 c2 c3 c4 c5 c6 c7 c8 c9 cA cB cC cD cE cG cH cI cJ cK) h i e f c j k l m o p q r s t u v (b++[]) 12 a.1 a.2 x z ((b++[]).length)
         else
          none
        else
         none
       else
       bif decide ((b.length+0)*1≤2 ^ 46)&&decide (0<1∧1≤2 ^ 20)then
        bif afw y b.length then
         F.zb.eZ n
          (fun cL cM cN cO cP cQ cR cS cT cU cV cW cY cZ d0 d1 d2 d3 d4 d5 d6 d7 =>
           rec cL cM (afv .i64 (cN+1)) cO cP cQ cR cS cT cU cV cW cY cZ d0 d1 d2 d3 d4 d5 d6 d7) h i e f c j k l m o p q r s t u v (b++[]) w a.1 a.2 x z ((b++[]).length)
        else
         none
       else
        none)
     else
     bif decide ((c.length+1)*16≤2 ^ 46)&&decide (0<16∧16≤2 ^ 20)then
      bif afw z c.length then
       (F.zi n (0 : Int)).bind fun d =>
        (F.zi n (afv .u64 ((a.1.length:Int)))).bind fun g =>
         bif decide ((d.length+g.length)*1≤2 ^ 46)&&decide (0<1∧1≤2 ^ 20)then
          bif afw d.length d.length then
           bif decide ((((d++g).length)+a.1.length)*1≤2 ^ 46)&&decide (0<1∧1≤2 ^ 20)then
            bif afw ((d++g).length) ((d++g).length)then
             lZ (some [(.fn 74 [] [(.ref 5 0),(.ref 4 0)])]) (some [(.fn 74 [] [(.ref 5 0),(.ref 4 0)])]) (
              bif w==0 then
               bif decide ((b.length+(((d++g)++a.1).length))*1≤2 ^ 46)&&decide (0<1∧1≤2 ^ 20)then
                bif afw y b.length then
                 F.zb.eZ n
                  (fun d8 d9 dA dB dC dD dE dG dH dI dJ dK dL dM dN dO dP dQ dR dS dT dU =>
                   rec d8 d9 (afv .i64 (dA+1)) dB dC dD dE dG dH dI dJ dK dL dM dN dO dP dQ dR dS dT dU) h i e (gZ f a.1 ((c++([a.1])).length:Int)) (c++([a.1])) j k l m o p q r s t u v (b++((d++g)++a.1)) 0 a.1 a.2 x ((c++([a.1])).length) ((b++((d++g)++a.1)).length)
                else
                 none
               else
                none
              else
              bif decide ((b.length+(((d++g)++a.1).length))*1≤2 ^ 46)&&decide (0<1∧1≤2 ^ 20)then
               bif afw y b.length then
                F.zb.eZ n
                 (fun dV dW dY dZ e0 e1 e2 e3 e4 e5 e6 e7 e8 e9 eA eB eC eD eE eG eH eI =>
                  rec dV dW (afv .i64 (dY+1)) dZ e0 e1 e2 e3 e4 e5 e6 e7 e8 e9 eA eB eC eD eE eG eH eI) h i e (gZ f a.1 ((c++([a.1])).length:Int)) (c++([a.1])) j k l m o p q r s t u v (b++((d++g)++a.1)) w a.1 a.2 x ((c++([a.1])).length) ((b++((d++g)++a.1)).length)
               else
                none
              else
               none)
            else
             none
           else
            none
          else
           none
         else
          none
      else
       none
     else
      none)
 else
  k3 f c j k l m o p q r s t u v b w x z y
noncomputable def F.zb.fx{X:Type}(n:Nat)(k3:eF→bF→Z0→Int→Z2→Int→Z4→Int→Z0→Int→Z2→Int→Z4→Int→Z7→Int→Nat→Nat→Nat→Option X):Nat→Z4→Int→Int→eF→bF→Z0→Int→Z2→Int→Z4→Int→Z0→Int→Z2→Int→Z4→Int→Z7→Int→Nat→Nat→Nat→Option X
 |0=>fun _ _ _ _ _ _ _ _ _ _ _ _ _ _ _ _ _ _ _ _ _ _=>none
 |m+1=>fun a b c d e f g h i j k l o p q r s t u v w x=>F.zb.fx.step n (F.zb.fx n k3 m) k3 a b c d e f g h i j k l o p q r s t u v w x
noncomputable def F.zb.mO{X:Type}(n:Nat)(kr:Z7→Int→eF→bF→Z0→Int→Z2→Int→Z4→Int→Nat→Nat→Nat→Option X)(q:eF)(r:bF)(s:Z0)(t:Int)(u:Z2)(v:Int)(w:Z4)(x:Int)(y:Z0)(z:Int)(A:Z2)(B:Int)(c:Z4)(C:Int)(D:Z7)(E:Int)(G:Nat)(H:Nat)(I:Nat):Option X:=
 F.zb.fx n
  (fun d e f g h i j k K L M N O J a l m o p =>
   (F.zi n (afv .u64 (J))).bind fun b =>
    bif l==0 then
     bif decide ((a.length+b.length)*1≤2 ^ 46)&&decide (0<1∧1≤2 ^ 20)then
      bif afw p a.length then
       kr (a++b) 0 d e f g h i j k m o ((a++b).length)
      else
       none
     else
      none
    else
    bif decide ((a.length+b.length)*1≤2 ^ 46)&&decide (0<1∧1≤2 ^ 20)then
     bif afw p a.length then
      bif !(l==0)then
       kr [] l d e f g h i j k m o 0
      else
       kr (a++b) 0 d e f g h i j k m o ((a++b).length)
     else
      none
    else
     none) n c (c.length:Int) 0 q r s t u v w x y z A B c C D E G H I
noncomputable def F.zb.mP{X:Type}(n:Nat)(kr:Z7→Int→eF→bF→Z0→Int→Z2→Int→Z4→Int→Nat→Nat→Nat→Option X)(d:eF)(e:bF)(f:Z0)(g:Int)(h:Z2)(i:Int)(j:Z4)(k:Int)(l:Z0)(m:Int)(o:Z2)(p:Int)(c:Z4)(q:Int)(a:Z7)(r:Int)(s:Nat)(t:Nat)(u:Nat):Option X:=
 (F.zi n (afv .u64 ((c.length:Int)))).bind fun b =>
  bif r==0 then
   bif decide ((a.length+b.length)*1≤2 ^ 46)&&decide (0<1∧1≤2 ^ 20)then
    bif afw u a.length then
     F.zb.mO n
      (fun v w x y z A B C D E G H I =>
       kr v w x y z A B C D E G H I) d e f g h i j k l m o p c q (a++b) 0 s t ((a++b).length)
    else
     none
   else
    none
  else
  bif decide ((a.length+b.length)*1≤2 ^ 46)&&decide (0<1∧1≤2 ^ 20)then
   bif afw u a.length then
    F.zb.mO n
     (fun J K L M N O P Q R S T U V =>
      kr J K L M N O P Q R S T U V) d e f g h i j k l m o p c q (a++b) r s t ((a++b).length)
   else
    none
  else
   none
noncomputable def F.zb.mQ{X:Type}(n:Nat)(kr:Z7→Int→eF→bF→Z0→Int→Z2→Int→Z4→Int→Nat→Nat→Nat→Option X)(w:eF)(x:bF)(y:Z0)(z:Int)(A:Z2)(B:Int)(C:Z4)(D:Int)(E:Z0)(G:Int)(c:Z2)(H:Int)(I:Z4)(J:Int)(K:Z7)(L:Int)(M:Nat)(N:Nat)(O:Nat):Option X:=
 F.zb.fM n
  (fun e f g h i j k l m o p d q r a s t u v =>
   (F.zi n (afv .u64 (d))).bind fun b =>
    bif s==0 then
     bif decide ((a.length+b.length)*1≤2 ^ 46)&&decide (0<1∧1≤2 ^ 20)then
      bif afw v a.length then
       F.zb.mP n
        (fun P Q R S T U V W Y Z a0 a1 a2 =>
         kr P Q R S T U V W Y Z a0 a1 a2) e f g h i j k l m o p d q r (a++b) 0 t u ((a++b).length)
      else
       none
     else
      none
    else
    bif decide ((a.length+b.length)*1≤2 ^ 46)&&decide (0<1∧1≤2 ^ 20)then
     bif afw v a.length then
      F.zb.mP n
       (fun a3 a4 a5 a6 a7 a8 a9 aA aB aC aD aE aG =>
        kr a3 a4 a5 a6 a7 a8 a9 aA aB aC aD aE aG) e f g h i j k l m o p d q r (a++b) s t u ((a++b).length)
     else
      none
    else
     none) n c (c.length:Int) 0 w x y z A B C D E G c H I J K L M N O
noncomputable def F.zb.mR{X:Type}(n:Nat)(kr:Z7→Int→eF→bF→Z0→Int→Z2→Int→Z4→Int→Nat→Nat→Nat→Option X)(d:eF)(e:bF)(f:Z0)(g:Int)(h:Z2)(i:Int)(j:Z4)(k:Int)(l:Z0)(m:Int)(c:Z2)(o:Int)(p:Z4)(q:Int)(a:Z7)(r:Int)(s:Nat)(t:Nat)(u:Nat):Option X:=
 (F.zi n (afv .u64 ((c.length:Int)))).bind fun b =>
  bif r==0 then
   bif decide ((a.length+b.length)*1≤2 ^ 46)&&decide (0<1∧1≤2 ^ 20)then
    bif afw u a.length then
     F.zb.mQ n
      (fun v w x y z A B C D E G H I =>
       kr v w x y z A B C D E G H I) d e f g h i j k l m c o p q (a++b) 0 s t ((a++b).length)
    else
     none
   else
    none
  else
  bif decide ((a.length+b.length)*1≤2 ^ 46)&&decide (0<1∧1≤2 ^ 20)then
   bif afw u a.length then
    F.zb.mQ n
     (fun J K L M N O P Q R S T U V =>
      kr J K L M N O P Q R S T U V) d e f g h i j k l m c o p q (a++b) r s t ((a++b).length)
   else
    none
  else
   none
noncomputable def F.zb.gK{X:Type}(n:Nat)(kr:Z7→Int→eF→bF→Z0→Int→Z2→Int→Z4→Int→Nat→Nat→Nat→Option X)(c:eF)(d:bF)(e:Z0)(f:Int)(g:Z2)(h:Int)(i:Z4)(j:Int)(k:Z0)(b:Int)(l:Z2)(m:Int)(o:Z4)(p:Int)(a:Z7)(q:Int)(r:Nat)(s:Nat)(t:Nat):Option X:=
 bif q==0 then
  bif decide ((a.length+1)*1≤2 ^ 46)&&decide (0<1∧1≤2 ^ 20)then
   bif afw t a.length then
    F.zb.mR n
     (fun u v w x y z A B C D E G H =>
      kr u v w x y z A B C D E G H) c d e f g h i j k b l m o p (a++([afy ((afv .u8 (b))).toNat])) 0 r s ((a++([afy ((afv .u8 (b))).toNat])).length)
   else
    none
  else
   none
 else
 bif decide ((a.length+1)*1≤2 ^ 46)&&decide (0<1∧1≤2 ^ 20)then
  bif afw t a.length then
   F.zb.mR n
    (fun I J K L M N O P Q R S T U =>
     kr I J K L M N O P Q R S T U) c d e f g h i j k b l m o p (a++([afy ((afv .u8 (b))).toNat])) q r s ((a++([afy ((afv .u8 (b))).toNat])).length)
  else
   none
 else
  none
noncomputable def F.zb.L7.step {X:Type} (n:Nat) (rec:Z6→Z7→Z6→Int→Int→eF→bF→Nat→Nat→Option X) (k0:Z6→Z7→eF→bF→Nat→Nat→Option X) (kr:Z7→Int→Int→eF→bF→Nat→Nat→Option X) (f:Z6) (g:Z7) (h:Z6) (i:Int) (b:Int) (d:eF) (c:bF) (j:Nat) (k:Nat):Option X:=
 bif decide (b < i) then
  (idx h b).bind fun a =>
   (F.zp n (a.1, a.2.1,a.2.2.1,a.2.2.2.1,a.2.2.2.2.1,a.2.2.2.2.2,())).bind fun o =>
    bif !(o==0)then
     F.zb.qN n
      (fun p q r s t u v =>
       kr p q r s t u v)
      (fun w x y z A B C D E =>
       rec w x y z (afv .i64 (A+1)) B C D E) f g b [] o h i b d c j 0 k
    else
     (F.xk n (a.1, a.2.1,a.2.2.1,a.2.2.2.1,a.2.2.2.2.1,a.2.2.2.2.2,())).bind fun G =>
      bif !G then
       F.zb.qN n
        (fun H I J K L M N =>
         kr H I J K L M N)
        (fun O P Q R S T U V W =>
         rec O P Q R (afv .i64 (S+1)) T U V W) f g b [] 21 h i b d c j 0 k
      else
      bif decide ((c.length:Int)>65471)then
       F.zb.qN n
        (fun Y Z a0 a1 a2 a3 a4 =>
         kr Y Z a0 a1 a2 a3 a4)
        (fun a5 a6 a7 a8 a9 aA aB aC aD =>
         rec a5 a6 a7 a8 (afv .i64 (a9+1)) aA aB aC aD) f g b [] 12 h i b d c j 0 k
      else
       js d a.1 (fun aE =>
        (F.zi n (afv .u64 (aE))).bind fun m =>
         lZ (some [(.fn 74 [] [(.ref 5 0),(.ref 4 0)])]) (some [(.fn 74 [] [(.ref 5 0),(.ref 4 0)])]) (
          bif decide ((0+m.length)*1≤2 ^ 46)&&decide (0<1∧1≤2 ^ 20)then
           F.zb.gK n
            (fun aG aH aI aJ d5 d6 d7 d8 d9 dA aK aL aM =>
             F.zb.qN n
              (fun aN aO aP aQ aR aS aT =>
               kr aN aO aP aQ aR aS aT)
              (fun aU aV aW aY aZ b0 b1 b2 b3 =>
               rec aU aV aW aY (afv .i64 (aZ+1)) b0 b1 b2 b3) f g b aG aH h i b aI aJ aK aM aL) d c a.1 a.2.1 a.2.2.1 a.2.2.2.1 a.2.2.2.2.1 a.2.2.2.2.2 a.1 a.2.1 a.2.2.1 a.2.2.2.1 a.2.2.2.2.1 a.2.2.2.2.2 ([]++m) 0 j k (([]++m).length)
          else
           none))
        (
         bif decide ((a.1.length:Int)>200)then
          lZ (some [(.fn 74 [] [(.ref 5 0),(.ref 4 0)])]) (some [(.fn 74 [] [(.ref 5 0),(.ref 4 0)])]) (
           bif decide ((0+0)*1≤2 ^ 46)&&decide (0<1∧1≤2 ^ 20)then
            F.zb.gK n
             (fun b4 b5 b6 b7 dB dC dD dE dG dH b8 b9 bA =>
              F.zb.qN n
               (fun bB bC bD bE bG bH bI =>
                kr bB bC bD bE bG bH bI)
               (fun bJ bK bL bM bN bO bP bQ bR =>
                rec bJ bK bL bM (afv .i64 (bN+1)) bO bP bQ bR) f g b b4 b5 h i b b6 b7 b8 bA b9) d c a.1 a.2.1 a.2.2.1 a.2.2.2.1 a.2.2.2.2.1 a.2.2.2.2.2 a.1 a.2.1 a.2.2.1 a.2.2.2.1 a.2.2.2.2.1 a.2.2.2.2.2 [] 12 j k 0
           else
            none)
         else
         bif decide ((c.length:Int)≥65536)then
          lZ (some [(.fn 74 [] [(.ref 5 0),(.ref 4 0)])]) (some [(.fn 74 [] [(.ref 5 0),(.ref 4 0)])]) (
           bif decide ((0+0)*1≤2 ^ 46)&&decide (0<1∧1≤2 ^ 20)then
            F.zb.gK n
             (fun bS bT bU bV dI dJ dK dL dM dN bW bY bZ =>
              F.zb.qN n
               (fun c0 c1 c2 c3 c4 c5 c6 =>
                kr c0 c1 c2 c3 c4 c5 c6)
               (fun c7 c8 c9 cA cB cC cD cE cG =>
                rec c7 c8 c9 cA (afv .i64 (cB+1)) cC cD cE cG) f g b bS bT h i b bU bV bW bZ bY) d c a.1 a.2.1 a.2.2.1 a.2.2.2.1 a.2.2.2.2.1 a.2.2.2.2.2 a.1 a.2.1 a.2.2.1 a.2.2.2.1 a.2.2.2.2.1 a.2.2.2.2.2 [] 12 j k 0
           else
            none)
         else
         bif decide ((c.length+1)*16≤2 ^ 46)&&decide (0<16∧16≤2 ^ 20)then
          bif afw k c.length then
           (F.zi n (0 : Int)).bind fun e =>
            (F.zi n (afv .u64 ((a.1.length:Int)))).bind fun l =>
             bif decide ((e.length+l.length)*1≤2 ^ 46)&&decide (0<1∧1≤2 ^ 20)then
              bif afw e.length e.length then
               bif decide ((((e++l).length)+a.1.length)*1≤2 ^ 46)&&decide (0<1∧1≤2 ^ 20)then
                bif afw ((e++l).length) ((e++l).length)then
                 lZ (some [(.fn 74 [] [(.ref 5 0),(.ref 4 0)])]) (some [(.fn 74 [] [(.ref 5 0),(.ref 4 0)])]) (
                  bif decide ((0+(((e++l)++a.1).length))*1≤2 ^ 46)&&decide (0<1∧1≤2 ^ 20)then
                   F.zb.gK n
                    (fun cH cI cJ cK dO dP dQ dR dS dT cL cM cN =>
                     F.zb.qN n
                      (fun cO cP cQ cR cS cT cU =>
                       kr cO cP cQ cR cS cT cU)
                      (fun cV cW cY cZ d0 d1 d2 d3 d4 =>
                       rec cV cW cY cZ (afv .i64 (d0+1)) d1 d2 d3 d4) f g b cH cI h i b cJ cK cL cN cM) (gZ d a.1 ((c++([a.1])).length:Int)) (c++([a.1])) a.1 a.2.1 a.2.2.1 a.2.2.2.1 a.2.2.2.2.1 a.2.2.2.2.2 a.1 a.2.1 a.2.2.1 a.2.2.2.1 a.2.2.2.2.1 a.2.2.2.2.2 ([]++((e++l)++a.1)) 0 j ((c++([a.1])).length) (([]++((e++l)++a.1)).length)
                  else
                   none)
                else
                 none
               else
                none
              else
               none
             else
              none
          else
           none
         else
          none)
 else
  k0 f g d c j k
noncomputable def F.zb.L7{X:Type}(n:Nat)(k0:Z6→Z7→eF→bF→Nat→Nat→Option X)(kr:Z7→Int→Int→eF→bF→Nat→Nat→Option X):Nat→Z6→Z7→Z6→Int→Int→eF→bF→Nat→Nat→Option X
 |0=>fun _ _ _ _ _ _ _ _ _=>none
 |m+1=>fun a b c d e f g h i=>F.zb.L7.step n (F.zb.L7 n k0 kr m) k0 kr a b c d e f g h i
noncomputable def F.zb(n:Nat)(a0:Z6):Option ((Z7)×(Int)×(Int)×Unit):=
 (F.zu n a0).bind fun c =>
  bif !(c.2.2.1==0)then
   some (([],c.2.1,c.2.2.1,()))
  else
   (F.zi n (afv .u64 ((c.1.length:Int)))).bind fun d =>
    F.zb.L7 n
     (fun f b k l m o =>
      bif decide ((b.length:Int)>1048576)then
       some (([],(f.length:Int),12,()))
      else
       (F.zi n (afv .u64 ((b.length:Int)))).bind fun a =>
        bif decide ((3+a.length)*1≤2 ^ 46)&&decide (0<1∧1≤2 ^ 20)then
         bif decide ((((([afy ((77:Int)).toNat,afy ((71:Int)).toNat,afy ((1:Int)).toNat])++a).length)+b.length)*1≤2 ^ 46)&&decide (0<1∧1≤2 ^ 20)then
          bif afw ((([afy ((77:Int)).toNat,afy ((71:Int)).toNat,afy ((1:Int)).toNat])++a).length) ((([afy ((77:Int)).toNat,afy ((71:Int)).toNat,afy ((1:Int)).toNat])++a).length)then
           (F.rO n ((([afy ((77:Int)).toNat,afy ((71:Int)).toNat,afy ((1:Int)).toNat])++a)++b)).bind fun g =>
            (F.wJ n g).bind fun e =>
             bif decide (((((([afy ((77:Int)).toNat,afy ((71:Int)).toNat,afy ((1:Int)).toNat])++a)++b).length)+e.length)*1≤2 ^ 46)&&decide (0<1∧1≤2 ^ 20)then
              bif afw (((([afy ((77:Int)).toNat,afy ((71:Int)).toNat,afy ((1:Int)).toNat])++a)++b).length) (((([afy ((77:Int)).toNat,afy ((71:Int)).toNat,afy ((1:Int)).toNat])++a)++b).length)then
               some ((((([afy ((77:Int)).toNat,afy ((71:Int)).toNat,afy ((1:Int)).toNat])++a)++b)++e,0,0,()))
              else
               none
             else
              none
          else
           none
         else
          none
        else
         none)
     (fun h i j p q r s =>
      some ((h,i,j,()))) n a0 d c.1 (c.1.length:Int) 0 [] [] d.length 0
noncomputable def F.xU(n:Nat)(a0:Z9):Option ((Bool)×(Int)×Unit):=
 (F.zp n (a0.1,a0.2.1,a0.2.2.1,a0.2.2.2.1,a0.2.2.2.2.1,a0.2.2.2.2.2.1,())).bind fun a =>
  some ((true,a,()))
noncomputable def F.zz.dh.step{X:Type}(n:Nat)(rec:Z6→Int→Int→qj→Int→Int→qj→Z6→Nat→Nat→Option X)(k0:qj→Int→Int→qj→Z6→Nat→Nat→Option X)(kr:qj→Int→Int→qj→Z6→Nat→Nat→Option X)(ue:qj→Int→Int→qj→Z6→Nat→Nat→Option X)(k:Z6)(l:Int)(e:Int)(f:qj)(g:Int)(h:Int)(a:qj)(d:Z6)(i:Nat)(j:Nat):Option X:=
 bif decide (e<l)then
  (idx k e).bind fun c =>
   (F.xU n (c.1,c.2.1,c.2.2.1,c.2.2.2.1,c.2.2.2.2.1,c.2.2.2.2.2,())).bind fun b =>
    bif !(b.2.1==0)then
     kr [] (a.length:Int) b.2.1 a d 0 j
    else
    bif decide ((a.length+1)*1≤2 ^ 46)&&decide (0<1∧1≤2 ^ 20)then
     bif afw j a.length then
      bif !(b.2.1==0)then
       ue f g h (a++([b.1])) d i ((a++([b.1])).length)
      else
       rec k l (afv .i64 (e+1)) f g h (a++([b.1])) d i ((a++([b.1])).length)
     else
      none
    else
     none
 else
  k0 f g h a d i j
noncomputable def F.zz.dh{X:Type}(n:Nat)(k0:qj→Int→Int→qj→Z6→Nat→Nat→Option X)(kr:qj→Int→Int→qj→Z6→Nat→Nat→Option X)(ue:qj→Int→Int→qj→Z6→Nat→Nat→Option X):Nat→Z6→Int→Int→qj→Int→Int→qj→Z6→Nat→Nat→Option X
 |0=>fun _ _ _ _ _ _ _ _ _ _=>none
 |m+1=>fun a b c d e f g h i j=>F.zz.dh.step n (F.zz.dh n k0 kr ue m) k0 kr ue a b c d e f g h i j
noncomputable def F.zz(n:Nat)(a0:Z6):Option ((Int)×(Int)×Unit):=
 bif decide ((a0.length:Int)>1000)then
  some ((1000,12,()))
 else
  F.zz.dh n
   (fun c d e f g h i =>
    some ((0,0,())))
   (fun j a b k l m o =>
    some ((a,b,())))
   (fun p q r s t u v =>
    some ((0,0,()))) n a0 (a0.length:Int) 0 [] 0 0 [] a0 0 0
noncomputable def F.lB(n:Nat)(a0:Z9):Option (Bool):=
 bif (a0.2.2.1.length:Int)==1 then
  some ((a0.2.2.2.2.1.length:Int)==0)
 else
  some (false)
noncomputable def F.rP(n:Nat)(a0:Z9):Option (Bool):=
 (F.lB n (a0.1,a0.2.1,a0.2.2.1,a0.2.2.2.1,a0.2.2.2.2.1,a0.2.2.2.2.2.1,())).bind fun a =>
  bif !a then
   some (false)
  else
  bif !(a0.2.2.2.2.2.1==0)then
   some (false)
  else
  bif a0.2.1==5 then
   some (false)
  else
  bif !(a0.2.1==2)then
   some (true)
  else
   (idx a0.2.2.1 (0:Int)).bind fun b =>
    some (!b.1)
noncomputable def F.qO(n:Nat)(a0:Z9):Option (Bool):=
 some (true)
noncomputable def F.qg(n:Nat)(a0:Z9):Option (Bool):=
 (F.lB n (a0.1,a0.2.1,a0.2.2.1,a0.2.2.2.1,a0.2.2.2.2.1,a0.2.2.2.2.2.1,())).bind fun a =>
  bif a then
   bif !(a0.2.2.2.2.2.1==0)then
    some (a0.2.1==2)
   else
    some (false)
  else
   some (false)
noncomputable def F.zr.L8.step{X:Type}(n:Nat)(rec:Z6→Int→Int→Option X)(k0:Unit→Option X)(kr:Int→Int→Option X)(c:Z6)(d:Int)(b:Int):Option X:=
 bif decide (b<d)then
  (idx c b).bind fun a =>
   (F.rP n (a.1,a.2.1,a.2.2.1,a.2.2.2.1,a.2.2.2.2.1,a.2.2.2.2.2,())).bind fun e =>
    bif !e then
     kr b 26
    else
     rec c d (afv .i64 (b+1))
 else
  k0 ()
noncomputable def F.zr.L8{X:Type}(n:Nat)(k0:Unit→Option X)(kr:Int→Int→Option X):Nat→Z6→Int→Int→Option X
 |0=>fun _ _ _=>none
 |m+1=>fun a b c=>F.zr.L8.step n (F.zr.L8 n k0 kr m) k0 kr a b c
noncomputable def F.zr.vV.step{X:Type}(n:Nat)(rec:Z6→Int→Int→Option X)(k0:Unit→Option X)(kr:Int→Int→Option X)(c:Z6)(d:Int)(b:Int):Option X:=
 bif decide (b<d)then
  (idx c b).bind fun a =>
   (F.qO n (a.1,a.2.1,a.2.2.1,a.2.2.2.1,a.2.2.2.2.1,a.2.2.2.2.2,())).bind fun e =>
    bif !e then
     kr b 26
    else
     rec c d (afv .i64 (b+1))
 else
  k0 ()
noncomputable def F.zr.vV{X:Type}(n:Nat)(k0:Unit→Option X)(kr:Int→Int→Option X):Nat→Z6→Int→Int→Option X
 |0=>fun _ _ _=>none
 |m+1=>fun a b c=>F.zr.vV.step n (F.zr.vV n k0 kr m) k0 kr a b c
noncomputable def F.zr.zF.step{X:Type}(n:Nat)(rec:Z6→Int→Int→Option X)(k0:Unit→Option X)(kr:Int→Int→Option X)(c:Z6)(d:Int)(b:Int):Option X:=
 bif decide (b<d)then
  (idx c b).bind fun a =>
   (F.qg n (a.1,a.2.1,a.2.2.1,a.2.2.2.1,a.2.2.2.2.1,a.2.2.2.2.2,())).bind fun e =>
    bif !e then
     kr b 26
    else
     rec c d (afv .i64 (b+1))
 else
  k0 ()
noncomputable def F.zr.zF{X:Type}(n:Nat)(k0:Unit→Option X)(kr:Int→Int→Option X):Nat→Z6→Int→Int→Option X
 |0=>fun _ _ _=>none
 |m+1=>fun a b c=>F.zr.zF.step n (F.zr.zF n k0 kr m) k0 kr a b c
noncomputable def F.zr(n:Nat)(a0:Z6)(a1:Int):Option ((Int)×(Int)×Unit):=
 bif a1==1 then
  (F.zz n a0).bind fun a =>
   bif !(a.2.1==0)then
    some ((a.1,a.2.1,()))
   else
    F.zr.L8 n
     (fun(_:Unit) =>
      some ((0,0,())))
     (fun e f =>
      some ((e,f,()))) n a0 (a0.length:Int) 0
 else
 bif a1==2 then
  (F.zz n a0).bind fun b =>
   bif !(b.2.1==0)then
    some ((b.1,b.2.1,()))
   else
    F.zr.vV n
     (fun(_:Unit) =>
      some ((0,0,())))
     (fun g h =>
      some ((g,h,()))) n a0 (a0.length:Int) 0
 else
 bif a1==3 then
  (F.zz n a0).bind fun c =>
   bif !(c.2.1==0)then
    some ((c.1,c.2.1,()))
   else
    F.zr.zF n
     (fun(_:Unit) =>
      some ((0,0,())))
     (fun i j =>
      some ((i,j,()))) n a0 (a0.length:Int) 0
 else
 bif a1==4 then
  (F.zz n a0).bind fun d =>
   bif !(d.2.1==0)then
    some ((d.1,d.2.1,()))
   else
    F.zr.vV n
     (fun(_:Unit) =>
      some ((0,0,())))
     (fun k l =>
      some ((k,l,()))) n a0 (a0.length:Int) 0
 else
  some ((0,29,()))
noncomputable def F.oD(n:Nat)(a0:Z9)(a1:Int):Option (Int):=
 bif a1==1 then
  (F.zp n (a0.1,a0.2.1,a0.2.2.1,a0.2.2.2.1,a0.2.2.2.2.1,a0.2.2.2.2.2.1,())).bind fun a =>
   bif !(a==0)then
    some (a)
   else
    (F.rP n (a0.1,a0.2.1,a0.2.2.1,a0.2.2.2.1,a0.2.2.2.2.1,a0.2.2.2.2.2.1,())).bind fun e =>
     bif !e then
      some (26)
     else
      some (0)
 else
 bif a1==2 then
  (F.zp n (a0.1,a0.2.1,a0.2.2.1,a0.2.2.2.1,a0.2.2.2.2.1,a0.2.2.2.2.2.1,())).bind fun b =>
   bif !(b==0)then
    some (b)
   else
    (F.qO n (a0.1,a0.2.1,a0.2.2.1,a0.2.2.2.1,a0.2.2.2.2.1,a0.2.2.2.2.2.1,())).bind fun f =>
     bif !f then
      some (26)
     else
      some (0)
 else
 bif a1==3 then
  (F.zp n (a0.1,a0.2.1,a0.2.2.1,a0.2.2.2.1,a0.2.2.2.2.1,a0.2.2.2.2.2.1,())).bind fun c =>
   bif !(c==0)then
    some (c)
   else
    (F.qg n (a0.1,a0.2.1,a0.2.2.1,a0.2.2.2.1,a0.2.2.2.2.1,a0.2.2.2.2.2.1,())).bind fun g =>
     bif !g then
      some (26)
     else
      some (0)
 else
 bif a1==4 then
  (F.zp n (a0.1,a0.2.1,a0.2.2.1,a0.2.2.2.1,a0.2.2.2.2.1,a0.2.2.2.2.2.1,())).bind fun d =>
   bif !(d==0)then
    some (d)
   else
    (F.qO n (a0.1,a0.2.1,a0.2.2.1,a0.2.2.2.1,a0.2.2.2.2.1,a0.2.2.2.2.2.1,())).bind fun h =>
     bif !h then
      some (26)
     else
      some (0)
 else
  some (29)
noncomputable def F.qo(n:Nat)(a0:C7):Option ((Z0)×(Int)×Unit):=
 (F.rM n (a0.1,a0.2.1,a0.2.2.1,())).bind fun f =>
  bif !(f==0)then
   some (([],f,()))
  else
   (O.sQ n a0.2.1 (10:Int)).bind fun a =>
    bif decide (a0.2.2.1≥0)then
     (O.repeat' n ([48]) a0.2.2.1).bind fun d =>
      bif decide (a.length+d.length≤ai)then
       bif a0.1 then
        bif decide (1+((a++d).length)≤ai)then
         some ((([45])++(a++d),0,()))
        else
         none
       else
        some ((a++d,0,()))
      else
       none
    else
     (O.repeat' n ([48]) (if(afv .i64 ((afv .i64 (1 - a0.2.2.1)) - (a.length:Int)))>0 then(afv .i64 ((afv .i64 (1 - a0.2.2.1)) - (a.length:Int)))else(0:Int))).bind fun b =>
      bif decide (b.length+a.length≤ai)then
       (sub (b++a) 0 (afv .i64 (((b++a).length:Int)+a0.2.2.1))).bind fun c =>
        bif decide (c.length+1≤ai)then
         (sub (b++a) (afv .i64 (((b++a).length:Int)+a0.2.2.1)) ((b++a).length:Int)).bind fun e =>
          bif decide (((c++([46])).length)+e.length≤ai)then
           bif a0.1 then
            bif decide (1+(((c++([46]))++e).length)≤ai)then
             some ((([45])++((c++([46]))++e),0,()))
            else
             none
           else
            some (((c++([46]))++e,0,()))
          else
           none
        else
         none
      else
       none
noncomputable def F.wE(n:Nat)(a0:Int):Option ((Z0)×(Int)×Unit):=
 bif decide (a0<1)then
  some (([],10,()))
 else
 bif decide (a0>1000000)then
  some (([],10,()))
 else
 bif a0==1000000 then
  some (([49],0,()))
 else
  (O.itoa n (afv .i64 (1000000+a0))).bind fun a =>
   (sub a 1 (a.length:Int)).bind fun c =>
    (O.od n c ([48])).bind fun b =>
     bif decide (2+b.length≤ai)then
      some ((([48,46])++b,0,()))
     else
      none
noncomputable def F.uf(n:Nat)(a0:Z9):Option ((Z0)×(Int)×Unit):=
 (F.oD n (a0.1,a0.2.1,a0.2.2.1,a0.2.2.2.1,a0.2.2.2.2.1,a0.2.2.2.2.2.1,()) (1:Int)).bind fun e =>
  bif !(e==0)then
   some (([],e,()))
  else
   (O.word n a0.2.1).bind fun b =>
    bif !(b.2.1==0)then
     some (([],b.2.1,()))
    else
     (idx a0.2.2.1 (0:Int)).bind fun d =>
      (F.qo n (d.1,d.2.1,d.2.2,())).bind fun a =>
       bif !(a.2.1==0)then
        some (([],a.2.1,()))
       else
       bif decide (a0.1.length+1≤ai)then
        bif decide (((a0.1++([58])).length)+a.1.length≤ai)then
         bif decide ((((a0.1++([58]))++a.1).length)+1≤ai)then
          bif decide (((((a0.1++([58]))++a.1)++([124])).length)+b.1.length≤ai)then
           bif a0.2.2.2.1==1000000 then
            some (((((a0.1++([58]))++a.1)++([124]))++b.1,0,()))
           else
            (F.wE n a0.2.2.2.1).bind fun c =>
             bif !(c.2.1==0)then
              some (([],c.2.1,()))
             else
             bif decide ((((((a0.1++([58]))++a.1)++([124]))++b.1).length)+1≤ai)then
              bif decide (((((((a0.1++([58]))++a.1)++([124]))++b.1)++([124])).length)+1≤ai)then
               bif decide ((((((((a0.1++([58]))++a.1)++([124]))++b.1)++([124]))++([64])).length)+c.1.length≤ai)then
                some ((((((((a0.1++([58]))++a.1)++([124]))++b.1)++([124]))++([64]))++c.1,0,()))
               else
                none
              else
               none
             else
              none
          else
           none
         else
          none
        else
         none
       else
        none
noncomputable def F.wK(n:Nat):Option (Mu):=
 some (([],[99],[103],[109,115],[104],[100],()))
noncomputable def F.uP(n:Nat)(a0:Int):Option ((Z0)×(Int)×Unit):=
 bif decide (a0<1)then
  some (([],16,()))
 else
 bif decide (a0>5)then
  some (([],16,()))
 else
  (F.wK n ).bind fun a =>
   bif a0==0 then
    some ((a.1,0,()))
   else
   bif a0==1 then
    some ((a.2.1,0,()))
   else
   bif a0==2 then
    some ((a.2.2.1,0,()))
   else
   bif a0==3 then
    some ((a.2.2.2.1,0,()))
   else
   bif a0==4 then
    some ((a.2.2.2.2.1,0,()))
   else
   bif a0==5 then
    some ((a.2.2.2.2.2.1,0,()))
   else
    none
noncomputable def F.la.L3.step{X:Type}(n:Nat)(rec:bF→Z4→Int→Int→Nat→Option X)(k0:bF→Nat→Option X)(kr:Z0→Int→Int→Option X)(b:bF)(d:Z4)(e:Int)(c:Int)(f:Nat):Option X:=
 bif decide (c<e)then
  (idx d c).bind fun a =>
   (F.qM n (a.1,a.2,())).bind fun g =>
    bif !(g==0)then
     kr [] c g
    else
    bif !(a.2==[])then
     bif decide (1+a.2.length≤ai)then
      bif decide (a.1.length+((([58])++a.2).length)≤ai)then
       bif decide ((b.length+1)*16≤2 ^ 46)&&decide (0<16∧16≤2 ^ 20)then
        bif afw f b.length then
         rec (b++([a.1++(([58])++a.2)])) d e (afv .i64 (c+1)) ((b++([a.1++(([58])++a.2)])).length)
        else
         none
       else
        none
      else
       none
     else
      none
    else
    bif decide ((b.length+1)*16≤2 ^ 46)&&decide (0<16∧16≤2 ^ 20)then
     bif afw f b.length then
      rec (b++([a.1])) d e (afv .i64 (c+1)) ((b++([a.1])).length)
     else
      none
    else
     none
 else
  k0 b f
noncomputable def F.la.L3{X:Type}(n:Nat)(k0:bF→Nat→Option X)(kr:Z0→Int→Int→Option X):Nat→bF→Z4→Int→Int→Nat→Option X
 |0=>fun _ _ _ _ _=>none
 |m+1=>fun a b c d e=>F.la.L3.step n (F.la.L3 n k0 kr m) k0 kr a b c d e
noncomputable def F.la(n:Nat)(a0:Z4):Option ((Z0)×(Int)×(Int)×Unit):=
 F.la.L3 n
  (fun a f =>
   (O.join n a ([44])).bind fun b =>
    some ((b,0,0,())))
  (fun c d e =>
   some ((c,d,e,()))) n [] a0 (a0.length:Int) 0 0
noncomputable def F.qp(n:Nat)(a0:Int):Option ((Z0)×(Int)×Unit):=
 bif decide (a0<0)then
  some (([],10,()))
 else
  (O.itoa n a0).bind fun a =>
   some ((a,0,()))
noncomputable def F.zk.L9.step{X:Type}(n:Nat)(rec:Z2→Int→Int→Z0→Int→Z2→Int→Z4→Int→AG→me→Int→Option X)(k0:Z0→Int→Z2→Int→Z4→Int→AG→me→Int→Option X)(e:Z2)(f:Int)(d:Int)(g:Z0)(h:Int)(i:Z2)(j:Int)(k:Z4)(l:Int)(a:AG)(c:me)(m:Int):Option X:=
 bif decide (d<f)then
  (idx e d).bind fun o =>
   (F.qo n (o.1,o.2.1,o.2.2,())).bind fun b =>
    bif m==0 then
     bif decide (1+b.1.length≤ai)then
      bif afw c.1 a.1 then
       bif decide ((a.2.length+((([58])++b.1).length))*1≤2 ^ 46)&&decide (0<1∧1≤2 ^ 20)then
        rec e f (afv .i64 (d+1)) g h i j k l (c.1+1,a.2++(([58])++b.1)) (c.1+1,(a.2++(([58])++b.1)).length) b.2.1
       else
        none
      else
       none
     else
      none
    else
    bif decide (1+b.1.length≤ai)then
     bif afw c.1 a.1 then
      bif decide ((a.2.length+((([58])++b.1).length))*1≤2 ^ 46)&&decide (0<1∧1≤2 ^ 20)then
       rec e f (afv .i64 (d+1)) g h i j k l (c.1+1,a.2++(([58])++b.1)) (c.1+1,(a.2++(([58])++b.1)).length) m
      else
       none
     else
      none
    else
     none
 else
  k0 g h i j k l (a.1,a.2) (c.1,c.2) m
noncomputable def F.zk.L9{X:Type}(n:Nat)(k0:Z0→Int→Z2→Int→Z4→Int→AG→me→Int→Option X):Nat→Z2→Int→Int→Z0→Int→Z2→Int→Z4→Int→AG→me→Int→Option X
 |0=>fun _ _ _ _ _ _ _ _ _ _ _ _=>none
 |m+1=>fun a b c d e f g h i j k l=>F.zk.L9.step n (F.zk.L9 n k0 m) k0 a b c d e f g h i j k l
noncomputable def F.zk.E6{X:Type}(n:Nat)(kr:Z0→Int→Option X)(d:Z0)(e:Int)(f:Z2)(g:Int)(h:Z4)(i:Int)(a:AG)(c:me)(b:Int):Option X:=
 bif !(b==0)then
  kr [] b
 else
 bif afw c.1 a.1 then
  bif afN a.2 then
   none
  else
   kr a.2 0
 else
  none
noncomputable def F.zk.E7{X:Type}(n:Nat)(kr:Z0→Int→Option X)(e:Z0)(f:Int)(g:Z2)(h:Int)(i:Z4)(d:Int)(a:AG)(c:me)(j:Int):Option X:=
 bif !(d == 0)then
  (F.qp n d).bind fun b =>
   bif j == 0 then
    bif decide (2+b.1.length≤ai)then
     bif afw c.1 a.1 then
      bif decide ((a.2.length+((([124,84])++b.1).length))*1≤2 ^ 46)&&decide (0<1∧1≤2 ^ 20)then
       F.zk.E6 n
        (fun k l =>
         kr k l) e f g h i d (c.1+1,a.2++(([124,84])++b.1)) (c.1+1,(a.2++(([124,84])++b.1)).length) b.2.1
      else
       none
     else
      none
    else
     none
   else
   bif decide (2+b.1.length≤ai)then
    bif afw c.1 a.1 then
     bif decide ((a.2.length+((([124,84])++b.1).length))*1≤2 ^ 46)&&decide (0<1∧1≤2 ^ 20)then
      F.zk.E6 n
       (fun m o =>
        kr m o) e f g h i d (c.1+1,a.2++(([124,84])++b.1)) (c.1+1,(a.2++(([124,84])++b.1)).length) j
     else
      none
    else
     none
   else
    none
 else
  F.zk.E6 n
   (fun p q =>
    kr p q) e f g h i d (a.1,a.2) (c.1,c.2) j
noncomputable def F.zk.E8{X:Type}(n:Nat)(kr:Z0→Int→Option X)(e:Z0)(f:Int)(g:Z2)(h:Int)(d:Z4)(i:Int)(a:AG)(c:me)(j:Int):Option X:=
 bif decide ((d.length:Int)>0)then
  (F.la n d).bind fun b =>
   bif j == 0 then
    bif decide (2+b.1.length≤ai)then
     bif afw c.1 a.1 then
      bif decide ((a.2.length+((([124,35])++b.1).length))*1≤2 ^ 46)&&decide (0<1∧1≤2 ^ 20)then
       F.zk.E7 n
        (fun k l =>
         kr k l) e f g h d i (c.1+1,a.2++(([124,35])++b.1)) (c.1+1,(a.2++(([124,35])++b.1)).length) b.2.2.1
      else
       none
     else
      none
    else
     none
   else
   bif decide (2+b.1.length≤ai)then
    bif afw c.1 a.1 then
     bif decide ((a.2.length+((([124,35])++b.1).length))*1≤2 ^ 46)&&decide (0<1∧1≤2 ^ 20)then
      F.zk.E7 n
       (fun m o =>
        kr m o) e f g h d i (c.1+1,a.2++(([124,35])++b.1)) (c.1+1,(a.2++(([124,35])++b.1)).length) j
     else
      none
    else
     none
   else
    none
 else
  F.zk.E7 n
   (fun p q =>
    kr p q) e f g h d i (a.1,a.2) (c.1,c.2) j
noncomputable def F.zk.ve{X:Type}(n:Nat)(kr:Z0→Int→Option X)(e:Z0)(f:Int)(g:Z2)(d:Int)(h:Z4)(i:Int)(a:AG)(c:me)(j:Int):Option X:=
 bif !(d == 1000000)then
  (F.wE n d).bind fun b =>
   bif j == 0 then
    bif decide (2+b.1.length≤ai)then
     bif afw c.1 a.1 then
      bif decide ((a.2.length+((([124,64])++b.1).length))*1≤2 ^ 46)&&decide (0<1∧1≤2 ^ 20)then
       F.zk.E8 n
        (fun k l =>
         kr k l) e f g d h i (c.1+1,a.2++(([124,64])++b.1)) (c.1+1,(a.2++(([124,64])++b.1)).length) b.2.1
      else
       none
     else
      none
    else
     none
   else
   bif decide (2+b.1.length≤ai)then
    bif afw c.1 a.1 then
     bif decide ((a.2.length+((([124,64])++b.1).length))*1≤2 ^ 46)&&decide (0<1∧1≤2 ^ 20)then
      F.zk.E8 n
       (fun m o =>
        kr m o) e f g d h i (c.1+1,a.2++(([124,64])++b.1)) (c.1+1,(a.2++(([124,64])++b.1)).length) j
     else
      none
    else
     none
   else
    none
 else
  F.zk.E8 n
   (fun p q =>
    kr p q) e f g d h i (a.1,a.2) (c.1,c.2) j
noncomputable def F.zk(n:Nat)(a0:Z9):Option ((Z0)×(Int)×Unit):=
 (F.zl n (a0.1,a0.2.1,a0.2.2.1,a0.2.2.2.1,a0.2.2.2.2.1,a0.2.2.2.2.2.1,())).bind fun a =>
  bif !(a.2.1==0)then
   some (([],a.2.1,()))
  else
  bif decide (0+a.1.1.length≤ai)then
   bif decide ((0+(([]++a.1.1).length))*1≤2 ^ 46)&&decide (0<1∧1≤2 ^ 20)then
    F.zk.L9 n
     (fun f e g h i j c d k =>
      (F.uP n e).bind fun b =>
       bif k == 0 then
        bif decide (1+b.1.length≤ai)then
         bif afw d.1 c.1 then
          bif decide ((c.2.length+((([124])++b.1).length))*1≤2 ^ 46)&&decide (0<1∧1≤2 ^ 20)then
           F.zk.ve n
            (fun l m =>
             some ((l,m,()))) f e g h i j (d.1+1,c.2++(([124])++b.1)) (d.1+1,(c.2++(([124])++b.1)).length) b.2.1
          else
           none
         else
          none
        else
         none
       else
       bif decide (1+b.1.length≤ai)then
        bif afw d.1 c.1 then
         bif decide ((c.2.length+((([124])++b.1).length))*1≤2 ^ 46)&&decide (0<1∧1≤2 ^ 20)then
          F.zk.ve n
           (fun o p =>
            some ((o,p,()))) f e g h i j (d.1+1,c.2++(([124])++b.1)) (d.1+1,(c.2++(([124])++b.1)).length) k
         else
          none
        else
         none
       else
        none) n a.1.2.2.1 (a.1.2.2.1.length:Int) 0 a.1.1 a.1.2.1 a.1.2.2.1 a.1.2.2.2.1 a.1.2.2.2.2.1 a.1.2.2.2.2.2.1 (2,[]++([]++a.1.1)) (2,([]++([]++a.1.1)).length) 0
   else
    none
  else
   none
noncomputable def F.qP(n:Nat)(a0:Z9):Option ((Z0)×(Int)×Unit):=
 (F.oD n (a0.1,a0.2.1,a0.2.2.1,a0.2.2.2.1,a0.2.2.2.2.1,a0.2.2.2.2.2.1,()) (3:Int)).bind fun d =>
  bif !(d==0)then
   some (([],d,()))
  else
   (idx a0.2.2.1 (0:Int)).bind fun c =>
    (F.qo n (c.1,c.2.1,c.2.2,())).bind fun a =>
     bif !(a.2.1==0)then
      some (([],a.2.1,()))
     else
      (F.qp n a0.2.2.2.2.2.1).bind fun b =>
       bif !(b.2.1==0)then
        some (([],b.2.1,()))
       else
       bif decide (a0.1.length+1≤ai)then
        bif decide (((a0.1++([32])).length)+a.1.length≤ai)then
         bif decide ((((a0.1++([32]))++a.1).length)+1≤ai)then
          bif decide (((((a0.1++([32]))++a.1)++([32])).length)+b.1.length≤ai)then
           some (((((a0.1++([32]))++a.1)++([32]))++b.1,0,()))
          else
           none
         else
          none
        else
         none
       else
        none
noncomputable def F.tC(n:Nat)(a0:Z9)(a1:Int):Option ((Z0)×(Int)×Unit):=
 bif a1==1 then
  (F.zl n (a0.1,a0.2.1,a0.2.2.1,a0.2.2.2.1,a0.2.2.2.2.1,a0.2.2.2.2.2.1,())).bind fun a =>
   bif !(a.2.1==0)then
    some (([],a.2.1,()))
   else
    (F.oD n (a.1.1,a.1.2.1,a.1.2.2.1,a.1.2.2.2.1,a.1.2.2.2.2.1,a.1.2.2.2.2.2.1,()) a1).bind fun d =>
     bif !(d==0)then
      some (([],d,()))
     else
      (F.uf n (a.1.1,a.1.2.1,a.1.2.2.1,a.1.2.2.2.1,a.1.2.2.2.2.1,a.1.2.2.2.2.2.1,())).bind fun e =>
       some ((e.1,e.2.1,()))
 else
 bif a1==2 then
  (F.zl n (a0.1,a0.2.1,a0.2.2.1,a0.2.2.2.1,a0.2.2.2.2.1,a0.2.2.2.2.2.1,())).bind fun b =>
   bif !(b.2.1==0)then
    some (([],b.2.1,()))
   else
    (F.oD n (b.1.1,b.1.2.1,b.1.2.2.1,b.1.2.2.2.1,b.1.2.2.2.2.1,b.1.2.2.2.2.2.1,()) a1).bind fun f =>
     bif !(f==0)then
      some (([],f,()))
     else
      (F.zk n (b.1.1,b.1.2.1,b.1.2.2.1,b.1.2.2.2.1,b.1.2.2.2.2.1,b.1.2.2.2.2.2.1,())).bind fun g =>
       some ((g.1,g.2.1,()))
 else
 bif a1==3 then
  (F.zl n (a0.1,a0.2.1,a0.2.2.1,a0.2.2.2.1,a0.2.2.2.2.1,a0.2.2.2.2.2.1,())).bind fun c =>
   bif !(c.2.1==0)then
    some (([],c.2.1,()))
   else
    (F.oD n (c.1.1,c.1.2.1,c.1.2.2.1,c.1.2.2.2.1,c.1.2.2.2.2.1,c.1.2.2.2.2.2.1,()) a1).bind fun h =>
     bif !(h==0)then
      some (([],h,()))
     else
      (F.qP n (c.1.1,c.1.2.1,c.1.2.2.1,c.1.2.2.2.1,c.1.2.2.2.2.1,c.1.2.2.2.2.2.1,())).bind fun i =>
       some ((i.1,i.2.1,()))
 else
  some (([],29,()))
noncomputable def F.z8.ug.step{X:Type}(n:Nat)(rec:Int→bF→Z6→Int→Int→Nat→Option X)(k0:bF→Nat→Option X)(kr:bF→Int→Int→Nat→Option X)(e:Int)(b:bF)(f:Z6)(g:Int)(c:Int)(h:Nat):Option X:=
 bif decide (c<g)then
  (idx f c).bind fun a =>
   (F.tC n (a.1,a.2.1,a.2.2.1,a.2.2.2.1,a.2.2.2.2.1,a.2.2.2.2.2,()) e).bind fun d =>
    bif !(d.2.1==0)then
     kr [] c d.2.1 0
    else
    bif decide ((b.length+1)*16≤2 ^ 46)&&decide (0<16∧16≤2 ^ 20)then
     bif afw h b.length then
      rec e (b++([d.1])) f g (afv .i64 (c+1)) ((b++([d.1])).length)
     else
      none
    else
     none
 else
  k0 b h
noncomputable def F.z8.ug{X:Type}(n:Nat)(k0:bF→Nat→Option X)(kr:bF→Int→Int→Nat→Option X):Nat→Int→bF→Z6→Int→Int→Nat→Option X
 |0=>fun _ _ _ _ _ _=>none
 |m+1=>fun a b c d e f=>F.z8.ug.step n (F.z8.ug n k0 kr m) k0 kr a b c d e f
noncomputable def F.z8(n:Nat)(a0:Z6)(a1:Int):Option ((bF)×(Int)×(Int)×Unit):=
 bif a1 == 1 then
  (F.zu n a0).bind fun a =>
   bif !(a.2.2.1==0)then
    some (([],a.2.1,a.2.2.1,()))
   else
    (F.zr n a.1 a1).bind fun d =>
     bif !(d.2.1==0)then
      some (([],d.1,d.2.1,()))
     else
     bif decide ((0:Int)=0)&&(decide (0≤(a.1.length:Int))&&decide (16*(a.1.length:Int)≤281474976710656)&&decide ((a.1.length:Int)≤281474976710656))&&true then
      F.z8.ug n
       (fun g t =>
        some ((g,0,0,())))
       (fun h i j u =>
        some ((h,i,j,()))) n a1 [] a.1 (a.1.length:Int) 0 0
     else
      none
 else
 bif a1 == 2 then
  (F.zu n a0).bind fun b =>
   bif !(b.2.2.1==0)then
    some (([],b.2.1,b.2.2.1,()))
   else
    (F.zr n b.1 a1).bind fun e =>
     bif !(e.2.1==0)then
      some (([],e.1,e.2.1,()))
     else
     bif decide ((0:Int)=0)&&(decide (0≤(b.1.length:Int))&&decide (16*(b.1.length:Int)≤281474976710656)&&decide ((b.1.length:Int)≤281474976710656))&&true then
      F.z8.ug n
       (fun k v =>
        some ((k,0,0,())))
       (fun l m o w =>
        some ((l,m,o,()))) n a1 [] b.1 (b.1.length:Int) 0 0
     else
      none
 else
 bif a1 == 3 then
  (F.zu n a0).bind fun c =>
   bif !(c.2.2.1==0)then
    some (([],c.2.1,c.2.2.1,()))
   else
    (F.zr n c.1 a1).bind fun f =>
     bif !(f.2.1==0)then
      some (([],f.1,f.2.1,()))
     else
     bif decide ((0:Int)=0)&&(decide (0≤(c.1.length:Int))&&decide (16*(c.1.length:Int)≤281474976710656)&&decide ((c.1.length:Int)≤281474976710656))&&true then
      F.z8.ug n
       (fun p x =>
        some ((p,0,0,())))
       (fun q r s y =>
        some ((q,r,s,()))) n a1 [] c.1 (c.1.length:Int) 0 0
     else
      none
 else
  some (([],0,29,()))
noncomputable def F.wL(n:Nat)(a0:Z6)(a1:Int)(a2:Int):Option ((Z8)×(Int)×(Int)×Unit):=
 (F.wH n a2).bind fun d =>
  bif !d then
   some (([],0,10,()))
  else
  bif a1==4 then
   (F.zb n a0).bind fun a =>
    bif !(a.2.2.1==0)then
     some (([],a.2.1,a.2.2.1,()))
    else
    bif decide ((a.1.length:Int)>a2)then
     some (([],0,27,()))
    else
     some (([a.1],0,0,()))
  else
   (F.z8 n a0 a1).bind fun b =>
    bif !(b.2.2.1==0)then
     some (([],b.2.1,b.2.2.1,()))
    else
     (F.zj n b.1 a2).bind fun c =>
      some ((c.1,c.2.1,c.2.2.1,()))
noncomputable def F.jy.L9.step{X:Type}(n:Nat)(rec:Int→bF→Int→Int→Option X)(k0:Int→Option X)(a:Int)(c:bF)(d:Int)(b:Int):Option X:=
 bif decide (b<d)then
  (idx c b).bind fun e =>
   rec (if(afv .i64 ((e.length:Int)+1))>a then(afv .i64 ((e.length:Int)+1))else a) c d (afv .i64 (b+1))
 else
  k0 a
noncomputable def F.jy.L9{X:Type}(n:Nat)(k0:Int→Option X):Nat→Int→bF→Int→Int→Option X
 |0=>fun _ _ _ _=>none
 |m+1=>fun a b c d=>F.jy.L9.step n (F.jy.L9 n k0 m) k0 a b c d
noncomputable def F.jy(n:Nat)(a0:Z6)(a1:Int):Option ((Int)×(Int)×(Int)×Unit):=
 bif a1==4 then
  (F.zb n a0).bind fun b =>
   some (((b.1.length:Int),b.2.1,b.2.2.1,()))
 else
  (F.z8 n a0 a1).bind fun a =>
   bif !(a.2.2.1==0)then
    some ((0,a.2.1,a.2.2.1,()))
   else
    F.jy.L9 n
     (fun c =>
      some ((c,0,0,()))) n 1 a.1 (a.1.length:Int) 0
noncomputable def F.zq.L2.step{X:Type}(n:Nat)(rec:Z7→W4→Int→Int→Int→Option X)(k0:Z7→Int→Int→Option X)(kr:Int→Int→Int→Int→Option X)(c:Z7)(a:W4)(b:Int)(d:Int)(e:Int):Option X:=
 bif decide (b<3)then
  bif b==0 then
   bif decide (b≥(c.length:Int))then
    kr 0 0 0 0
   else
    (idx c b).bind fun f =>
     bif !(((f).toNat)==a.1)then
      kr 0 0 a.2.1 b
     else
      rec c (a.1,a.2.1,a.2.2.1,a.2.2.2.1,a.2.2.2.2.1,a.2.2.2.2.2.1,()) (afv .i64 (b+1)) d e
  else
  bif b==1 then
   bif decide (b≥(c.length:Int))then
    kr 0 0 0 0
   else
    (idx c b).bind fun g =>
     bif !(((g).toNat)==a.2.2.1)then
      kr 0 0 a.2.2.2.1 b
     else
      rec c (a.1,a.2.1,a.2.2.1,a.2.2.2.1,a.2.2.2.2.1,a.2.2.2.2.2.1,()) (afv .i64 (b+1)) d e
  else
  bif b==2 then
   bif decide (b≥(c.length:Int))then
    kr 0 0 0 0
   else
    (idx c b).bind fun h =>
     bif !(((h).toNat)==a.2.2.2.2.1)then
      kr 0 0 a.2.2.2.2.2.1 b
     else
      rec c (a.1,a.2.1,a.2.2.1,a.2.2.2.1,a.2.2.2.2.1,a.2.2.2.2.2.1,()) (afv .i64 (b+1)) d e
  else
   none
 else
  k0 c d e
noncomputable def F.zq.L2{X:Type}(n:Nat)(k0:Z7→Int→Int→Option X)(kr:Int→Int→Int→Int→Option X):Nat→Z7→W4→Int→Int→Int→Option X
 |0=>fun _ _ _ _ _=>none
 |m+1=>fun a b c d e=>F.zq.L2.step n (F.zq.L2 n k0 kr m) k0 kr a b c d e
noncomputable def F.zq.yN.step{X:Type}(n:Nat)(rec:Z7→Int→Int→Int→Int→Option X)(k3:Int→Int→Option X)(kr:Int→Int→Int→Int→Option X)(d:Z7)(c:Int)(a:Int)(e:Int)(f:Int):Option X:=
 bif decide (a<(d.length:Int))then
  (idx d a).bind fun b =>
   bif a==5 then
    bif decide ((afv .i64 ((b).toNat))≥(128:Int))then
     kr 0 0 12 a
    else
    bif decide ((afv .i64 (7*(afv .i64 (a - 3))))<0)then
     none
    else
    bif decide ((afv .i64 ((b).toNat))≥(128:Int))then
     rec d (bw .or .i64 c (gk .i64 ((afv .i64 ((b).toNat)).tmod 128) (afv .i64 (7*(afv .i64 (a - 3)))))) (afv .i64 (a+1)) e f
    else
    bif (afv .i64 ((b).toNat))==(0:Int)then
     bif decide (a>3)then
      kr 0 0 21 a
     else
     bif decide ((bw .or .i64 c (gk .i64 ((afv .i64 ((b).toNat)).tmod 128) (afv .i64 (7*(afv .i64 (a - 3))))))>1048576)then
      kr 0 0 12 a
     else
      kr (afv .i64 (a+1)) (bw .or .i64 c (gk .i64 ((afv .i64 ((b).toNat)).tmod 128) (afv .i64 (7*(afv .i64 (a - 3)))))) 0 0
    else
    bif decide ((bw .or .i64 c (gk .i64 ((afv .i64 ((b).toNat)).tmod 128) (afv .i64 (7*(afv .i64 (a - 3))))))>1048576)then
     kr 0 0 12 a
    else
     kr (afv .i64 (a+1)) (bw .or .i64 c (gk .i64 ((afv .i64 ((b).toNat)).tmod 128) (afv .i64 (7*(afv .i64 (a - 3)))))) 0 0
   else
   bif decide ((afv .i64 (7*(afv .i64 (a - 3))))<0)then
    none
   else
   bif decide ((afv .i64 ((b).toNat))≥(128:Int))then
    rec d (bw .or .i64 c (gk .i64 ((afv .i64 ((b).toNat)).tmod 128) (afv .i64 (7*(afv .i64 (a - 3)))))) (afv .i64 (a+1)) e f
   else
   bif (afv .i64 ((b).toNat))==(0:Int)then
    bif decide (a>3)then
     kr 0 0 21 a
    else
    bif decide ((bw .or .i64 c (gk .i64 ((afv .i64 ((b).toNat)).tmod 128) (afv .i64 (7*(afv .i64 (a - 3))))))>1048576)then
     kr 0 0 12 a
    else
     kr (afv .i64 (a+1)) (bw .or .i64 c (gk .i64 ((afv .i64 ((b).toNat)).tmod 128) (afv .i64 (7*(afv .i64 (a - 3)))))) 0 0
   else
   bif decide ((bw .or .i64 c (gk .i64 ((afv .i64 ((b).toNat)).tmod 128) (afv .i64 (7*(afv .i64 (a - 3))))))>1048576)then
    kr 0 0 12 a
   else
    kr (afv .i64 (a+1)) (bw .or .i64 c (gk .i64 ((afv .i64 ((b).toNat)).tmod 128) (afv .i64 (7*(afv .i64 (a - 3)))))) 0 0
 else
  k3 e f
noncomputable def F.zq.yN{X:Type}(n:Nat)(k3:Int→Int→Option X)(kr:Int→Int→Int→Int→Option X):Nat→Z7→Int→Int→Int→Int→Option X
 |0=>fun _ _ _ _ _=>none
 |m+1=>fun a b c d e=>F.zq.yN.step n (F.zq.yN n k3 kr m) k3 kr a b c d e
noncomputable def F.zq(n:Nat)(a0:Z7):Option ((Int)×(Int)×(oe)×Unit):=
 F.zq.L2 n
  (fun a b c =>
   F.zq.yN n
    (fun l m =>
     some ((0,0,(0,0,()),())))
    (fun d e f g =>
     some ((d,e,(f,g,()),()))) n a 0 3 b c)
  (fun h i j k =>
   some ((h,i,(j,k,()),()))) n a0 (77,22,71,22,1,23,()) 0 0 0
noncomputable def F.yO(n:Nat)(a0:Z7):Option ((Int)×(oe)×Unit):=
 (F.zq n a0).bind fun a =>
  bif a.1==0 then
   some ((0,(a.2.2.1.1,a.2.2.1.2.1,()),()))
  else
   some (((afv .i64 ((afv .i64 (a.1+a.2.1))+4)),(a.2.2.1.1,a.2.2.1.2.1,()),()))
noncomputable def F.xR(n:Nat)(a0:Z7)(a1:Z7):Option (Bool):=
 some (a0==a1)
noncomputable def F.wM(n:Nat)(a0:Z7):Option (Int):=
 bif decide ((afv .i64 ((a0.length:Int) - 4))<0)then
  some (13)
 else
  (sub a0 (afv .i64 ((a0.length:Int) - 4)) (a0.length:Int)).bind fun a =>
   (sub a0 0 (afv .i64 ((a0.length:Int) - (4:Int)))).bind fun b =>
    (F.rO n b).bind fun c =>
     (F.wJ n c).bind fun d =>
      (F.xR n a d).bind fun e =>
       bif !e then
        some (24)
       else
        some (0)
noncomputable def F.xG(n:Nat)(a0:Int):Option (Bool):=
 bif decide (a0≥1)then
  some (decide (a0≤5))
 else
  some (false)
noncomputable def F.vf(n:Nat)(a0:Int):Option (Int):=
 bif (bw .and .u64 a0 1)==1 then
  some ((afv .i64 (bw .xor .u64 (IntKind.max .u64) (km .u64 a0 1))))
 else
  some ((afv .i64 (km .u64 a0 1)))
noncomputable def F.rJ(n:Nat)(a0:Z7):Option (Z7):=
 bif afN a0 then
  both
   (
    some ([]))
   (
    bif decide ((0+a0.length)*1≤2 ^ 46)&&decide (0<1∧1≤2 ^ 20)then
     some ([]++a0)
    else
     none)
 else
 bif decide ((0+a0.length)*1≤2 ^ 46)&&decide (0<1∧1≤2 ^ 20)then
  some ([]++a0)
 else
  none
noncomputable def F.i_.L5.step{X:Type}(n:Nat)(rec:Int→Int→Int→Option X)(k0:Int→Option X)(b:Int)(c:Int)(a:Int):Option X:=
 bif decide (a<256)then
  (F.ud n b (afv .u8 (a))).bind fun d =>
   bif d then
    rec b (afv .i64 (c+1)) (afv .i64 (a+1))
   else
    rec b c (afv .i64 (a+1))
 else
  k0 c
noncomputable def F.i_.L5{X:Type}(n:Nat)(k0:Int→Option X):Nat→Int→Int→Int→Option X
 |0=>fun _ _ _=>none
 |m+1=>fun a b c=>F.i_.L5.step n (F.i_.L5 n k0 m) k0 a b c
noncomputable def F.i_(n:Nat)(a0:Int):Option ((Int)×(Int)×Unit):=
 (F.qL n a0).bind fun a =>
  bif !a then
   some ((0,1,()))
  else
   F.i_.L5 n
    (fun b =>
     some ((b,0,()))) n a0 0 0
noncomputable def F.za.aa{X:Type}(n:Nat)(kn:Int→Int→Option X)(a:Int)(b:Int)(c:Bool)(d:Int)(e:Int):Option X:=
 bif c then
  kn a b
 else
  kn d e
noncomputable def F.za.ca{X:Type}(n:Nat)(kr:Z7→Int→Int→Int→Option X)(d:Int)(e:Z7)(a:Int)(b:Int)(c:Int):Option X:=
 bif !((b==0)&&(c==0))then
  kr [] a b c
 else
 bif decide (d<0)then
  bif (b==0)&&(c==0)then
   F.za.aa n
    (fun f g =>
     kr [] a f g) 1 a true b c
  else
   F.za.aa n
    (fun h i =>
     kr [] a h i) 1 a false b c
 else
 bif decide (d>(afv .i64 ((e.length:Int) - a)))then
  bif (b==0)&&(c==0)then
   F.za.aa n
    (fun j k =>
     kr [] a j k) 13 (e.length:Int) true b c
  else
   F.za.aa n
    (fun l m =>
     kr [] a l m) 13 (e.length:Int) false b c
 else
  (sub e (afv .i64 ((afv .i64 (a+d)) - d)) (afv .i64 (a+d))).bind fun o =>
   (F.rJ n o).bind fun p =>
    kr p (afv .i64 (a+d)) b c
noncomputable def F.za.dn{X:Type}(n:Nat)(kr:Int→Int→Int→Int→Option X)(e:Z7)(f:Int)(g:Int)(h:Int):Option X:=
 F.za.ca n
  (fun a b c d =>
   bif (a.length:Int)==1 then
    (idx a (0:Int)).bind fun i =>
     kr ((i).toNat) b c d
   else
    kr 0 b c d) 1 e f g h
noncomputable def F.za.cm.step{X:Type}(n:Nat)(rec:Int→Int→Z7→Int→Int→Int→Option X)(k0:Int→Int→Int→Int→Int→Option X)(kr:Int→Int→Int→Int→Int→Int→Option X)(f:Int)(a:Int)(g:Z7)(h:Int)(i:Int)(j:Int):Option X:=
 F.za.dn n
  (fun b e c d =>
   bif !((c==0)&&(d==0))then
    kr 0 a 13 e c d
   else
   bif (afv .i64 (a+1))==10 then
    bif decide (b>1)then
     kr 0 (afv .i64 (a+1)) 10 e c d
    else
    bif decide ((afv .i64 (7*(afv .i64 ((afv .i64 (a+1)) - 1))))<0)then
     none
    else
    bif decide (b≥128)then
     rec (bw .or .u64 f (gk .u64 (afv .u64 (bw .and .u8 b 127)) (afv .i64 (7*(afv .i64 ((afv .i64 (a+1)) - 1)))))) (afv .i64 (a+1)) g e c d
    else
    bif b==0 then
     bif decide ((afv .i64 (a+1))>1)then
      kr 0 (afv .i64 (a+1)) 21 e c d
     else
      k0 (bw .or .u64 f (gk .u64 (afv .u64 (bw .and .u8 b 127)) (afv .i64 (7*(afv .i64 ((afv .i64 (a+1)) - 1)))))) (afv .i64 (a+1)) e c d
    else
     k0 (bw .or .u64 f (gk .u64 (afv .u64 (bw .and .u8 b 127)) (afv .i64 (7*(afv .i64 ((afv .i64 (a+1)) - 1)))))) (afv .i64 (a+1)) e c d
   else
   bif decide ((afv .i64 (7*(afv .i64 ((afv .i64 (a+1)) - 1))))<0)then
    none
   else
   bif decide (b≥128)then
    rec (bw .or .u64 f (gk .u64 (afv .u64 (bw .and .u8 b 127)) (afv .i64 (7*(afv .i64 ((afv .i64 (a+1)) - 1)))))) (afv .i64 (a+1)) g e c d
   else
   bif b==0 then
    bif decide ((afv .i64 (a+1))>1)then
     kr 0 (afv .i64 (a+1)) 21 e c d
    else
     k0 (bw .or .u64 f (gk .u64 (afv .u64 (bw .and .u8 b 127)) (afv .i64 (7*(afv .i64 ((afv .i64 (a+1)) - 1)))))) (afv .i64 (a+1)) e c d
   else
    k0 (bw .or .u64 f (gk .u64 (afv .u64 (bw .and .u8 b 127)) (afv .i64 (7*(afv .i64 ((afv .i64 (a+1)) - 1)))))) (afv .i64 (a+1)) e c d) g h i j
noncomputable def F.za.cm{X:Type}(n:Nat)(k0:Int→Int→Int→Int→Int→Option X)(kr:Int→Int→Int→Int→Int→Int→Option X):Nat→Int→Int→Z7→Int→Int→Int→Option X
 |0=>fun _ _ _ _ _ _=>none
 |m+1=>fun a b c d e f=>F.za.cm.step n (F.za.cm n k0 kr m) k0 kr a b c d e f
noncomputable def F.za.cp{X:Type}(n:Nat)(kr:Int→Int→Int→Int→Option X)(e:Z7)(f:Int)(g:Int)(h:Int):Option X:=
 F.za.cm n
  (fun i s j k l =>
   kr i j k l)
  (fun m t b a c d =>
   bif !(b==0)then
    lZ (some [(.ref 5 0)]) (some [(.ref 5 0)]) (
     bif (c==0)&&(d==0)then
      F.za.aa n
       (fun o p =>
        kr 0 a o p) b (afv .i64 (a - 1)) (!(b==0)) c d
     else
      F.za.aa n
       (fun q r =>
        kr 0 a q r) b (afv .i64 (a - 1)) false c d)
   else
    kr m a c d) n 0 0 e f g h
noncomputable def F.za.ji{X:Type}(n:Nat)(kr:Bool→Int→Int→Option X)(e:Int)(f:Z0)(a:Int)(b:Int)(d:Int):Option X:=
 (F.iZ n e f).bind fun c =>
  bif c.2.1==0 then
   bif decide (c.1<0)then
    kr true a b
   else
   bif (a==0)&&(b==0)then
    F.za.aa n
     (fun g h =>
      kr false g h) 14 (afv .i64 (d+c.1)) true a b
   else
    F.za.aa n
     (fun i j =>
      kr false i j) 14 (afv .i64 (d+c.1)) false a b
  else
  bif (a==0)&&(b==0)then
   F.za.aa n
    (fun k l =>
     kr false k l) 14 (afv .i64 (d+c.1)) true a b
  else
   F.za.aa n
    (fun m o =>
     kr false m o) 14 (afv .i64 (d+c.1)) false a b
noncomputable def F.za.dX{X:Type}(n:Nat)(kr:Z0→Int→Int→Int→eF→bF→Nat→Option X)(m:Int)(j:Int)(k:Int)(o:Z7)(l:Int)(p:Int)(q:Int)(c:eF)(a:bF)(d:Nat):Option X:=
 F.za.ca n
  (fun b e h i =>
   bif !((h==0)&&(i==0))then
    kr [] e h i c a d
   else
    F.za.ji n
     (fun r f g =>
      bif !r then
       kr [] e f g c a d
      else
       js c b (fun w =>
        bif (f==0)&&(g==0)then
         F.za.aa n
          (fun s t =>
           kr [] e s t c a d) 21 j true f g
        else
         F.za.aa n
          (fun u v =>
           kr [] e u v c a d) 21 j false f g)
        (
         bif decide ((a.length+1)*16≤2 ^ 46)&&decide (0<16∧16≤2 ^ 20)then
          bif afw d a.length then
           kr b e f g (gZ c b ((a++([b])).length:Int)) (a++([b])) ((a++([b])).length)
          else
           none
         else
          none)) m b h i l) (afv .i64 (if 200<k then 200 else k)) o l p q
noncomputable def F.za.fZ{X:Type}(n:Nat)(kr:Z0→Int→Int→Int→eF→bF→Nat→Option X)(l:Int)(b:Int)(f:Z7)(c:Int)(g:Int)(h:Int)(d:eF)(a:bF)(e:Nat):Option X:=
 bif decide ((a.length:Int)≥65536)then
  bif (g==0)&&(h==0)then
   F.za.aa n
    (fun o p =>
     kr [] c o p d a e) 12 b true g h
  else
   F.za.aa n
    (fun q r =>
     kr [] c q r d a e) 12 b false g h
 else
  F.za.cp n
   (fun i m j k =>
    bif decide (i>200)then
     bif (j==0)&&(k==0)then
      F.za.aa n
       (fun s t =>
        F.za.dX n
         (fun u v w x y z A =>
          kr u v w x y z A) l b i f m s t d a e) 12 c true j k
     else
      F.za.aa n
       (fun B C =>
        F.za.dX n
         (fun D E G H I J K =>
          kr D E G H I J K) l b i f m B C d a e) 12 c false j k
    else
     F.za.dX n
      (fun L M N O P Q R =>
       kr L M N O P Q R) l b i f m j k d a e) f c g h
noncomputable def F.za.hU{X:Type}(n:Nat)(kr:Bool→Int→Int→Option X)(e:Int)(f:Z0)(a:Int)(b:Int)(c:Int):Option X:=
 (F.iZ n e f).bind fun d =>
  bif d.2.1==0 then
   bif decide (d.1<0)then
    kr true a b
   else
   bif (a==0)&&(b==0)then
    F.za.aa n
     (fun g h =>
      kr false g h) 14 c true a b
   else
    F.za.aa n
     (fun i j =>
      kr false i j) 14 c false a b
  else
  bif (a==0)&&(b==0)then
   F.za.aa n
    (fun k l =>
     kr false k l) 14 c true a b
  else
   F.za.aa n
    (fun m o =>
     kr false m o) 14 c false a b
noncomputable def F.za.gL{X:Type}(n:Nat)(kr:Z0→Int→Int→Int→eF→bF→Nat→Option X)(k:Int)(m:Z7)(b:Int)(g:Int)(h:Int)(c:eF)(a:bF)(d:Nat):Option X:=
 lZ (some [(.int .i64 0),(.int .i64 0)]) (some [(.int .i64 0),(.int .i64 0)]) (
  bif !((g==0)&&(h==0))then
   kr [] b g h c a d
  else
   (F.i_ n k).bind fun j =>
    bif !(j.2.1==0)then
     bif (g==0)&&(h==0)then
      F.za.aa n
       (fun r s =>
        kr [] b r s c a d) j.2.1 b (!(j.2.1==0)) g h
     else
      F.za.aa n
       (fun t u =>
        kr [] b t u c a d) j.2.1 b false g h
    else
     F.za.cp n
      (fun l i e f =>
       lZ (some [(.int .i64 0),(.int .i64 0)]) (some [(.int .i64 0),(.int .i64 0)]) (
        bif !((e==0)&&(f==0))then
         kr [] i e f c a d
        else
        bif l==0 then
         F.za.fZ n
          (fun v w x y z A B =>
           kr v w x y z A B) k b m i e f c a d
        else
        bif decide (l>(afv .u64 ((a.length:Int))))then
         bif (e==0)&&(f==0)then
          F.za.aa n
           (fun C D =>
            kr [] i C D c a d) 25 b true e f
         else
          F.za.aa n
           (fun E G =>
            kr [] i E G c a d) 25 b false e f
        else
         (idx a (afv .u64 (l - (1:Int)))).bind fun o =>
          F.za.hU n
           (fun H p q =>
            bif !H then
             kr [] i p q c a d
            else
             kr o i p q c a d) k o e f b)) m b g h)
noncomputable def F.za.gM{X:Type}(n:Nat)(kr:Z0→Int→Int→Int→eF→bF→Nat→Option X)(d:Int)(j:Z7)(e:Int)(k:Int)(l:Int)(m:eF)(o:bF)(p:Int)(q:Int)(r:Int)(s:Nat):Option X:=
 F.za.gL n
  (fun a f b c g h i =>
   bif decide ((a.length:Int)≥q)then
    bif !(decide ((a.length:Int)≤r))then
     bif (b==0)&&(c==0)then
      F.za.aa n
       (fun t u =>
        kr a f t u g h i) d e (!(d==0)) b c
     else
      F.za.aa n
       (fun v w =>
        kr a f v w g h i) d e false b c
    else
     kr a f b c g h i
   else
   bif (b==0)&&(c==0)then
    F.za.aa n
     (fun x y =>
      kr a f x y g h i) d e (!(d==0)) b c
   else
    F.za.aa n
     (fun z A =>
      kr a f z A g h i) d e false b c) p j e k l m o s
noncomputable def F.za.gN{X:Type}(n:Nat)(kr:Z0→Int→Int→Int→eF→bF→Nat→Option X)(a:Int)(b:Z7)(c:Int)(d:Int)(e:Int)(f:eF)(g:bF)(h:Int)(i:Int)(j:Int)(k:Nat):Option X:=
 F.za.gM n
  (fun l m o p q r s =>
   kr l m o p q r s) a b c d e f g h i j k
noncomputable def F.za.iV{X:Type}(n:Nat)(kr:Int→Int→Int→Int→Option X)(d:Int)(g:Z7)(e:Int)(h:Int)(i:Int):Option X:=
 F.za.dn n
  (fun a f b c =>
   (F.xG n (afv .i64 (a))).bind fun j =>
    bif !j then
     bif (b==0)&&(c==0)then
      F.za.aa n
       (fun k l =>
        kr (afv .i64 (a)) f k l) d e (!(d==0)) b c
     else
      F.za.aa n
       (fun m o =>
        kr (afv .i64 (a)) f m o) d e false b c
    else
     kr (afv .i64 (a)) f b c) g e h i
noncomputable def F.za.jj{X:Type}(n:Nat)(kr:Int→Int→Int→Int→Option X)(d:Int)(g:Z7)(e:Int)(h:Int)(i:Int)(j:Int)(k:Int):Option X:=
 F.za.cp n
  (fun a f b c =>
   bif decide (a≥(afv .u64 (j)))then
    bif !(decide (a≤(afv .u64 (k))))then
     bif (b==0)&&(c==0)then
      F.za.aa n
       (fun l m =>
        kr a f l m) d e (!(d==0)) b c
     else
      F.za.aa n
       (fun o p =>
        kr a f o p) d e false b c
    else
     kr a f b c
   else
   bif (b==0)&&(c==0)then
    F.za.aa n
     (fun q r =>
      kr a f q r) d e (!(d==0)) b c
   else
    F.za.aa n
     (fun s t =>
      kr a f s t) d e false b c) g e h i
noncomputable def F.za.gw{X:Type}(n:Nat)(kr:Int→Int→Int→Int→Option X)(a:Int)(b:Z7)(c:Int)(d:Int)(e:Int)(f:Int)(g:Int):Option X:=
 F.za.jj n
  (fun h i j k =>
   kr (afv .i64 (h)) i j k) a b c d e f g
noncomputable def F.za.kM{X:Type}(n:Nat)(kr:Int→Int→Int→Bool→Int→Int→Option X)(m:Z7)(g:Int)(o:Int)(p:Int):Option X:=
 F.za.cp n
  (fun d q r s =>
   (F.vf n (km .u64 d (1:Int))).bind fun e =>
    F.za.cp n
     (fun f c a b =>
      bif (a==0)&&(b==0)then
       (F.rM n ((bw .and .u64 d 1)==1,f,e,())).bind fun h =>
        bif (a==0)&&(b==0)then
         F.za.aa n
          (fun i j =>
           bif !((i==0)&&(j==0))then
            kr c i j false 0 0
           else
            kr c i j ((bw .and .u64 d 1)==1) f e) h g (!(h==0)) a b
        else
         F.za.aa n
          (fun k l =>
           bif !((k==0)&&(l==0))then
            kr c k l false 0 0
           else
            kr c k l ((bw .and .u64 d 1)==1) f e) h g false a b
      else
      bif !((a==0)&&(b==0))then
       kr c a b false 0 0
      else
       kr c a b ((bw .and .u64 d 1)==1) f e) m q r s) m g o p
noncomputable def F.za.qQ{X:Type}(n:Nat)(kn:Int→Int→Int→Int→Z2→Nat→Option X)(j:Int)(k:Z7)(l:Int)(m:Int)(o:Int)(b:Z0)(c:Int)(a:Z2)(d:Int)(e:Z4)(f:Int)(p:Nat):Option X:=
 F.za.kM n
  (fun q r s g h i =>
   lZ (some [(.str b),(.int .i64 c),(.sl Y2 a (.own 4)),(.int .i64 d),(.sl Y3 e (.own 5)),(.int .i64 f)]) (some [(.str b),(.int .i64 c),(.sl Y2 a (.own 4)),(.int .i64 d),(.sl Y3 e (.own 5)),(.int .i64 f)]) (
    bif decide ((a.length+1)*24≤2 ^ 46)&&decide (0<24∧24≤2 ^ 20)then
     bif afw p a.length then
      kn (afv .i64 (j - 1)) q r s (a++([(g,h,i)])) ((a++([(g,h,i)])).length)
     else
      none
    else
     none)) k l m o
noncomputable def F.za.gO.step{X:Type}(n:Nat)(rec:Int→Z7→Int→Int→Int→Z0→Int→Z2→Int→Z4→Int→Nat→Option X)(k0:Int→Int→Int→Z2→Nat→Option X)(f:Int)(g:Z7)(c:Int)(a:Int)(b:Int)(h:Z0)(i:Int)(d:Z2)(j:Int)(k:Z4)(l:Int)(e:Nat):Option X:=
 bif decide (f>0)then
  bif (a==0)&&(b==0)then
   F.za.qQ n
    (fun m o p q r s =>
     rec m g o p q h i r j k l s) f g c a b h i d j k l e
  else
   k0 c a b d e
 else
  k0 c a b d e
noncomputable def F.za.gO{X:Type}(n:Nat)(k0:Int→Int→Int→Z2→Nat→Option X):Nat→Int→Z7→Int→Int→Int→Z0→Int→Z2→Int→Z4→Int→Nat→Option X
 |0=>fun _ _ _ _ _ _ _ _ _ _ _ _=>none
 |m+1=>fun a b c d e f g h i j k l=>F.za.gO.step n (F.za.gO n k0 m) k0 a b c d e f g h i j k l
noncomputable def F.za.qR{X:Type}(n:Nat)(kn:Int→Int→Int→Z2→Nat→Option X)(a:Int)(b:Z7)(c:Int)(d:Int)(e:Int)(f:Z0)(g:Int)(h:Z2)(i:Int)(j:Z4)(k:Int)(l:Nat):Option X:=
 F.za.gO n
  (fun m o p q r =>
   kn m o p q r) n a b c d e f g h i j k l
noncomputable def F.za.kN{X:Type}(n:Nat)(kn:Int→Int→Option X)(c:Int)(d:Bool)(a:Int)(b:Int):Option X:=
 bif d then
  bif (a==0)&&(b==0)then
   F.za.aa n
    (fun e f =>
     kn e f) 21 c true a b
  else
   F.za.aa n
    (fun g h =>
     kn g h) 21 c false a b
 else
  kn a b
noncomputable def F.za.mS{X:Type}(n:Nat)(kn:Int→Int→Option X)(a:Int)(b:Int)(c:Int)(d:Int)(f:Z4)(g:Z0)(h:Z0):Option X:=
 bif decide (b>0)then
  (idx f (afv .i64 (b - (1:Int)))).bind fun e =>
   (F.qn n (e.1,e.2,()) (g,h,())).bind fun i =>
    F.za.kN n
     (fun j k =>
      kn j k) a (!i) c d
 else
  F.za.kN n
   (fun l m =>
    kn l m) a false c d
noncomputable def F.za.pw{X:Type}(n:Nat)(kn:Z4→Nat→Option X)(a:Z4)(b:Z0)(c:Z0)(d:Nat):Option X:=
 bif decide ((a.length+1)*32≤2 ^ 46)&&decide (0<32∧32≤2 ^ 20)then
  bif afw d a.length then
   kn (a++([(b,c)])) ((a++([(b,c)])).length)
  else
   none
 else
  none
noncomputable def F.za.px{X:Type}(n:Nat)(kn:Int→Int→Z4→Nat→Option X)(d:Int)(e:Int)(f:Int)(a:Z4)(b:Z0)(c:Z0)(g:Nat):Option X:=
 F.za.mS n
  (fun h i =>
   F.za.pw n
    (fun j k =>
     kn h i j k) a b c g) d (a.length:Int) e f a b c
noncomputable def F.za.py{X:Type}(n:Nat)(kn:Int→Int→Int→eF→bF→Z4→Nat→Nat→Option X)(a:Int)(b:Z7)(c:Int)(d:Int)(e:Int)(f:eF)(g:bF)(h:Z4)(i:Z0)(j:Nat)(k:Nat):Option X:=
 F.za.gN n
  (fun l m o p q r s =>
   F.za.px n
    (fun t u v w =>
     kn m t u q r v s w) a o p h i l k) 19 b c d e f g 3 0 100 j
noncomputable def F.za.pz{X:Type}(n:Nat)(kn:Int→Int→Int→eF→bF→Z4→Nat→Nat→Option X)(b:Int)(a:Z7)(c:Int)(d:Int)(e:Int)(f:eF)(g:bF)(h:Z4)(i:Nat)(j:Nat):Option X:=
 F.za.gN n
  (fun k l m o p q r =>
   F.za.py n
    (fun s t u v w x y z =>
     kn s t u v w x y z) b a l m o p q h k r j) 19 a c d e f g 2 1 64 i
noncomputable def F.za.pA{X:Type}(n:Nat)(kn:Int→Int→Int→Int→eF→bF→Z4→Nat→Nat→Option X)(b:Int)(c:Z7)(a:Int)(d:Int)(e:Int)(f:eF)(g:bF)(h:Z4)(i:Nat)(j:Nat):Option X:=
 F.za.pz n
  (fun k l m o p q r s =>
   kn (afv .i64 (b - 1)) k l m o p q r s) a c a d e f g h i j
noncomputable def F.za.gj.step{X:Type}(n:Nat)(rec:Int→Z7→Int→Int→Int→eF→bF→Z4→Nat→Nat→Option X)(k2:Int→Int→Int→eF→bF→Z4→Nat→Nat→Option X)(i:Int)(j:Z7)(c:Int)(a:Int)(b:Int)(d:eF)(e:bF)(f:Z4)(g:Nat)(h:Nat):Option X:=
 bif decide (i>0)then
  bif (a==0)&&(b==0)then
   F.za.pA n
    (fun k l m o p q r s t =>
     rec k j l m o p q r s t) i j c a b d e f g h
  else
   k2 c a b d e f g h
 else
  k2 c a b d e f g h
noncomputable def F.za.gj{X:Type}(n:Nat)(k2:Int→Int→Int→eF→bF→Z4→Nat→Nat→Option X):Nat→Int→Z7→Int→Int→Int→eF→bF→Z4→Nat→Nat→Option X
 |0=>fun _ _ _ _ _ _ _ _ _ _=>none
 |m+1=>fun a b c d e f g h i j=>F.za.gj.step n (F.za.gj n k2 m) k2 a b c d e f g h i j
noncomputable def F.za.pB{X:Type}(n:Nat)(kn:Int→Int→Int→eF→bF→Z4→Nat→Nat→Option X)(a:Int)(b:Z7)(c:Int)(d:Int)(e:Int)(f:eF)(g:bF)(h:Z4)(i:Nat)(j:Nat):Option X:=
 F.za.gj n
  (fun k l m o p q r s =>
   kn k l m o p q r s) n a b c d e f g h i j
noncomputable def F.za.pC{X:Type}(n:Nat)(kr:Z0→Int→Z2→Int→Z4→Int→Nat→Nat→Option X)(a:Int)(b:Int)(c:Z0)(d:Int)(e:Z2)(f:Int)(g:Z4)(h:Int)(i:Nat)(j:Nat):Option X:=
 bif !((a==0)&&(b==0))then
  kr [] 0 [] 0 [] 0 0 0
 else
  kr c d e f g h i j
noncomputable def F.za.pD{X:Type}(n:Nat)(kr:Int→Int→Int→Z0→Int→Z2→Int→Z4→Int→Nat→Nat→Option X)(c:Z7)(d:Int)(e:Int)(f:Int)(g:Z0)(h:Int)(i:Z2)(j:Int)(k:Z4)(l:Nat)(m:Nat):Option X:=
 F.za.gw n
  (fun o p a b =>
   F.za.pC n
    (fun q r s t u v w x =>
     kr p a b q r s t u v w x) a b g h i j k o l m) 20 c d e f 0 1099511627776
noncomputable def F.za.pE{X:Type}(n:Nat)(kr:Int→Int→Int→eF→bF→Z0→Int→Z2→Int→Z4→Int→Nat→Nat→Nat→Option X)(a:Z7)(b:Int)(c:Int)(d:Int)(e:eF)(f:bF)(g:Z0)(h:Int)(i:Z2)(j:Int)(k:Z4)(l:Nat)(m:Nat)(o:Nat):Option X:=
 F.za.gw n
  (fun p q r s =>
   F.za.pB n
    (fun t u v w x y z A =>
     F.za.pD n
      (fun B C D E G H I J K L M =>
       kr B C D w x E G H I J K z L M) a t u v g h i j y m A) p a q r s e f k l o) 19 a b c d 0 32
noncomputable def F.za.kO{X:Type}(n:Nat)(kr:Int→Int→Int→eF→bF→Z0→Int→Z2→Int→Z4→Int→Nat→Nat→Nat→Option X)(b:Int)(a:Z7)(c:Int)(d:Int)(e:Int)(f:eF)(g:bF)(h:Z0)(i:Int)(j:Z2)(k:Z4)(l:Nat)(m:Nat)(o:Nat):Option X:=
 F.za.gw n
  (fun p q r s =>
   F.za.pE n
    (fun t u v w x y z A B C D E G H =>
     kr t u v w x y z A B C D E G H) a q r s f g h i j p k l m o) 18 a c d e b 1000000
noncomputable def F.za.pF{X:Type}(n:Nat)(kr:Int→Int→Int→eF→bF→Z0→Int→Z2→Int→Z4→Int→Nat→Nat→Nat→Option X)(b:Z7)(c:Int)(d:Int)(e:Int)(f:eF)(g:bF)(h:Z0)(a:Int)(i:Z2)(j:Z4)(k:Nat)(l:Nat)(m:Nat):Option X:=
 bif a==2 then
  F.za.kO n
   (fun o p q r s t u v w x y z A B =>
    kr o p q r s t u v w x y z A B) 1000000 b c d e f g h a i j k l m
 else
  F.za.kO n
   (fun C D E G H I J K L M N O P Q =>
    kr C D E G H I J K L M N O P Q) 1 b c d e f g h a i j k l m
noncomputable def F.za.qS{X:Type}(n:Nat)(kr:Int→Int→Int→eF→bF→Z0→Int→Z2→Int→Z4→Int→Nat→Nat→Nat→Option X)(a:Z7)(e:Int)(f:Int)(g:Int)(h:eF)(i:bF)(b:Z0)(c:Int)(j:Z2)(k:Int)(d:Z4)(l:Int)(m:Nat)(o:Nat)(p:Nat):Option X:=
 F.za.gw n
  (fun q r s t =>
   F.za.qR n
    (fun u v w x y =>
     F.za.pF n
      (fun z A B C D E G H I J K L M N =>
       kr z A B C D E G H I J K L M N) a u v w h i b c x d m y p) q a r s t b c j k d l o) 17 a e f g 1 64
noncomputable def F.za.qT{X:Type}(n:Nat)(kr:Int→Int→Int→eF→bF→Z0→Int→Z2→Int→Z4→Int→Nat→Nat→Nat→Option X)(a:Z7)(b:Int)(c:Int)(d:Int)(e:eF)(f:bF)(g:Z0)(h:Z2)(i:Int)(j:Z4)(k:Int)(l:Nat)(m:Nat)(o:Nat):Option X:=
 F.za.iV n
  (fun p q r s =>
   F.za.qS n
    (fun t u v w x y z A B C D E G H =>
     kr t u v w x y z A B C D E G H) a q r s e f g p h i j k l m o) 16 a b c d
noncomputable def F.za.qU{X:Type}(n:Nat)(kr:Int→Int→Int→eF→bF→Z0→Int→Z2→Int→Z4→Int→Nat→Nat→Nat→Option X)(a:Z7)(b:Int)(c:Int)(d:Int)(e:eF)(f:bF)(g:Nat):Option X:=
 F.za.gN n
  (fun h i j k l m o =>
   F.za.qT n
    (fun p q r s t u v w x y z A B C =>
     kr p q r s t u v w x y z A B C) a i j k l m h [] 0 [] 0 o 0 0) 15 a b c d e f 1 1 200 g
noncomputable def F.za.nO{X:Type}(n:Nat)(kr:Int→Int→Int→eF→bF→Z0→Int→Z2→Int→Z4→Int→Nat→Nat→Nat→Option X)(g:Z7)(c:Int)(a:Int)(b:Int)(d:eF)(e:bF)(f:Nat):Option X:=
 bif !((a==0)&&(b==0))then
  kr c a b d e [] 0 [] 0 [] 0 f 0 0
 else
  F.za.qU n
   (fun h i j k l m o p q r s t u v =>
    kr h i j k l m o p q r s t u v) g c a b d e f
noncomputable def F.za.d_.step{X:Type}(n:Nat)(rec:Int→Int→Z6→Z7→Int→Int→Int→Bool→eF→bF→Nat→Nat→Option X)(k0:Z6→Int→Int→Int→eF→bF→Nat→Nat→Option X)(jk:Z6→Int→Int→Int→eF→bF→Nat→Nat→Option X)(j:Int)(k:Int)(a:Z6)(l:Z7)(m:Int)(o:Int)(p:Int)(q:Bool)(r:eF)(s:bF)(t:Nat)(u:Nat):Option X:=
 bif decide (k<j)then
  F.za.nO n
   (fun v h i w x b c d e f g y z A =>
    lZ (some [(.sl Y6 a (.own 0))]) (some [(.sl Y6 a (.own 0))]) (
     bif decide ((a.length+1)*88≤2 ^ 46)&&decide (0<88∧88≤2 ^ 20)then
      bif afw t a.length then
       bif q && !(h==0&&i==0)then
        jk (a++([(b,c,d,e,f,g)])) v h i w x ((a++([(b,c,d,e,f,g)])).length) y
       else
        rec j (afv .u64 (k+1)) (a++([(b,c,d,e,f,g)])) l v h i q w x ((a++([(b,c,d,e,f,g)])).length) y
      else
       none
     else
      none)) l m o p r s u
 else
  k0 a m o p r s t u
noncomputable def F.za.d_{X:Type}(n:Nat)(k0:Z6→Int→Int→Int→eF→bF→Nat→Nat→Option X)(jk:Z6→Int→Int→Int→eF→bF→Nat→Nat→Option X):Nat→Int→Int→Z6→Z7→Int→Int→Int→Bool→eF→bF→Nat→Nat→Option X
 |0=>fun _ _ _ _ _ _ _ _ _ _ _ _=>none
 |m+1=>fun a b c d e f g h i j k l=>F.za.d_.step n (F.za.d_ n k0 jk m) k0 jk a b c d e f g h i j k l
noncomputable def F.za.eR{X:Type}(n:Nat)(jk:Z6→Int→Int→Int→Nat→Option X)(kn:Z6→Int→Int→Int→Nat→Option X)(m:Int)(h:Z6)(i:Z7)(j:Int)(d:Int)(e:Int)(k:Bool)(l:Nat):Option X:=
 bif k && !(d==0&&e==0)then
  jk h j d e l
 else
  F.za.d_ n
   (fun f a b c x y g z =>
    bif decide ((afv .i64 ((i.length:Int) - a))>0)then
     bif (b==0)&&(c==0)then
      F.za.aa n
       (fun o p =>
        kn f a o p g) 11 a true b c
     else
      F.za.aa n
       (fun q r =>
        kn f a q r g) 11 a false b c
    else
     kn f a b c g)
   (fun s t u v A B w C =>
    jk s t u v w) n m 0 h i j d e k [] [] l 0
noncomputable def F.za(n:Nat)(a0:Z7):Option ((Z6)×(oe)×Unit):=
 bif Nat.ble a0.length 70368744177664 then
  F.za.cp n
   (fun a d b c =>
    bif decide (a>1000)then
     bif (b==0)&&(c==0)then
      F.za.aa n
       (fun r s =>
        F.za.eR n
         (fun t B e f C =>
          bif !((e==0)&&(f==0))then
           some (([],(e,f,()),()))
          else
           some ((t,(0,0,()),())))
         (fun u D g h E =>
          bif !((g==0)&&(h==0))then
           some (([],(g,h,()),()))
          else
           some ((u,(0,0,()),()))) a [] a0 d r s true 0) 12 0 true b c
     else
      F.za.aa n
       (fun v w =>
        F.za.eR n
         (fun x G i j H =>
          bif !((i==0)&&(j==0))then
           some (([],(i,j,()),()))
          else
           some ((x,(0,0,()),())))
         (fun y I k l J =>
          bif !((k==0)&&(l==0))then
           some (([],(k,l,()),()))
          else
           some ((y,(0,0,()),()))) a [] a0 d v w true 0) 12 0 false b c
    else
     F.za.eR n
      (fun z K m o L =>
       bif !((m==0)&&(o==0))then
        some (([],(m,o,()),()))
       else
        some ((z,(0,0,()),())))
      (fun A M p q N =>
       bif !((p==0)&&(q==0))then
        some (([],(p,q,()),()))
       else
        some ((A,(0,0,()),()))) a [] a0 d b c true 0) a0 0 0 0
 else
  none
noncomputable def F.vg(n:Nat)(a0:Z7):Option ((Z6)×(oe)×Unit):=
 (F.yO n a0).bind fun a =>
  bif !((a.2.1.1==0)&&(a.2.1.2.1==0))then
   some (([],(a.2.1.1,a.2.1.2.1,()),()))
  else
  bif a.1==0 then
   some (([],(13,(a0.length:Int),()),()))
  else
  bif decide (a.1>(a0.length:Int))then
   some (([],(13,(a0.length:Int),()),()))
  else
  bif decide (a.1<(a0.length:Int))then
   some (([],(11,a.1,()),()))
  else
   (F.wM n a0).bind fun d =>
    bif !(d==0)then
     some (([],(24,(afv .i64 (a.1 - 4)),()),()))
    else
     (F.zq n a0).bind fun c =>
      (sub a0 c.1 (afv .i64 (a.1 - (4:Int)))).bind fun e =>
       (F.za n e).bind fun b =>
        bif !((b.2.1.1==0)&&(b.2.1.2.1==0))then
         some (([],(b.2.1.1,(afv .i64 (b.2.1.2.1+c.1)),()),()))
        else
         some ((b.1,(b.2.1.1,b.2.1.2.1,()),()))
noncomputable def F.qe(n:Nat)(a0:Z0)(a1:Z0):Option (Bool):=
 bif decide ((a0.length:Int)≥(a1.length:Int))then
  (sub a0 (afv .i64 ((a0.length:Int) - (a1.length:Int))) (a0.length:Int)).bind fun a =>
   some (a==a1)
 else
  some (false)
noncomputable def F.sD(n:Nat)(a0:Z0)(a1:Z0):Option ((Z0)×(Bool)×Unit):=
 (F.qe n a0 a1).bind fun a =>
  bif !a then
   some ((a0,false,()))
  else
   (sub a0 0 (afv .i64 ((a0.length:Int) - (a1.length:Int)))).bind fun b =>
    some ((b,true,()))
noncomputable def F.n5(n:Nat)(a0:Z0)(a1:Z0):Option ((Z0)×(Bool)×Unit):=
 (F.sD n a0 a1).bind fun a =>
  some ((a.1,a.2.1,()))
noncomputable def F.yL(n:Nat)(a0:Z0)(a1:Z0):Option ((Z0)×(Z0)×(Bool)×Unit):=
 (O.mM n a0 a1).bind fun a =>
  bif decide (a≥0)then
   (sub a0 0 a).bind fun b =>
    (sub a0 (afv .i64 (a+(a1.length:Int))) (a0.length:Int)).bind fun c =>
     some ((b,c,true,()))
  else
   some ((a0,[],false,()))
noncomputable def F.kh(n:Nat)(a0:Z0)(a1:Z0):Option ((Z0)×(Z0)×(Bool)×Unit):=
 (F.yL n a0 a1).bind fun a =>
  some ((a.1,a.2.1,a.2.2.1,()))
noncomputable def F.lb(n:Nat)(a0:Int)(a1:Int):Option ((Z9)×(oe)×Unit):=
 some ((([],0,[],0,[],0,()),(a0,a1,()),()))
noncomputable def F.mT(n:Nat)(a0:Z0)(a1:Z0):Option (Bool):=
 bif decide ((a0.length:Int)≥(a1.length:Int))then
  (sub a0 0 (a1.length:Int)).bind fun a =>
   some (a==a1)
 else
  some (false)
noncomputable def F.oN(n:Nat)(a0:Z0)(a1:Z0):Option (Bool):=
 (F.mT n a0 a1).bind fun a =>
  some (a)
noncomputable def F.jH.da.step{X:Type}(n:Nat)(rec:Int→Z0→Int→Int→Int→Option X)(k0:Int→Z0→Int→Int→Int→Option X)(c:Int)(a:Z0)(d:Int)(e:Int)(b:Int):Option X:=
 bif decide (b<(a.length:Int))then
  (idx a b).bind fun f =>
   bif decide (((f).toNat)≥(48:Int))then
    (idx a b).bind fun g =>
     bif decide (((g).toNat)≤(57:Int))then
      rec c a d e (afv .i64 (b+1))
     else
      k0 c a d e b
   else
    k0 c a d e b
 else
  k0 c a d e b
noncomputable def F.jH.da{X:Type}(n:Nat)(k0:Int→Z0→Int→Int→Int→Option X):Nat→Int→Z0→Int→Int→Int→Option X
 |0=>fun _ _ _ _ _=>none
 |m+1=>fun a b c d e=>F.jH.da.step n (F.jH.da n k0 m) k0 a b c d e
noncomputable def F.jH(n:Nat)(a0:Z0):Option (oe):=
 (F.oN n a0 ([45])).bind fun k =>
  bif k then
   F.jH.da n
    (fun g c l m a =>
     bif decide (a>g)then
      (sub c a (c.length:Int)).bind fun o =>
       (F.oN n o ([46])).bind fun p =>
        bif p then
         F.jH.da n
          (fun q h w x e =>
           bif decide (e>q)then
            bif e==(h.length:Int)then
             some ((0,0,()))
            else
            bif e==(h.length:Int)then
             some ((11,e,()))
            else
             some ((14,e,()))
           else
           bif e==(h.length:Int)then
            some ((11,e,()))
           else
            some ((14,e,()))) n (afv .i64 (a+1)) c l m (afv .i64 (a+1))
        else
        bif decide (a>g)then
         bif a==(c.length:Int)then
          some ((0,0,()))
         else
         bif a==(c.length:Int)then
          some ((11,a,()))
         else
          some ((14,a,()))
        else
        bif a==(c.length:Int)then
         some ((11,a,()))
        else
         some ((14,a,()))
     else
     bif decide (a>g)then
      bif a==(c.length:Int)then
       some ((0,0,()))
      else
      bif a==(c.length:Int)then
       some ((11,a,()))
      else
       some ((14,a,()))
     else
     bif a==(c.length:Int)then
      some ((11,a,()))
     else
      some ((14,a,()))) n 1 a0 0 0 1
  else
   F.jH.da n
    (fun i d r s b =>
     bif decide (b>i)then
      (sub d b (d.length:Int)).bind fun t =>
       (F.oN n t ([46])).bind fun u =>
        bif u then
         F.jH.da n
          (fun v j y z f =>
           bif decide (f>v)then
            bif f==(j.length:Int)then
             some ((0,0,()))
            else
            bif f==(j.length:Int)then
             some ((11,f,()))
            else
             some ((14,f,()))
           else
           bif f==(j.length:Int)then
            some ((11,f,()))
           else
            some ((14,f,()))) n (afv .i64 (b+1)) d r s (afv .i64 (b+1))
        else
        bif decide (b>i)then
         bif b==(d.length:Int)then
          some ((0,0,()))
         else
         bif b==(d.length:Int)then
          some ((11,b,()))
         else
          some ((14,b,()))
        else
        bif b==(d.length:Int)then
         some ((11,b,()))
        else
         some ((14,b,()))
     else
     bif decide (b>i)then
      bif b==(d.length:Int)then
       some ((0,0,()))
      else
      bif b==(d.length:Int)then
       some ((11,b,()))
      else
       some ((14,b,()))
     else
     bif b==(d.length:Int)then
      some ((11,b,()))
     else
      some ((14,b,()))) n 0 a0 0 0 0
noncomputable def F.rQ(n:Nat)(a0:Z0)(a1:Z0):Option ((Z0)×(Bool)×Unit):=
 (F.mT n a0 a1).bind fun a =>
  bif !a then
   some ((a0,false,()))
  else
   (sub a0 (a1.length:Int) (a0.length:Int)).bind fun b =>
    some ((b,true,()))
noncomputable def F.lx(n:Nat)(a0:Z0)(a1:Z0):Option ((Z0)×(Bool)×Unit):=
 (F.rQ n a0 a1).bind fun a =>
  some ((a.1,a.2.1,()))
noncomputable def F.jJ.uh.step{X:Type}(n:Nat)(rec:Z0→Int→Int→Bool→Int→Int→Int→Int→Int→Int→Bool→Int→Int→Option X)(k0:Bool→Int→Int→Int→Int→Int→Int→Bool→Int→Int→Option X)(j:Z0)(k:Int)(a:Int)(b:Bool)(c:Int)(d:Int)(e:Int)(f:Int)(g:Int)(h:Int)(i:Bool)(l:Int)(m:Int):Option X:=
 bif decide (a<k)then
  (idx j a).bind fun p =>
   (F.wI n l (afv .u64 (afv .u8 (((p).toNat) - (48:Int))))).bind fun o =>
    bif !o.2.1 then
     k0 b c d e f g h i 1 (-19:Int)
    else
     rec j k (afv .i64 (a+1)) b c d e f g h i o.1 m
 else
  k0 b c d e f g h i l m
noncomputable def F.jJ.uh{X:Type}(n:Nat)(k0:Bool→Int→Int→Int→Int→Int→Int→Bool→Int→Int→Option X):Nat→Z0→Int→Int→Bool→Int→Int→Int→Int→Int→Int→Bool→Int→Int→Option X
 |0=>fun _ _ _ _ _ _ _ _ _ _ _ _ _=>none
 |m+1=>fun a b c d e f g h i j k l o=>F.jJ.uh.step n (F.jJ.uh n k0 m) k0 a b c d e f g h i j k l o
noncomputable def F.jJ(n:Nat)(a0:Z0):Option ((C7)×(oe)×Unit):=
 (F.jH n a0).bind fun a =>
  bif !((a.1==0)&&(a.2.1==0))then
   some (((false,0,0,()),(a.1,a.2.1,()),()))
  else
   (F.lx n a0 ([45])).bind fun g =>
    (F.kh n g.1 ([46])).bind fun i =>
     (O.od n i.2.1 ([48])).bind fun c =>
      bif decide (i.1.length+c.length≤ai)then
       (O.sR n (i.1++c) ([48])).bind fun b =>
        (O.od n b ([48])).bind fun h =>
         bif (afv .i64 (0 - (c.length:Int)))==0 then
          bif decide ((h.length:Int)<(b.length:Int))then
           F.jJ.uh n
            (fun t u v w x y z j k l =>
             (F.zh n (j,k,l,())).bind fun d =>
              bif !(d.2.1==0)then
               some (((false,0,0,()),(d.2.1,0,()),()))
              else
               some (((d.1.1,d.1.2.1,d.1.2.2.1,()),(0,0,()),()))) n h (h.length:Int) 0 false 0 0 0 0 a.1 a.2.1 g.2.1 0 (afv .i64 ((b.length:Int) - (h.length:Int)))
          else
           F.jJ.uh n
            (fun A B C D E G H m o p =>
             (F.zh n (m,o,p,())).bind fun e =>
              bif !(e.2.1==0)then
               some (((false,0,0,()),(e.2.1,0,()),()))
              else
               some (((e.1.1,e.1.2.1,e.1.2.2.1,()),(0,0,()),()))) n b (b.length:Int) 0 false 0 0 0 0 a.1 a.2.1 g.2.1 0 (afv .i64 (0 - (c.length:Int)))
         else
          F.jJ.uh n
           (fun I J K L M N P q r s =>
            (F.zh n (q,r,s,())).bind fun f =>
             bif !(f.2.1==0)then
              some (((false,0,0,()),(f.2.1,0,()),()))
             else
              some (((f.1.1,f.1.2.1,f.1.2.2.1,()),(0,0,()),()))) n b (b.length:Int) 0 false 0 0 0 0 a.1 a.2.1 g.2.1 0 (afv .i64 (0 - (c.length:Int)))
      else
       none
noncomputable def F.jw.L2.step{X:Type}(n:Nat)(rec:Z0→Int→Option X)(k0:Unit→Option X)(kr:Int→Int→Option X)(b:Z0)(a:Int):Option X:=
 bif decide (a≤5)then
  (O.word n a).bind fun c =>
   bif c.2.1==0 then
    bif c.1==b then
     kr a 0
    else
     rec b (afv .i64 (a+1))
   else
    rec b (afv .i64 (a+1))
 else
  k0 ()
noncomputable def F.jw.L2{X:Type}(n:Nat)(k0:Unit→Option X)(kr:Int→Int→Option X):Nat→Z0→Int→Option X
 |0=>fun _ _=>none
 |m+1=>fun a b=>F.jw.L2.step n (F.jw.L2 n k0 kr m) k0 kr a b
noncomputable def F.jw(n:Nat)(a0:Z0):Option ((Int)×(Int)×Unit):=
 F.jw.L2 n
  (fun(_:Unit) =>
   some ((0,16,())))
  (fun a b =>
   some ((a,b,()))) n a0 1
noncomputable def F.jM(n:Nat)(a0:Int)(a1:Int):Option ((Int)×(oe)×Unit):=
 some ((0,(a0,a1,()),()))
noncomputable def F.zx.L5.step{X:Type}(n:Nat)(rec:Z0→oe→Int→Int→Int→Int→Int→Option X)(k0:Z0→Int→Int→Int→Int→Option X)(b:Z0)(e:oe)(a:Int)(c:Int)(d:Int)(f:Int)(g:Int):Option X:=
 bif decide (a<2)then
  bif a==0 then
   bif a==(b.length:Int)then
    bif a==0 then
     k0 b c d 13 0
    else
    bif decide (a≥(b.length:Int))then
     k0 b c d 11 a
    else
     (idx b a).bind fun h =>
      bif !(((h).toNat)==e.1)then
       k0 b c d 11 a
      else
       rec b (e.1,e.2.1,()) (afv .i64 (a+1)) c d f g
   else
   bif decide (a≥(b.length:Int))then
    k0 b c d 11 a
   else
    (idx b a).bind fun i =>
     bif !(((i).toNat)==e.1)then
      k0 b c d 11 a
     else
      rec b (e.1,e.2.1,()) (afv .i64 (a+1)) c d f g
  else
  bif a==1 then
   bif a==(b.length:Int)then
    bif a==0 then
     k0 b c d 13 0
    else
    bif decide (a≥(b.length:Int))then
     k0 b c d 11 a
    else
     (idx b a).bind fun j =>
      bif !(((j).toNat)==e.2.1)then
       k0 b c d 11 a
      else
       rec b (e.1,e.2.1,()) (afv .i64 (a+1)) c d f g
   else
   bif decide (a≥(b.length:Int))then
    k0 b c d 11 a
   else
    (idx b a).bind fun k =>
     bif !(((k).toNat)==e.2.1)then
      k0 b c d 11 a
     else
      rec b (e.1,e.2.1,()) (afv .i64 (a+1)) c d f g
  else
   none
 else
  k0 b c d f g
noncomputable def F.zx.L5{X:Type}(n:Nat)(k0:Z0→Int→Int→Int→Int→Option X):Nat→Z0→oe→Int→Int→Int→Int→Int→Option X
 |0=>fun _ _ _ _ _ _ _=>none
 |m+1=>fun a b c d e f g=>F.zx.L5.step n (F.zx.L5 n k0 m) k0 a b c d e f g
noncomputable def F.zx.xV.step{X:Type}(n:Nat)(rec:Z0→Int→Int→Int→Int→Int→Int→Int→Int→Option X)(k3:Int→Int→Int→Int→Int→Int→Int→Option X)(b:Z0)(a:Int)(c:Int)(d:Int)(e:Int)(f:Int)(g:Int)(h:Int)(i:Int):Option X:=
 bif decide (a<6)then
  bif decide (a<(b.length:Int))then
   (idx b a).bind fun j =>
    rec b (afv .i64 (a+1)) c d e f g h (afv .i64 ((afv .i64 (10*i))+(afv .i64 (afv .u8 (((j).toNat) - (48:Int))))))
  else
   rec b (afv .i64 (a+1)) c d e f g h (afv .i64 ((afv .i64 (10*i))+0))
 else
  k3 c d e f g h i
noncomputable def F.zx.xV{X:Type}(n:Nat)(k3:Int→Int→Int→Int→Int→Int→Int→Option X):Nat→Z0→Int→Int→Int→Int→Int→Int→Int→Int→Option X
 |0=>fun _ _ _ _ _ _ _ _ _=>none
 |m+1=>fun a b c d e f g h i=>F.zx.xV.step n (F.zx.xV n k3 m) k3 a b c d e f g h i
noncomputable def F.zx(n:Nat)(a0:Z0):Option ((Int)×(oe)×Unit):=
 bif a0==([49])then
  some ((1000000,(0,0,()),()))
 else
  F.zx.L5 n
   (fun i k l c d =>
    bif !((c==0)&&(d==0))then
     (F.jM n c d).bind fun e =>
      some ((e.1,(e.2.1.1,e.2.1.2.1,()),()))
    else
     (sub i 2 (i.length:Int)).bind fun b =>
      (F.k9 n 4 b 1 (afv .i64 ((b.length:Int)+(1:Int)))).bind fun a =>
       bif !((a.1==0)&&(a.2.1==0))then
        (F.jM n a.1 (afv .i64 (2+a.2.1))).bind fun f =>
         some ((f.1,(f.2.1.1,f.2.1.2.1,()),()))
       else
       bif decide ((b.length:Int)>6)then
        (F.jM n 12 (8:Int)).bind fun g =>
         some ((g.1,(g.2.1.1,g.2.1.2.1,()),()))
       else
        F.zx.xV n
         (fun m o p q r s j =>
          bif j==0 then
           (F.jM n 10 (0:Int)).bind fun h =>
            some ((h.1,(h.2.1.1,h.2.1.2.1,()),()))
          else
           some ((j,(0,0,()),()))) n b 0 k l c d a.1 a.2.1 0) n a0 (48,46,()) 0 0 0 0 0
noncomputable def F.zd.Hs{X:Type}(n:Nat)(kr:Z0→Z0→Int→Z2→Int→Z4→Int→Int→Int→Option X)(kn:Bool→Z0→Z0→Int→Z2→Int→Z4→Int→Int→Int→Int→Z0→Int→Z2→Int→Z4→Int→Nat→Nat→Nat→Nat→Option X)(c:Bool)(d:Int)(e:Bool)(b:Z0)(f:Z0)(g:Int)(h:Z2)(i:Int)(j:Z4)(k:Int)(l:Int)(m:Int)(o:Int)(p:Z0)(q:Int)(r:Z2)(s:Int)(t:Z4)(u:Int)(v:Nat)(w:Nat)(x:Nat)(y:Nat):Option X:=
 bif e then
  (F.lb n 18 d).bind fun a =>
   kr b a.1.1 a.1.2.1 a.1.2.2.1 a.1.2.2.2.1 a.1.2.2.2.2.1 a.1.2.2.2.2.2.1 a.2.1.1 a.2.1.2.1
 else
  kn c b f g h i j k l m o p q r s t u v w x y
noncomputable def F.zd.Ht{X:Type}(n:Nat)(kr:Z0→Z0→Int→Z2→Int→Z4→Int→Int→Int→Option X)(c:Bool)(b:Z0)(k:Z0)(l:Int)(m:Z2)(o:Int)(p:Z4)(q:Int)(r:Int)(s:Int)(d:Int)(e:Z0)(f:Int)(g:Z2)(h:Int)(i:Z4)(j:Int)(t:Nat)(u:Nat)(v:Nat)(w:Nat):Option X:=
 bif c then
  (F.lb n 11 (afv .i64 (d - (1:Int)))).bind fun a =>
   kr b a.1.1 a.1.2.1 a.1.2.2.1 a.1.2.2.2.1 a.1.2.2.2.2.1 a.1.2.2.2.2.2.1 a.2.1.1 a.2.1.2.1
 else
  kr b e f g h i j 0 0
noncomputable def F.zd.Hu{X:Type}(n:Nat)(kr:Z0→Z0→Int→Z2→Int→Z4→Int→Int→Int→Option X)(b:Bool)(x:Int)(y:Z0)(c:Int)(d:Z0)(e:Z0)(f:Int)(g:Z2)(h:Int)(i:Z4)(j:Int)(k:Int)(l:Int)(m:Int)(o:Z0)(p:Int)(q:Z2)(cP:Int)(r:Z4)(s:Int)(cQ:Bool)(cR:Int)(cS:Int)(cT:Int)(cU:Int)(t:Nat)(u:Nat)(v:Nat)(w:Nat):Option X:=
 (F.zx n y).bind fun a =>
  bif !((a.2.1.1==0)&&(a.2.1.2.1==0))then
   F.zd.Hs n
    (fun z A B C D E G H I =>
     kr z A B C D E G H I)
    (fun J K L M N O P Q R S T U V W Y Z a0 a1 a2 a3 a4 =>
     F.zd.Ht n
      (fun a5 a6 a7 a8 a9 aA aB aC aD =>
       kr a5 a6 a7 a8 a9 aA aB aC aD) J K L M N O P Q R S T U V W Y Z a0 a1 a2 a3 a4) b c true d e f g h i j k l m o p q a.1 r s t u v w
  else
  bif x==2 then
   F.zd.Hs n
    (fun aE aG aH aI aJ aK aL aM aN =>
     kr aE aG aH aI aJ aK aL aM aN)
    (fun aO aP aQ aR aS aT aU aV aW aY aZ b0 b1 b2 b3 b4 b5 b6 b7 b8 b9 =>
     F.zd.Ht n
      (fun bA bB bC bD bE bG bH bI bJ =>
       kr bA bB bC bD bE bG bH bI bJ) aO aP aQ aR aS aT aU aV aW aY aZ b0 b1 b2 b3 b4 b5 b6 b7 b8 b9) b c (!(a.1==1000000)) d e f g h i j k l m o p q a.1 r s t u v w
  else
   F.zd.Hs n
    (fun bK bL bM bN bO bP bQ bR bS =>
     kr bK bL bM bN bO bP bQ bR bS)
    (fun bT bU bV bW bY bZ c0 c1 c2 c3 c4 c5 c6 c7 c8 c9 cA cB cC cD cE =>
     F.zd.Ht n
      (fun cG cH cI cJ cK cL cM cN cO =>
       kr cG cH cI cJ cK cL cM cN cO) bT bU bV bW bY bZ c0 c1 c2 c3 c4 c5 c6 c7 c8 c9 cA cB cC cD cE) b c false d e f g h i j k l m o p q a.1 r s t u v w
noncomputable def F.zd.Hv{X:Type}(n:Nat)(kr:Z0→Z0→Int→Z2→Int→Z4→Int→Int→Int→Option X)(i:Z0)(A:Bool)(e:Int)(a:Z0)(m:Z0)(o:Int)(p:Z2)(q:Int)(r:Z4)(s:Int)(t:Int)(u:Int)(c:Int)(Y:Z0)(Z:Int)(a0:Z2)(j:Int)(k:Z4)(l:Int)(f:Bool)(g:Int)(h:Int)(v:Int)(w:Int)(x:Nat)(y:Nat)(a1:Nat)(z:Nat):Option X:=
 bif !A then
  kr a i e ([(f,g,h)]) j k l 0 0
 else
  (sub a c (a.length:Int)).bind fun B =>
   (F.oN n B ([64])).bind fun C =>
    bif !C then
     (F.lb n 11 c).bind fun b =>
      kr a b.1.1 b.1.2.1 b.1.2.2.1 b.1.2.2.2.1 b.1.2.2.2.2.1 b.1.2.2.2.2.2.1 b.2.1.1 b.2.1.2.1
    else
     (sub a (afv .i64 (c+1)) (a.length:Int)).bind fun D =>
      (F.kh n D ([124])).bind fun d =>
       bif d.2.2.1 then
        F.zd.Hu n
         (fun E G H I J K L M N =>
          kr E G H I J K L M N) d.2.2.1 e d.1 (afv .i64 (c+1)) a m o p q r s t u (afv .i64 ((afv .i64 ((afv .i64 (c+1))+(d.1.length:Int)))+1)) i e ([(f,g,h)]) j k l f g h v w x y 1 z
       else
        F.zd.Hu n
         (fun O P Q R S T U V W =>
          kr O P Q R S T U V W) d.2.2.1 e d.1 (afv .i64 (c+1)) a m o p q r s t u (afv .i64 ((afv .i64 (c+1))+(d.1.length:Int))) i e ([(f,g,h)]) j k l f g h v w x y 1 z
noncomputable def F.zd.ve{X:Type}(n:Nat)(kr:Z0→Z0→Int→Z2→Int→Z4→Int→Int→Int→Option X)(e:Z0)(f:Bool)(G:Z0)(H:Int)(I:Z0)(J:Int)(c:Z0)(g:Z0)(h:Int)(i:Z2)(j:Int)(k:Z4)(l:Int)(m:Int)(o:Int)(p:Int)(q:Z0)(r:Int)(s:Z2)(t:Int)(u:Z4)(v:Int)(w:Bool)(x:Int)(y:Int)(z:Int)(A:Int)(B:Nat)(C:Nat)(D:Nat)(E:Nat):Option X:=
 (F.jw n I).bind fun d =>
  bif !(d.2.1==0)then
   (F.lb n 16 J).bind fun a =>
    kr c a.1.1 a.1.2.1 a.1.2.2.1 a.1.2.2.2.1 a.1.2.2.2.2.1 a.1.2.2.2.2.2.1 a.2.1.1 a.2.1.2.1
  else
  bif d.1==2 then
   (F.oN n G ([45])).bind fun K =>
    bif K then
     (F.lb n 26 H).bind fun b =>
      kr c b.1.1 b.1.2.1 b.1.2.2.1 b.1.2.2.2.1 b.1.2.2.2.2.1 b.1.2.2.2.2.2.1 b.2.1.1 b.2.1.2.1
    else
     F.zd.Hv n
      (fun L M N O P Q R S T =>
       kr L M N O P Q R S T) e f d.1 c g h i j k l m o p q r s t u v w x y z A B C D E
  else
   F.zd.Hv n
    (fun U V W Y Z a0 a1 a2 a3 =>
     kr U V W Y Z a0 a1 a2 a3) e f d.1 c g h i j k l m o p q r s t u v w x y z A B C D E
noncomputable def F.zd.qN{X:Type}(n:Nat)(kr:Z0→Z0→Int→Z2→Int→Z4→Int→Int→Int→Option X)(i:Z0)(C:Bool)(g:Z0)(h:Int)(d:Z0)(j:Z0)(k:Int)(l:Z2)(m:Int)(o:Z4)(p:Int)(q:Int)(r:Int)(f:Int)(s:Z0)(t:Int)(u:Z2)(v:Int)(w:Z4)(x:Int)(y:Nat)(z:Nat)(A:Nat)(B:Nat):Option X:=
 (F.jJ n g).bind fun a =>
  bif !((a.2.1.1==0)&&(a.2.1.2.1==0))then
   (F.lb n 17 h).bind fun b =>
    kr d b.1.1 b.1.2.1 b.1.2.2.1 b.1.2.2.2.1 b.1.2.2.2.2.1 b.1.2.2.2.2.2.1 b.2.1.1 b.2.1.2.1
  else
  bif !C then
   (F.lb n 11 (d.length:Int)).bind fun c =>
    kr d c.1.1 c.1.2.1 c.1.2.2.1 c.1.2.2.2.1 c.1.2.2.2.2.1 c.1.2.2.2.2.2.1 c.2.1.1 c.2.1.2.1
  else
   (sub d f (d.length:Int)).bind fun D =>
    (F.kh n D ([124])).bind fun e =>
     bif e.2.2.1 then
      F.zd.ve n
       (fun E G H I J K L M N =>
        kr E G H I J K L M N) i e.2.2.1 g h e.1 f d j k l m o p q r (afv .i64 ((afv .i64 (f+(e.1.length:Int)))+1)) s t u v w x a.1.1 a.1.2.1 a.1.2.2.1 a.2.1.1 a.2.1.2.1 y z A B
     else
      F.zd.ve n
       (fun O P Q R S T U V W =>
        kr O P Q R S T U V W) i e.2.2.1 g h e.1 f d j k l m o p q r (afv .i64 (f+(e.1.length:Int))) s t u v w x a.1.1 a.1.2.1 a.1.2.2.1 a.2.1.1 a.2.1.2.1 y z A B
noncomputable def F.zd.C5{X:Type}(n:Nat)(kr:Z0→Z0→Int→Z2→Int→Z4→Int→Int→Int→Option X)(f:Z0)(A:Bool)(c:Z0)(g:Z0)(h:Int)(i:Z2)(j:Int)(k:Z4)(l:Int)(m:Int)(o:Int)(e:Int)(p:Z0)(q:Int)(r:Z2)(s:Int)(t:Z4)(u:Int)(v:Nat)(w:Nat)(x:Nat)(y:Nat):Option X:=
 (F.k9 n 1 f 1 (200:Int)).bind fun z =>
  bif !((z.1==0)&&(z.2.1==0))then
   (F.lb n 15 (0:Int)).bind fun a =>
    kr c a.1.1 a.1.2.1 a.1.2.2.1 a.1.2.2.2.1 a.1.2.2.2.2.1 a.1.2.2.2.2.2.1 a.2.1.1 a.2.1.2.1
  else
  bif !A then
   (F.lb n 11 (c.length:Int)).bind fun b =>
    kr c b.1.1 b.1.2.1 b.1.2.2.1 b.1.2.2.2.1 b.1.2.2.2.2.1 b.1.2.2.2.2.2.1 b.2.1.1 b.2.1.2.1
  else
   (sub c e (c.length:Int)).bind fun B =>
    (F.kh n B ([124])).bind fun d =>
     bif d.2.2.1 then
      F.zd.qN n
       (fun C D E G H I J K L =>
        kr C D E G H I J K L) f d.2.2.1 d.1 e c g h i j k l m o (afv .i64 ((afv .i64 (e+(d.1.length:Int)))+1)) p q r s t u v w x y
     else
      F.zd.qN n
       (fun M N O P Q R S T U =>
        kr M N O P Q R S T U) f d.2.2.1 d.1 e c g h i j k l m o (afv .i64 (e+(d.1.length:Int))) p q r s t u v w x y
noncomputable def F.zd(n:Nat)(a0:Z0):Option ((Z9)×(oe)×Unit):=
 (sub a0 0 (a0.length:Int)).bind fun b =>
  (F.kh n b ([58])).bind fun a =>
   bif a.2.2.1 then
    F.zd.C5 n
     (fun t c d e f g h i j =>
      some (((c,d,e,f,g,h,()),(i,j,()),()))) a.1 a.2.2.1 a0 [] 0 [] 0 [] 0 0 0 (afv .i64 ((afv .i64 (0+(a.1.length:Int)))+1)) [] 0 [] 1000000 [] 0 0 0 0 0
   else
    F.zd.C5 n
     (fun u k l m o p q r s =>
      some (((k,l,m,o,p,q,()),(r,s,()),()))) a.1 a.2.2.1 a0 [] 0 [] 0 [] 0 0 0 (afv .i64 (0+(a.1.length:Int))) [] 0 [] 1000000 [] 0 0 0 0 0
noncomputable def F.nF.L2.step{X:Type}(n:Nat)(rec:Z0→Mu→Int→Option X)(k0:Unit→Option X)(kr:Int→Int→Option X)(c:Z0)(a:Mu)(b:Int):Option X:=
 bif decide (b<6)then
  bif b==0 then
   bif !(a.1==[])then
    bif a.1==c then
     kr b 0
    else
     rec c (a.1,a.2.1,a.2.2.1,a.2.2.2.1,a.2.2.2.2.1,a.2.2.2.2.2.1,()) (afv .i64 (b+1))
   else
    rec c (a.1,a.2.1,a.2.2.1,a.2.2.2.1,a.2.2.2.2.1,a.2.2.2.2.2.1,()) (afv .i64 (b+1))
  else
  bif b==1 then
   bif !(a.2.1==[])then
    bif a.2.1==c then
     kr b 0
    else
     rec c (a.1,a.2.1,a.2.2.1,a.2.2.2.1,a.2.2.2.2.1,a.2.2.2.2.2.1,()) (afv .i64 (b+1))
   else
    rec c (a.1,a.2.1,a.2.2.1,a.2.2.2.1,a.2.2.2.2.1,a.2.2.2.2.2.1,()) (afv .i64 (b+1))
  else
  bif b==2 then
   bif !(a.2.2.1==[])then
    bif a.2.2.1==c then
     kr b 0
    else
     rec c (a.1,a.2.1,a.2.2.1,a.2.2.2.1,a.2.2.2.2.1,a.2.2.2.2.2.1,()) (afv .i64 (b+1))
   else
    rec c (a.1,a.2.1,a.2.2.1,a.2.2.2.1,a.2.2.2.2.1,a.2.2.2.2.2.1,()) (afv .i64 (b+1))
  else
  bif b==3 then
   bif !(a.2.2.2.1==[])then
    bif a.2.2.2.1==c then
     kr b 0
    else
     rec c (a.1,a.2.1,a.2.2.1,a.2.2.2.1,a.2.2.2.2.1,a.2.2.2.2.2.1,()) (afv .i64 (b+1))
   else
    rec c (a.1,a.2.1,a.2.2.1,a.2.2.2.1,a.2.2.2.2.1,a.2.2.2.2.2.1,()) (afv .i64 (b+1))
  else
  bif b==4 then
   bif !(a.2.2.2.2.1==[])then
    bif a.2.2.2.2.1==c then
     kr b 0
    else
     rec c (a.1,a.2.1,a.2.2.1,a.2.2.2.1,a.2.2.2.2.1,a.2.2.2.2.2.1,()) (afv .i64 (b+1))
   else
    rec c (a.1,a.2.1,a.2.2.1,a.2.2.2.1,a.2.2.2.2.1,a.2.2.2.2.2.1,()) (afv .i64 (b+1))
  else
  bif b==5 then
   bif !(a.2.2.2.2.2.1==[])then
    bif a.2.2.2.2.2.1==c then
     kr b 0
    else
     rec c (a.1,a.2.1,a.2.2.1,a.2.2.2.1,a.2.2.2.2.1,a.2.2.2.2.2.1,()) (afv .i64 (b+1))
   else
    rec c (a.1,a.2.1,a.2.2.1,a.2.2.2.1,a.2.2.2.2.1,a.2.2.2.2.2.1,()) (afv .i64 (b+1))
  else
   none
 else
  k0 ()
noncomputable def F.nF.L2{X:Type}(n:Nat)(k0:Unit→Option X)(kr:Int→Int→Option X):Nat→Z0→Mu→Int→Option X
 |0=>fun _ _ _=>none
 |m+1=>fun a b c=>F.nF.L2.step n (F.nF.L2 n k0 kr m) k0 kr a b c
noncomputable def F.nF(n:Nat)(a0:Z0):Option ((Int)×(Int)×Unit):=
 (F.wK n ).bind fun a =>
  F.nF.L2 n
   (fun(_:Unit) =>
    some ((0,16,())))
   (fun b c =>
    some ((b,c,()))) n a0 (a.1,a.2.1,a.2.2.1,a.2.2.2.1,a.2.2.2.2.1,a.2.2.2.2.2.1,()) 0
noncomputable def F.AD(n:Nat)(a0:Z0)(a1:Int)(a2:Int):Option ((Int)×(oe)×Unit):=
 (F.k9 n 4 a0 1 (afv .i64 ((a0.length:Int)+(1:Int)))).bind fun a =>
  bif !((a.1==0)&&(a.2.1==0))then
   (F.jM n a.1 a.2.1).bind fun d =>
    some ((d.1,(d.2.1.1,d.2.1.2.1,()),()))
  else
   (idx a0 (0:Int)).bind fun l =>
    bif ((l).toNat)==(48:Int)then
     bif decide ((a0.length:Int)>1)then
      (F.jM n 11 (0:Int)).bind fun e =>
       some ((e.1,(e.2.1.1,e.2.1.2.1,()),()))
     else
      (O.atoi n a0).bind fun b =>
       bif b.2.1 then
        (F.jM n 10 (0:Int)).bind fun f =>
         some ((f.1,(f.2.1.1,f.2.1.2.1,()),()))
       else
       bif decide (b.1<a1)then
        (F.jM n 10 (0:Int)).bind fun g =>
         some ((g.1,(g.2.1.1,g.2.1.2.1,()),()))
       else
       bif decide (b.1>a2)then
        (F.jM n 10 (0:Int)).bind fun h =>
         some ((h.1,(h.2.1.1,h.2.1.2.1,()),()))
       else
        some ((b.1,(0,0,()),()))
    else
     (O.atoi n a0).bind fun c =>
      bif c.2.1 then
       (F.jM n 10 (0:Int)).bind fun i =>
        some ((i.1,(i.2.1.1,i.2.1.2.1,()),()))
      else
      bif decide (c.1<a1)then
       (F.jM n 10 (0:Int)).bind fun j =>
        some ((j.1,(j.2.1.1,j.2.1.2.1,()),()))
      else
      bif decide (c.1>a2)then
       (F.jM n 10 (0:Int)).bind fun k =>
        some ((k.1,(k.2.1.1,k.2.1.2.1,()),()))
      else
       some ((c.1,(0,0,()),()))
noncomputable def F.uY(n:Nat)(a0:Z0):Option ((Int)×(oe)×Unit):=
 (F.AD n a0 1 (1099511627776:Int)).bind fun a =>
  some ((a.1,(a.2.1.1,a.2.1.2.1,()),()))
noncomputable def F.kD.L4.step{X:Type}(n:Nat)(rec:Z4→Int→bF→Int→Int→Int→Int→Nat→Option X)(k0:Z4→Int→Int→Nat→Option X)(kr:Z4→Int→Int→Nat→Option X)(b:Z4)(c:Int)(e:bF)(f:Int)(d:Int)(g:Int)(h:Int)(i:Nat):Option X:=
 bif decide (d<f)then
  (idx e d).bind fun j =>
   (F.kh n j ([58])).bind fun a =>
    (F.qM n (a.1,a.2.1,())).bind fun k =>
     bif !(k==0)then
      kr [] 19 c 0
     else
     bif a.2.2.1 then
      bif a.2.1==[]then
       kr [] 19 c 0
      else
      bif decide ((b.length+1)*32≤2 ^ 46)&&decide (0<32∧32≤2 ^ 20)then
       bif afw i b.length then
        rec (b++([(a.1,a.2.1)])) (afv .i64 (c+(afv .i64 ((j.length:Int)+1)))) e f (afv .i64 (d+1)) g h ((b++([(a.1,a.2.1)])).length)
       else
        none
      else
       none
     else
     bif decide ((b.length+1)*32≤2 ^ 46)&&decide (0<32∧32≤2 ^ 20)then
      bif afw i b.length then
       rec (b++([(a.1,a.2.1)])) (afv .i64 (c+(afv .i64 ((j.length:Int)+1)))) e f (afv .i64 (d+1)) g h ((b++([(a.1,a.2.1)])).length)
      else
       none
     else
      none
 else
  k0 b g h i
noncomputable def F.kD.L4{X:Type}(n:Nat)(k0:Z4→Int→Int→Nat→Option X)(kr:Z4→Int→Int→Nat→Option X):Nat→Z4→Int→bF→Int→Int→Int→Int→Nat→Option X
 |0=>fun _ _ _ _ _ _ _ _=>none
 |m+1=>fun a b c d e f g h=>F.kD.L4.step n (F.kD.L4 n k0 kr m) k0 kr a b c d e f g h
noncomputable def F.kD(n:Nat)(a0:Z0):Option ((Z4)×(oe)×Unit):=
 (O.mN n a0 ([44])).bind fun a =>
  F.kD.L4 n
   (fun b f g h =>
    some ((b,(0,0,()),())))
   (fun c d e i =>
    some ((c,(d,e,()),()))) n [] 0 a (a.length:Int) 0 0 0 0
noncomputable def F.ze.di.step{X:Type}(n:Nat)(rec:Int→bF→Int→Int→Z0→Int→Z2→Int→Z4→Int→Int→Int→Z0→Int→Z2→Int→Z4→Int→Int→Int→Int→Int→Int→Int→Nat→Nat→Nat→Option X)(k1:Z0→Int→Z2→Int→Z4→Int→Int→Int→Z0→Int→Z2→Int→Z4→Int→Int→Int→Int→Int→Int→Int→Nat→Nat→Nat→Option X)(kr:Z0→Int→Z2→Int→Z4→Int→Int→Int→Z0→Int→Z2→Int→Z4→Int→Int→Int→Int→Int→Int→Int→Nat→Nat→Nat→Option X)(x:Int)(z:bF)(A:Int)(y:Int)(d:Z0)(e:Int)(f:Z2)(g:Int)(h:Z4)(i:Int)(j:Int)(k:Int)(l:Z0)(m:Int)(a:Z2)(o:Int)(p:Z4)(q:Int)(c:Int)(r:Int)(s:Int)(t:Int)(B:Int)(C:Int)(u:Nat)(v:Nat)(w:Nat):Option X:=
 bif decide (y<A)then
  (idx z y).bind fun D =>
   (F.jJ n D).bind fun b =>
    bif !((b.2.1.1==0)&&(b.2.1.2.1==0))then
     kr d e f g h i j k l m a o p q c r s t 17 (afv .i64 (c+x)) u v w
    else
    bif (a.length:Int)==64 then
     kr d e f g h i j k l m a o p q c r s t 17 (afv .i64 (c+x)) u v w
    else
    bif decide ((a.length+1)*24≤2 ^ 46)&&decide (0<24∧24≤2 ^ 20)then
     bif afw w a.length then
      rec (afv .i64 (x+(afv .i64 ((D.length:Int)+1)))) z A (afv .i64 (y+1)) d e f g h i j k l m (a++([(b.1.1,b.1.2.1,b.1.2.2.1)])) o p q c r s t B C u v ((a++([(b.1.1,b.1.2.1,b.1.2.2.1)])).length)
     else
      none
    else
     none
 else
  k1 d e f g h i j k l m a o p q c r s t B C u v w
noncomputable def F.ze.di{X:Type}(n:Nat)(k1:Z0→Int→Z2→Int→Z4→Int→Int→Int→Z0→Int→Z2→Int→Z4→Int→Int→Int→Int→Int→Int→Int→Nat→Nat→Nat→Option X)(kr:Z0→Int→Z2→Int→Z4→Int→Int→Int→Z0→Int→Z2→Int→Z4→Int→Int→Int→Int→Int→Int→Int→Nat→Nat→Nat→Option X):Nat→Int→bF→Int→Int→Z0→Int→Z2→Int→Z4→Int→Int→Int→Z0→Int→Z2→Int→Z4→Int→Int→Int→Int→Int→Int→Int→Nat→Nat→Nat→Option X
 |0=>fun _ _ _ _ _ _ _ _ _ _ _ _ _ _ _ _ _ _ _ _ _ _ _ _ _ _ _=>none
 |m+1=>fun a b c d e f g h i j k l o p q r s t u v w x y z A B C=>F.ze.di.step n (F.ze.di n k1 kr m) k1 kr a b c d e f g h i j k l o p q r s t u v w x y z A B C
noncomputable def F.ze.ay.step{X:Type}(n:Nat)(rec:Z0→W5→Int→Z0→Int→Z2→Int→Z4→Int→Int→Int→Z0→Int→Z2→Int→Z4→Int→Int→Int→Int→Int→Int→Int→Nat→Nat→Nat→Option X)(k0:Z0→Int→Z2→Int→Z4→Int→Int→Int→Z0→Int→Z2→Int→Z4→Int→Int→Int→Int→Int→Int→Int→Nat→Nat→Nat→Option X)(kr:Z0→Int→Z2→Int→Z4→Int→Int→Int→Z0→Int→Z2→Int→Z4→Int→Int→Int→Int→Int→Int→Int→Nat→Nat→Nat→Option X)(A:Z0)(w:W5)(b:Int)(d:Z0)(e:Int)(f:Z2)(g:Int)(h:Z4)(i:Int)(j:Int)(k:Int)(l:Z0)(c:Int)(m:Z2)(v:Int)(t:Z4)(u:Int)(a:Int)(x:Int)(o:Int)(p:Int)(y:Int)(z:Int)(q:Nat)(r:Nat)(s:Nat):Option X:=
 bif decide (b<3)then
  bif b == 0 then
   (F.lx n A w.1).bind fun E =>
    bif !E.2.1 then
     rec A (w.1,(),w.2.2.1,(),w.2.2.2.2.1,(),()) (afv .i64 (b+1)) d e f g h i j k l c m v t u a x o p y z q r s
    else
    bif decide (b<x)then
     k0 d e f g h i j k l c m v t u a x o p y z q r s
    else
     (F.zx n E.1).bind fun B =>
      bif !((B.2.1.1==0)&&(B.2.1.2.1==0))then
       kr d e f g h i j k l c m v t u a (afv .i64 (b+1)) o p 18 (afv .i64 (a+0)) q r s
      else
      bif c==2 then
       bif !(B.1==1000000)then
        kr d e f g h i j k l c m v t u a (afv .i64 (b+1)) o p 18 (afv .i64 (a+0)) q r s
       else
        kr d e f g h i j k l c m B.1 t u a (afv .i64 (b+1)) o p 0 0 q r s
      else
       kr d e f g h i j k l c m B.1 t u a (afv .i64 (b+1)) o p 0 0 q r s
  else
  bif b == 1 then
   (F.lx n A w.2.2.1).bind fun G =>
    bif !G.2.1 then
     rec A (w.1,(),w.2.2.1,(),w.2.2.2.2.1,(),()) (afv .i64 (b+1)) d e f g h i j k l c m v t u a x o p y z q r s
    else
    bif decide (b<x)then
     k0 d e f g h i j k l c m v t u a x o p y z q r s
    else
     (F.kD n G.1).bind fun C =>
      bif !((C.2.1.1==0)&&(C.2.1.2.1==0))then
       kr d e f g h i j k l c m v t u a (afv .i64 (b+1)) o p 19 (afv .i64 (a+0)) q r s
      else
      bif decide ((C.1.length:Int)>32)then
       kr d e f g h i j k l c m v t u a (afv .i64 (b+1)) o p 19 (afv .i64 (a+0)) q r s
      else
       (F.zy n C.1).bind fun I =>
        kr d e f g h i j k l c m v I u a (afv .i64 (b+1)) o p 0 0 q r s
  else
  bif b==2 then
   (F.lx n A w.2.2.2.2.1).bind fun H =>
    bif !H.2.1 then
     rec A (w.1,(),w.2.2.1,(),w.2.2.2.2.1,(),()) (afv .i64 (b+1)) d e f g h i j k l c m v t u a x o p y z q r s
    else
    bif decide (b<x)then
     k0 d e f g h i j k l c m v t u a x o p y z q r s
    else
     (F.uY n H.1).bind fun D =>
      bif !((D.2.1.1==0)&&(D.2.1.2.1==0))then
       kr d e f g h i j k l c m v t u a (afv .i64 (b+1)) o p 20 (afv .i64 (a+0)) q r s
      else
       kr d e f g h i j k l c m v t D.1 a (afv .i64 (b+1)) o p 0 0 q r s
  else
   none
 else
  k0 d e f g h i j k l c m v t u a x o p y z q r s
noncomputable def F.ze.ay{X:Type}(n:Nat)(k0:Z0→Int→Z2→Int→Z4→Int→Int→Int→Z0→Int→Z2→Int→Z4→Int→Int→Int→Int→Int→Int→Int→Nat→Nat→Nat→Option X)(kr:Z0→Int→Z2→Int→Z4→Int→Int→Int→Z0→Int→Z2→Int→Z4→Int→Int→Int→Int→Int→Int→Int→Nat→Nat→Nat→Option X):Nat→Z0→W5→Int→Z0→Int→Z2→Int→Z4→Int→Int→Int→Z0→Int→Z2→Int→Z4→Int→Int→Int→Int→Int→Int→Int→Nat→Nat→Nat→Option X
 |0=>fun _ _ _ _ _ _ _ _ _ _ _ _ _ _ _ _ _ _ _ _ _ _ _ _ _ _=>none
 |m+1=>fun a b c d e f g h i j k l o p q r s t u v w x y z A B=>F.ze.ay.step n (F.ze.ay n k0 kr m) k0 kr a b c d e f g h i j k l o p q r s t u v w x y z A B
noncomputable def F.ze.L8.step{X:Type}(n:Nat)(rec:Z0→bF→bF→Int→Int→Z0→Int→Z2→Int→Z4→Int→Int→Int→Z0→Int→Z2→Int→Z4→Int→Int→Int→Int→Int→Nat→Nat→Nat→Option X)(k0:Z0→bF→Z0→Int→Z2→Int→Z4→Int→Int→Int→Z0→Int→Z2→Int→Z4→Int→Int→Int→Int→Int→Nat→Nat→Nat→Option X)(b:Z0)(c:bF)(x:bF)(y:Int)(e:Int)(f:Z0)(g:Int)(h:Z2)(i:Int)(j:Z4)(k:Int)(l:Int)(m:Int)(w:Z0)(z:Int)(o:Z2)(p:Int)(q:Z4)(r:Int)(a:Int)(s:Int)(D:Int)(E:Int)(t:Nat)(u:Nat)(v:Nat):Option X:=
 bif decide (e<y)then
  (idx x e).bind fun d =>
   bif decide (e<2)then
    bif e == 0 then
     (F.kh n d ([58])).bind fun B =>
      (F.k9 n 1 B.1 1 (200:Int)).bind fun K =>
       bif !((K.1==0)&&(K.2.1==0))then
        bif !(false&&((afv .i64 (a+0))==0))then
         k0 b c f g h i j k l m w z o p q r a s 15 (afv .i64 (a+0)) t u v
        else
         rec b c x y (afv .i64 (e+1)) f g h i j k l m w z o p q r (afv .i64 (a+(afv .i64 ((d.length:Int)+1)))) s 15 (afv .i64 (a+0)) t u v
       else
       bif !B.2.2.1 then
        bif !(false&&((afv .i64 (a+(d.length:Int)))==0))then
         k0 b c f g h i j k l m w z o p q r a s 11 (afv .i64 (a+(d.length:Int))) t u v
        else
         rec b c x y (afv .i64 (e+1)) f g h i j k l m w z o p q r (afv .i64 (a+(afv .i64 ((d.length:Int)+1)))) s 11 (afv .i64 (a+(d.length:Int))) t u v
       else
        (O.mN n B.2.1 ([58])).bind fun L =>
         F.ze.di n
          (fun M N P Q R S T U V W Y Z a0 a1 a2 a3 bU bV bW bY a4 a5 a6 =>
           bif !(true&&true)then
            k0 b c M N P Q R S T U V W Y Z a0 a1 a2 a3 0 0 a4 a5 a6
           else
            rec b c x y (afv .i64 (e+1)) M N P Q R S T U V W Y Z a0 a1 (afv .i64 (a2+(afv .i64 ((d.length:Int)+1)))) a3 0 0 a4 a5 a6)
          (fun a7 a8 a9 aA aB aC aD aE aG aH aI aJ aK aL aM aN bZ c0 G H aO aP aQ =>
           bif !((G==0)&&(H==0))then
            k0 b c a7 a8 a9 aA aB aC aD aE aG aH aI aJ aK aL aM aN G H aO aP aQ
           else
            rec b c x y (afv .i64 (e+1)) a7 a8 a9 aA aB aC aD aE aG aH aI aJ aK aL (afv .i64 (aM+(afv .i64 ((d.length:Int)+1)))) aN G H aO aP aQ) n (afv .i64 ((B.1.length:Int)+1)) L (L.length:Int) 0 f g h i j k l m B.1 z o p q r a s D E 0 0 t u v
    else
    bif e==1 then
     (F.nF n d).bind fun A =>
      bif !(A.2.1==0)then
       bif !((A.2.1==0)&&((afv .i64 (a+0))==0))then
        k0 b c f g h i j k l m w z o p q r a s A.2.1 (afv .i64 (a+0)) t u v
       else
        rec b c x y (afv .i64 (e+1)) f g h i j k l m w z o p q r (afv .i64 (a+(afv .i64 ((d.length:Int)+1)))) s A.2.1 (afv .i64 (a+0)) t u v
      else
      bif !(true&&true)then
       k0 b c f g h i j k l m w A.1 o p q r a s 0 0 t u v
      else
       rec b c x y (afv .i64 (e+1)) f g h i j k l m w A.1 o p q r (afv .i64 (a+(afv .i64 ((d.length:Int)+1)))) s 0 0 t u v
    else
     none
   else
    F.ze.ay n
     (fun aR aS aT aU aV aW aY aZ b0 b1 b2 b3 b4 b5 C b6 c1 c2 c3 c4 b7 b8 b9 =>
      bif !(false&&((afv .i64 (C+0))==0))then
       k0 b c aR aS aT aU aV aW aY aZ b0 b1 b2 b3 b4 b5 C b6 11 (afv .i64 (C+0)) b7 b8 b9
      else
       rec b c x y (afv .i64 (e+1)) aR aS aT aU aV aW aY aZ b0 b1 b2 b3 b4 b5 (afv .i64 (C+(afv .i64 ((d.length:Int)+1)))) b6 11 (afv .i64 (C+0)) b7 b8 b9)
     (fun bA bB bC bD bE bG bH bI bJ bK bL bM bN bO bP bQ c5 c6 I J bR bS bT =>
      bif !((I==0)&&(J==0))then
       k0 b c bA bB bC bD bE bG bH bI bJ bK bL bM bN bO bP bQ I J bR bS bT
      else
       rec b c x y (afv .i64 (e+1)) bA bB bC bD bE bG bH bI bJ bK bL bM bN bO (afv .i64 (bP+(afv .i64 ((d.length:Int)+1)))) bQ I J bR bS bT) n d ([64],(),[35],(),[84],(),()) 0 f g h i j k l m w z o p q r a s D E 0 0 t u v
 else
  k0 b c f g h i j k l m w z o p q r a s D E t u v
noncomputable def F.ze.L8{X:Type}(n:Nat)(k0:Z0→bF→Z0→Int→Z2→Int→Z4→Int→Int→Int→Z0→Int→Z2→Int→Z4→Int→Int→Int→Int→Int→Nat→Nat→Nat→Option X):Nat→Z0→bF→bF→Int→Int→Z0→Int→Z2→Int→Z4→Int→Int→Int→Z0→Int→Z2→Int→Z4→Int→Int→Int→Int→Int→Nat→Nat→Nat→Option X
 |0=>fun _ _ _ _ _ _ _ _ _ _ _ _ _ _ _ _ _ _ _ _ _ _ _ _ _ _=>none
 |m+1=>fun a b c d e f g h i j k l o p q r s t u v w x y z A B=>F.ze.L8.step n (F.ze.L8 n k0 m) k0 a b c d e f g h i j k l o p q r s t u v w x y z A B
noncomputable def F.ze(n:Nat)(a0:Z0):Option ((Z9)×(oe)×Unit):=
 bif decide ((a0.length:Int)>8192)then
  some ((([],0,[],0,[],0,()),(12,0,()),()))
 else
  (O.mN n a0 ([124])).bind fun c =>
   F.ze.L8 n
    (fun d k l m o p q r s t e f g h i j u v a b w x y =>
     bif (a==0)&&(b==0)then
      bif decide ((k.length:Int)<2)then
       bif !(false&&((d.length:Int)==0))then
        some ((([],0,[],0,[],0,()),(11,(d.length:Int),()),()))
       else
        some (((e,f,g,h,i,j,()),(11,(d.length:Int),()),()))
      else
      bif !((a==0)&&(b==0))then
       some ((([],0,[],0,[],0,()),(a,b,()),()))
      else
       some (((e,f,g,h,i,j,()),(a,b,()),()))
     else
     bif !((a==0)&&(b==0))then
      some ((([],0,[],0,[],0,()),(a,b,()),()))
     else
      some (((e,f,g,h,i,j,()),(a,b,()),()))) n a0 c c (c.length:Int) 0 [] 0 [] 0 [] 0 0 0 [] 0 [] 1000000 [] 0 0 0 0 0 0 0 0
noncomputable def F.zo.bn.step{X:Type}(n:Nat)(rec:Int→Int→Bool→Z0→Int→Z2→Int→Z4→Int→Int→Int→Z0→Int→Z2→Int→Z4→Int→Int→Int→Z0→Nat→Nat→Nat→Nat→Option X)(k0:Z0→Int→Z2→Int→Z4→Int→Int→Int→Z0→Int→Z2→Int→Z4→Int→Int→Int→Z0→Nat→Nat→Nat→Nat→Option X)(kr:Z0→Int→Z2→Int→Z4→Int→Int→Int→Z0→Int→Z2→Int→Z4→Int→Int→Int→Z0→Nat→Nat→Nat→Nat→Option X)(c:Int)(s:Int)(C:Bool)(d:Z0)(e:Int)(f:Z2)(g:Int)(h:Z4)(i:Int)(j:Int)(k:Int)(x:Z0)(l:Int)(t:Z2)(m:Int)(o:Z4)(u:Int)(y:Int)(z:Int)(b:Z0)(p:Nat)(q:Nat)(v:Nat)(r:Nat):Option X:=
 bif C then
  (sub b c (b.length:Int)).bind fun D =>
   (F.kh n D ([32])).bind fun a =>
    bif s==0 then
     (F.k9 n 1 a.1 1 (200:Int)).bind fun B =>
      bif !((B.1==0)&&(B.2.1==0))then
       kr d e f g h i j k a.1 l t m o u 15 c b p q v r
      else
      bif !(a.2.2.1==(decide (s<2)))then
       kr d e f g h i j k a.1 l t m o u 11 (afv .i64 (c+(a.1.length:Int))) b p q v r
      else
       rec (afv .i64 (c+(afv .i64 ((a.1.length:Int)+1)))) (afv .i64 (s+1)) a.2.2.1 d e f g h i j k a.1 l t m o u y z b p q v r
    else
    bif s==1 then
     (F.jJ n a.1).bind fun w =>
      bif !((w.2.1.1==0)&&(w.2.1.2.1==0))then
       kr d e f g h i j k x l t m o u 17 c b p q v r
      else
      bif !(a.2.2.1==(decide (s<2)))then
       kr d e f g h i j k x l ([(w.1.1,w.1.2.1,w.1.2.2.1)]) m o u 11 (afv .i64 (c+(a.1.length:Int))) b p q 1 r
      else
       rec (afv .i64 (c+(afv .i64 ((a.1.length:Int)+1)))) (afv .i64 (s+1)) a.2.2.1 d e f g h i j k x l ([(w.1.1,w.1.2.1,w.1.2.2.1)]) m o u y z b p q 1 r
    else
     (F.uY n a.1).bind fun A =>
      bif !((A.2.1.1==0)&&(A.2.1.2.1==0))then
       kr d e f g h i j k x l t m o u 20 c b p q v r
      else
      bif !(a.2.2.1==(decide (s<2)))then
       kr d e f g h i j k x l t m o A.1 11 (afv .i64 (c+(a.1.length:Int))) b p q v r
      else
       rec (afv .i64 (c+(afv .i64 ((a.1.length:Int)+1)))) (afv .i64 (s+1)) a.2.2.1 d e f g h i j k x l t m o A.1 y z b p q v r
 else
  k0 d e f g h i j k x l t m o u y z b p q v r
noncomputable def F.zo.bn{X:Type}(n:Nat)(k0:Z0→Int→Z2→Int→Z4→Int→Int→Int→Z0→Int→Z2→Int→Z4→Int→Int→Int→Z0→Nat→Nat→Nat→Nat→Option X)(kr:Z0→Int→Z2→Int→Z4→Int→Int→Int→Z0→Int→Z2→Int→Z4→Int→Int→Int→Z0→Nat→Nat→Nat→Nat→Option X):Nat→Int→Int→Bool→Z0→Int→Z2→Int→Z4→Int→Int→Int→Z0→Int→Z2→Int→Z4→Int→Int→Int→Z0→Nat→Nat→Nat→Nat→Option X
 |0=>fun _ _ _ _ _ _ _ _ _ _ _ _ _ _ _ _ _ _ _ _ _ _ _ _=>none
 |m+1=>fun a b c d e f g h i j k l o p q r s t u v w x y z=>F.zo.bn.step n (F.zo.bn n k0 kr m) k0 kr a b c d e f g h i j k l o p q r s t u v w x y z
noncomputable def F.zo(n:Nat)(a0:Z0):Option ((Z9)×(oe)×Unit):=
 F.zo.bn n
  (fun r s t u v w x y e f g h i j a b z A B C D =>
   bif !((a==0)&&(b==0))then
    some ((([],0,[],0,[],0,()),(a,b,()),()))
   else
    some (((e,f,g,h,i,j,()),(a,b,()),())))
  (fun E G H I J K L M k l m o p q c d N O P Q R =>
   bif !((c==0)&&(d==0))then
    some ((([],0,[],0,[],0,()),(c,d,()),()))
   else
    some (((k,l,m,o,p,q,()),(c,d,()),()))) n 0 0 true [] 0 [] 0 [] 0 0 0 [] 2 [] 1000000 [] 0 0 0 a0 0 0 0 0
noncomputable def F.vh(n:Nat)(a0:Z0)(a1:Int):Option ((Z9)×(oe)×Unit):=
 bif a1==1 then
  bif decide ((a0.length:Int)>8192)then
   some ((([],0,[],0,[],0,()),(12,0,()),()))
  else
   (F.zd n a0).bind fun a =>
    some (((a.1.1,a.1.2.1,a.1.2.2.1,a.1.2.2.2.1,a.1.2.2.2.2.1,a.1.2.2.2.2.2.1,()),(a.2.1.1,a.2.1.2.1,()),()))
 else
 bif a1==2 then
  bif decide ((a0.length:Int)>8192)then
   some ((([],0,[],0,[],0,()),(12,0,()),()))
  else
   (F.ze n a0).bind fun b =>
    some (((b.1.1,b.1.2.1,b.1.2.2.1,b.1.2.2.2.1,b.1.2.2.2.2.1,b.1.2.2.2.2.2.1,()),(b.2.1.1,b.2.1.2.1,()),()))
 else
 bif a1==3 then
  bif decide ((a0.length:Int)>8192)then
   some ((([],0,[],0,[],0,()),(12,0,()),()))
  else
   (F.zo n a0).bind fun c =>
    some (((c.1.1,c.1.2.1,c.1.2.2.1,c.1.2.2.2.1,c.1.2.2.2.2.1,c.1.2.2.2.2.2.1,()),(c.2.1.1,c.2.1.2.1,()),()))
 else
  some ((([],0,[],0,[],0,()),(29,0,()),()))
noncomputable def F.wu(n:Nat)(a0:Z0)(a1:Int):Option (Int):=
 (O.indexB n a0 a1).bind fun a =>
  some (a)
noncomputable def F.iI.cq.step{X:Type}(n:Nat)(rec:Int→Z6→Int→Int→Z6→Int→Z0→Nat→Nat→Option X)(k0:Int→Z6→Int→Int→Z6→Int→Z0→Nat→Nat→Option X)(kr:Int→Z6→Int→Int→Z6→Int→Z0→Nat→Nat→Option X)(e:Int)(h:Z6)(i:Int)(j:Int)(a:Z6)(b:Int)(g:Z0)(k:Nat)(f:Nat):Option X:=
 bif decide ((g.length:Int)>0)then
  (F.wu n g (10:Int)).bind fun o =>
   bif decide (o≥0)then
    (sub g 0 (afv .i64 (o+(1:Int)))).bind fun m =>
     (sub g (afv .i64 (o+1)) (g.length:Int)).bind fun l =>
      (F.n5 n m ([10])).bind fun p =>
       bif (a.length:Int)==1000 then
        bif !(false&&true)then
         kr e [] 12 (afv .i64 (b+0)) a b l 0 f
        else
        bif decide ((a.length+1)*88≤2 ^ 46)&&decide (0<88∧88≤2 ^ 20)then
         bif afw f a.length then
          rec e h i j (a++([([],0,[],0,[],0)])) (afv .i64 (b+(m.length:Int))) l k ((a++([([],0,[],0,[],0)])).length)
         else
          none
        else
         none
       else
       bif !p.2.1 then
        bif !(false&&true)then
         kr e [] 30 (afv .i64 (b+0)) a b l 0 f
        else
        bif decide ((a.length+1)*88≤2 ^ 46)&&decide (0<88∧88≤2 ^ 20)then
         bif afw f a.length then
          rec e h i j (a++([([],0,[],0,[],0)])) (afv .i64 (b+(m.length:Int))) l k ((a++([([],0,[],0,[],0)])).length)
         else
          none
        else
         none
       else
        (F.vh n p.1 e).bind fun c =>
         bif !((c.2.1.1==0)&&(c.2.1.2.1==0))then
          kr e [] c.2.1.1 (afv .i64 (b+c.2.1.2.1)) a b l 0 f
         else
         bif decide ((a.length+1)*88≤2 ^ 46)&&decide (0<88∧88≤2 ^ 20)then
          bif afw f a.length then
           rec e h i j (a++([(c.1.1,c.1.2.1,c.1.2.2.1,c.1.2.2.2.1,c.1.2.2.2.2.1,c.1.2.2.2.2.2.1)])) (afv .i64 (b+(m.length:Int))) l k ((a++([(c.1.1,c.1.2.1,c.1.2.2.1,c.1.2.2.2.1,c.1.2.2.2.2.1,c.1.2.2.2.2.2.1)])).length)
          else
           none
         else
          none
   else
    (F.n5 n g ([10])).bind fun q =>
     bif (a.length:Int)==1000 then
      bif !(false&&true)then
       kr e [] 12 (afv .i64 (b+0)) a b [] 0 f
      else
      bif decide ((a.length+1)*88≤2 ^ 46)&&decide (0<88∧88≤2 ^ 20)then
       bif afw f a.length then
        rec e h i j (a++([([],0,[],0,[],0)])) (afv .i64 (b+(g.length:Int))) [] k ((a++([([],0,[],0,[],0)])).length)
       else
        none
      else
       none
     else
     bif !q.2.1 then
      bif !(false&&true)then
       kr e [] 30 (afv .i64 (b+0)) a b [] 0 f
      else
      bif decide ((a.length+1)*88≤2 ^ 46)&&decide (0<88∧88≤2 ^ 20)then
       bif afw f a.length then
        rec e h i j (a++([([],0,[],0,[],0)])) (afv .i64 (b+(g.length:Int))) [] k ((a++([([],0,[],0,[],0)])).length)
       else
        none
      else
       none
     else
      (F.vh n q.1 e).bind fun d =>
       bif !((d.2.1.1==0)&&(d.2.1.2.1==0))then
        kr e [] d.2.1.1 (afv .i64 (b+d.2.1.2.1)) a b [] 0 f
       else
       bif decide ((a.length+1)*88≤2 ^ 46)&&decide (0<88∧88≤2 ^ 20)then
        bif afw f a.length then
         rec e h i j (a++([(d.1.1,d.1.2.1,d.1.2.2.1,d.1.2.2.2.1,d.1.2.2.2.2.1,d.1.2.2.2.2.2.1)])) (afv .i64 (b+(g.length:Int))) [] k ((a++([(d.1.1,d.1.2.1,d.1.2.2.1,d.1.2.2.2.1,d.1.2.2.2.2.1,d.1.2.2.2.2.2.1)])).length)
        else
         none
       else
        none
 else
  k0 e h i j a b g k f
noncomputable def F.iI.cq{X:Type}(n:Nat)(k0:Int→Z6→Int→Int→Z6→Int→Z0→Nat→Nat→Option X)(kr:Int→Z6→Int→Int→Z6→Int→Z0→Nat→Nat→Option X):Nat→Int→Z6→Int→Int→Z6→Int→Z0→Nat→Nat→Option X
 |0=>fun _ _ _ _ _ _ _ _ _=>none
 |m+1=>fun a b c d e f g h i=>F.iI.cq.step n (F.iI.cq n k0 kr m) k0 kr a b c d e f g h i
noncomputable def F.iI(n:Nat)(a0:Z7)(a1:Int):Option ((Z6)×(oe)×Unit):=
 bif a1==1 then
  F.iI.cq n
   (fun m o p q a r s t u =>
    some ((a,(0,0,()),())))
   (fun v b c d w x y z A =>
    some ((b,(c,d,()),()))) n a1 [] 0 0 [] 0 a0 0 0
 else
 bif a1==2 then
  F.iI.cq n
   (fun B C D E e G H I J =>
    some ((e,(0,0,()),())))
   (fun K f g h L M N O P =>
    some ((f,(g,h,()),()))) n a1 [] 0 0 [] 0 a0 0 0
 else
 bif a1==3 then
  F.iI.cq n
   (fun Q R S T i U V W Y =>
    some ((i,(0,0,()),())))
   (fun Z j k l a2 a3 a4 a5 a6 =>
    some ((j,(k,l,()),()))) n a1 [] 0 0 [] 0 a0 0 0
 else
  some (([],(29,0,()),()))
noncomputable def F.zf.L4.step{X:Type}(n:Nat)(rec:Z2→Z2→Int→Int→Option X)(k0:Unit→Option X)(kr:Bool→Option X)(d:Z2)(e:Z2)(f:Int)(a:Int):Option X:=
 bif decide (a<f)then
  (idx d a).bind fun b =>
   (idx e a).bind fun c =>
    bif !((b.1==c.1)&&((b.2.1==c.2.1)&&(b.2.2==c.2.2)))then
     kr false
    else
     rec d e f (afv .i64 (a+1))
 else
  k0 ()
noncomputable def F.zf.L4{X:Type}(n:Nat)(k0:Unit→Option X)(kr:Bool→Option X):Nat→Z2→Z2→Int→Int→Option X
 |0=>fun _ _ _ _=>none
 |m+1=>fun a b c d=>F.zf.L4.step n (F.zf.L4 n k0 kr m) k0 kr a b c d
noncomputable def F.zf(n:Nat)(a0:Z2)(a1:Z2):Option (Bool):=
 bif !((a0.length:Int)==(a1.length:Int))then
  some (false)
 else
  F.zf.L4 n
   (fun(_:Unit) =>
    some (true))
   (fun a =>
    some (a)) n a0 a1 (a0.length:Int) 0
noncomputable def F.wv(n:Nat)(a0:Z2)(a1:Z2):Option (Bool):=
 (F.zf n a0 a1).bind fun a =>
  some (a)
noncomputable def F.zg.L4.step{X:Type}(n:Nat)(rec:Z4→Z4→Int→Int→Option X)(k0:Unit→Option X)(kr:Bool→Option X)(b:Z4)(c:Z4)(d:Int)(a:Int):Option X:=
 bif decide (a<d)then
  (idx b a).bind fun e =>
   (idx c a).bind fun f =>
    bif !((e.1==f.1)&&(e.2==f.2))then
     kr false
    else
     rec b c d (afv .i64 (a+1))
 else
  k0 ()
noncomputable def F.zg.L4{X:Type}(n:Nat)(k0:Unit→Option X)(kr:Bool→Option X):Nat→Z4→Z4→Int→Int→Option X
 |0=>fun _ _ _ _=>none
 |m+1=>fun a b c d=>F.zg.L4.step n (F.zg.L4 n k0 kr m) k0 kr a b c d
noncomputable def F.zg(n:Nat)(a0:Z4)(a1:Z4):Option (Bool):=
 bif !((a0.length:Int)==(a1.length:Int))then
  some (false)
 else
  F.zg.L4 n
   (fun(_:Unit) =>
    some (true))
   (fun a =>
    some (a)) n a0 a1 (a0.length:Int) 0
noncomputable def F.wD(n:Nat)(a0:Z4)(a1:Z4):Option (Bool):=
 (F.zg n a0 a1).bind fun a =>
  some (a)
noncomputable def F.sT(n:Nat)(a0:Z9)(a1:Z9):Option (Bool):=
 bif a0.1==a1.1 then
  bif a0.2.1==a1.2.1 then
   bif a0.2.2.2.1==a1.2.2.2.1 then
    bif a0.2.2.2.2.2.1==a1.2.2.2.2.2.1 then
     (F.wv n a0.2.2.1 a1.2.2.1).bind fun a =>
      bif a then
       (F.wD n a0.2.2.2.2.1 a1.2.2.2.2.1).bind fun b =>
        some (b)
      else
       some (false)
    else
     some (false)
   else
    some (false)
  else
   some (false)
 else
  some (false)
noncomputable def F.jz.ae.step{X:Type}(n:Nat)(rec:Z6→Z6→Int→Int→Option X)(k0:Unit→Option X)(kr:Bool→Option X)(d:Z6)(e:Z6)(f:Int)(c:Int):Option X:=
 bif decide (c<f)then
  (idx e c).bind fun a =>
   (idx d c).bind fun b =>
    (F.sT n (a.1,a.2.1,a.2.2.1,a.2.2.2.1,a.2.2.2.2.1,a.2.2.2.2.2,()) (b.1,b.2.1,b.2.2.1,b.2.2.2.1,b.2.2.2.2.1,b.2.2.2.2.2,())).bind fun g =>
     bif !g then
      kr false
     else
      rec d e f (afv .i64 (c+1))
 else
  k0 ()
noncomputable def F.jz.ae{X:Type}(n:Nat)(k0:Unit→Option X)(kr:Bool→Option X):Nat→Z6→Z6→Int→Int→Option X
 |0=>fun _ _ _ _=>none
 |m+1=>fun a b c d=>F.jz.ae.step n (F.jz.ae n k0 kr m) k0 kr a b c d
noncomputable def F.jz(n:Nat)(a0:Z6)(a1:Z6):Option (Bool):=
 bif !((a0.length:Int)==(a1.length:Int))then
  some (false)
 else
  F.jz.ae n
   (fun(_:Unit) =>
    some (true))
   (fun a =>
    some (a)) n a1 a0 (a0.length:Int) 0
noncomputable def F.zv.xW.step{X:Type}(n:Nat)(rec:Z6→Int→Z8→Z6→Int→Nat→Option X)(k0:Z6→Z6→Nat→Option X)(kr:Bool→Option X)(g:Z6)(d:Int)(e:Z8)(a:Z6)(f:Int)(h:Nat):Option X:=
 bif decide (f<(e.length:Int))then
  bif d == 4 then
   (idx e f).bind fun i =>
    (F.vg n i).bind fun b =>
     bif !((b.2.1.1==0)&&(b.2.1.2.1==0))then
      kr false
     else
     bif !(d==4)then
      bif (b.1.length:Int)==0 then
       kr false
      else
      bif decide ((a.length+b.1.length)*88≤2 ^ 46)&&decide (0<88∧88≤2 ^ 20)then
       bif afw h a.length then
        rec g d e (a++b.1) (afv .i64 (f+1)) ((a++b.1).length)
       else
        none
      else
       none
     else
     bif decide ((a.length+b.1.length)*88≤2 ^ 46)&&decide (0<88∧88≤2 ^ 20)then
      bif afw h a.length then
       rec g d e (a++b.1) (afv .i64 (f+1)) ((a++b.1).length)
      else
       none
     else
      none
  else
   (idx e f).bind fun j =>
    (F.iI n j d).bind fun c =>
     bif !((c.2.1.1==0)&&(c.2.1.2.1==0))then
      kr false
     else
     bif !(d==4)then
      bif (c.1.length:Int)==0 then
       kr false
      else
      bif decide ((a.length+c.1.length)*88≤2 ^ 46)&&decide (0<88∧88≤2 ^ 20)then
       bif afw h a.length then
        rec g d e (a++c.1) (afv .i64 (f+1)) ((a++c.1).length)
       else
        none
      else
       none
     else
     bif decide ((a.length+c.1.length)*88≤2 ^ 46)&&decide (0<88∧88≤2 ^ 20)then
      bif afw h a.length then
       rec g d e (a++c.1) (afv .i64 (f+1)) ((a++c.1).length)
      else
       none
     else
      none
 else
  k0 g a h
noncomputable def F.zv.xW{X:Type}(n:Nat)(k0:Z6→Z6→Nat→Option X)(kr:Bool→Option X):Nat→Z6→Int→Z8→Z6→Int→Nat→Option X
 |0=>fun _ _ _ _ _ _=>none
 |m+1=>fun a b c d e f=>F.zv.xW.step n (F.zv.xW n k0 kr m) k0 kr a b c d e f
noncomputable def F.zv(n:Nat)(a0:Z6)(a1:Int)(a2:Int):Option (Bool):=
 (F.nz n a0).bind fun e =>
  bif !e then
   (F.nq n ).bind fun f =>
    some (f)
  else
   (F.wL n a0 a1 a2).bind fun a =>
    (F.jy n a0 a1).bind fun b =>
     bif decide (a2<1)then
      bif (a.1.length:Int)==0 then
       bif a.2.1==0 then
        bif a.2.2.1==10 then
         (F.nq n ).bind fun g =>
          some (g)
        else
         some (false)
       else
        some (false)
      else
       some (false)
     else
     bif decide (a2>65536)then
      bif (a.1.length:Int)==0 then
       bif a.2.1==0 then
        bif a.2.2.1==10 then
         (F.nq n ).bind fun h =>
          some (h)
        else
         some (false)
       else
        some (false)
      else
       some (false)
     else
     bif !(b.2.2.1==0)then
      bif b.1==0 then
       bif (a.1.length:Int)==0 then
        bif a.2.2.1==b.2.2.1 then
         (F.nq n ).bind fun i =>
          some (i)
        else
         some (false)
       else
        some (false)
      else
       some (false)
     else
     bif !((a.2.2.1==0)==(decide (a2≥b.1)))then
      some (false)
     else
     bif !(a.2.2.1==0)then
      bif !(a.2.2.1==27)then
       some (false)
      else
      bif !((a.1.length:Int)==0)then
       some (false)
      else
      bif !(a.2.2.1==0)then
       (F.nq n ).bind fun j =>
        some (j)
      else
       F.zv.xW n
        (fun k l w =>
         (F.zu n k).bind fun c =>
          bif c.2.2.1==0 then
           (F.jz n l c.1).bind fun m =>
            bif m then
             (F.nq n ).bind fun o =>
              some (o)
            else
             some (false)
          else
           some (false))
        (fun p =>
         some (p)) n a0 a1 a.1 [] 0 0
     else
     bif !(a.2.2.1==0)then
      (F.nq n ).bind fun q =>
       some (q)
     else
      F.zv.xW n
       (fun r s x =>
        (F.zu n r).bind fun d =>
         bif d.2.2.1==0 then
          (F.jz n s d.1).bind fun t =>
           bif t then
            (F.nq n ).bind fun u =>
             some (u)
           else
            some (false)
         else
          some (false))
       (fun v =>
        some (v)) n a0 a1 a.1 [] 0 0
end Go.AM
namespace Go.Proofs
open Go.Shelf
def Tryz.ui:afz:=⟨fun|156=>70|165=>139|166=>109|169=>113|240=>173|241=>198|276=>221|277=>71|n=>n,fun|31=>46|9=>9|3=>3|4=>4|0=>0|20=>20|72=>176|76=>179|70=>174|37=>35|75=>178|127=>239|164=>274|5=>5|80=>184|n=>n,fun|n=>n⟩
theorem Tryz.B3:Go.Proofs.Lays.n156 Tryz.prog Tryz.ui:={
 mixed:=by kernel_rfl
 f156:=Tryz.func70.trans (congrArg some (by kernel_rfl))
 f165:=Tryz.func139.trans (congrArg some (by kernel_rfl))
 f166:=Tryz.func109.trans (congrArg some (by kernel_rfl))
 f169:=Tryz.func113.trans (congrArg some (by kernel_rfl))
 f240:=Tryz.func173.trans (congrArg some (by kernel_rfl))
 f241:=Tryz.func198.trans (congrArg some (by kernel_rfl))
 f276:=Tryz.func221.trans (congrArg some (by kernel_rfl))
 f277:=Tryz.func71.trans (congrArg some (by kernel_rfl))
 t0:=Tryz.underlying0
 a0:=Tryz.isAgg0
 z0:=Tryz.sizeOf0
 v0:=Tryz.zeroValue0
 t3:=Tryz.underlying3
 a3:=Tryz.isAgg3
 z3:=Tryz.sizeOf3
 v3:=Tryz.zeroValue3
 t4:=Tryz.underlying4
 a4:=Tryz.isAgg4
 z4:=Tryz.sizeOf4
 v4:=Tryz.zeroValue4
 t9:=Tryz.underlying9
 a9:=Tryz.isAgg9
 z9:=Tryz.sizeOf9
 v9:=Tryz.zeroValue9
 t20:=Tryz.underlying20
 a20:=Tryz.isAgg20
 z20:=Tryz.sizeOf20
 v20:=Tryz.zeroValue20
 t31:=Tryz.underlying46
 a31:=Tryz.isAgg46
 z31:=Tryz.sizeOf46
 v31:=Tryz.zeroValue46
 t37:=Tryz.underlying35
 a37:=Tryz.isAgg35
 z37:=Tryz.sizeOf35
 v37:=Tryz.zeroValue35
 t70:=Tryz.underlying174
 a70:=Tryz.isAgg174
 z70:=Tryz.sizeOf174
 v70:=Tryz.zeroValue174
 t72:=Tryz.underlying176
 a72:=Tryz.isAgg176
 z72:=Tryz.sizeOf176
 v72:=Tryz.zeroValue176
 t75:=Tryz.underlying178
 a75:=Tryz.isAgg178
 z75:=Tryz.sizeOf178
 v75:=Tryz.zeroValue178
 t76:=Tryz.underlying179
 a76:=Tryz.isAgg179
 z76:=Tryz.sizeOf179
 v76:=Tryz.zeroValue179
 t127:=Tryz.underlying239
 a127:=Tryz.isAgg239
 z127:=Tryz.sizeOf239
 v127:=Tryz.zeroValue239
 t164:=Tryz.underlying274
 a164:=Tryz.isAgg274
 z164:=Tryz.sizeOf274
 v164:=Tryz.zeroValue274 }
theorem Tryz.nr:Builder.Extra Tryz.prog Tryz.ui:={
 sizeBuilder:=by kernel_rfl
 liesBuilder:=by kernel_rfl
 t5:=Tryz.underlying5
 a5:=Tryz.isAgg5
 z5:=Tryz.sizeOf5
 v5:=Tryz.zeroValue5
 infoByte:=by kernel_rfl
 cellsByte:=by kernel_rfl
 sizeByte:=by kernel_rfl
 neB5:=by decide }
open Go.RowKit in
theorem Tryz.strings_Join_none(a:Option Addr)(c:Nat)(sep:ByteArray)(w:World) :
 Calls Tryz.prog 70 #[.slice a 0 c,.string sep] w fun e w'=>e = .returned (.string ⟨#[]⟩)∧w'=w:=Any.strings_Join_none Tryz.B3 Tryz.nr a c sep w
open Go.RowKit in
theorem Tryz.strings_Join(bk o c:Nat)(xs:List ByteArray)(sep:ByteArray)(w:World)(lI:∀(j:Nat) x,xs[j]? = some x→w.cell? ⟨bk,o+j,none⟩=some (.string x))(W6:bk<w.heap.size)(hN:xs.length≤140737488355328)(j7:xs.length≤c)(hlen:(Lib.join (xs.map (·.data.toList)) sep.data.toList).length≤140737488355328) :
 Calls Tryz.prog 70 #[.slice (some ⟨bk,o,none⟩) xs.length c,.string sep] w fun e w'=>e = .returned (.string ⟨(Lib.join (xs.map (·.data.toList)) sep.data.toList).toArray⟩)∧Below w.heap.size w w':=Any.strings_Join Tryz.B3 Tryz.nr bk o c xs sep w lI W6 hN j7 hlen
def Tryz.AJ:afz:=⟨fun|161=>169|231=>218|227=>211|233=>219|235=>220|228=>247|197=>251|151=>249|260=>266|152=>265|137=>58|119=>272|224=>196|225=>195|217=>120|266=>184|n=>n,fun|9=>9|4=>4|3=>3|5=>5|117=>269|116=>268|0=>0|124=>272|105=>301|21=>21|119=>320|46=>130|139=>323|138=>322|n=>n,fun|3=>2|4=>3|n=>n⟩
theorem Tryz.Hw:Go.Proofs.Lays.n161 Tryz.prog Tryz.AJ:={
 mixed:=by kernel_rfl
 f119:=Tryz.func272.trans (congrArg some (by kernel_rfl))
 f137:=Tryz.func58.trans (congrArg some (by kernel_rfl))
 f151:=Tryz.func249.trans (congrArg some (by kernel_rfl))
 f152:=Tryz.func265.trans (congrArg some (by kernel_rfl))
 f161:=Tryz.func169.trans (congrArg some (by kernel_rfl))
 f197:=Tryz.func251.trans (congrArg some (by kernel_rfl))
 f217:=Tryz.func120.trans (congrArg some (by kernel_rfl))
 f224:=Tryz.func196.trans (congrArg some (by kernel_rfl))
 f225:=Tryz.func195.trans (congrArg some (by kernel_rfl))
 f227:=Tryz.func211.trans (congrArg some (by kernel_rfl))
 f228:=Tryz.func247.trans (congrArg some (by kernel_rfl))
 f231:=Tryz.func218.trans (congrArg some (by kernel_rfl))
 f233:=Tryz.func219.trans (congrArg some (by kernel_rfl))
 f235:=Tryz.func220.trans (congrArg some (by kernel_rfl))
 f260:=Tryz.func266.trans (congrArg some (by kernel_rfl))
 f266:=Tryz.func184.trans (congrArg some (by kernel_rfl))
 t0:=Tryz.underlying0
 a0:=Tryz.isAgg0
 z0:=Tryz.sizeOf0
 v0:=Tryz.zeroValue0
 t3:=Tryz.underlying3
 a3:=Tryz.isAgg3
 z3:=Tryz.sizeOf3
 v3:=Tryz.zeroValue3
 t4:=Tryz.underlying4
 a4:=Tryz.isAgg4
 z4:=Tryz.sizeOf4
 v4:=Tryz.zeroValue4
 t5:=Tryz.underlying5
 a5:=Tryz.isAgg5
 z5:=Tryz.sizeOf5
 v5:=Tryz.zeroValue5
 t9:=Tryz.underlying9
 a9:=Tryz.isAgg9
 z9:=Tryz.sizeOf9
 v9:=Tryz.zeroValue9
 t21:=Tryz.underlying21
 a21:=Tryz.isAgg21
 z21:=Tryz.sizeOf21
 v21:=Tryz.zeroValue21
 t46:=Tryz.underlying130
 a46:=Tryz.isAgg130
 z46:=Tryz.sizeOf130
 v46:=Tryz.zeroValue130
 t105:=Tryz.underlying301
 a105:=Tryz.isAgg301
 z105:=Tryz.sizeOf301
 v105:=Tryz.zeroValue301
 t116:=Tryz.underlying268
 a116:=Tryz.isAgg268
 z116:=Tryz.sizeOf268
 t117:=Tryz.underlying269
 a117:=Tryz.isAgg269
 z117:=Tryz.sizeOf269
 v117:=Tryz.zeroValue269
 t119:=Tryz.underlying320
 a119:=Tryz.isAgg320
 z119:=Tryz.sizeOf320
 t124:=Tryz.underlying272
 a124:=Tryz.isAgg272
 z124:=Tryz.sizeOf272
 v124:=Tryz.zeroValue272
 t138:=Tryz.underlying322
 a138:=Tryz.isAgg322
 z138:=Tryz.sizeOf322
 v138:=Tryz.zeroValue322
 t139:=Tryz.underlying323
 a139:=Tryz.isAgg323
 z139:=Tryz.sizeOf323
 v139:=Tryz.zeroValue323
 g3:=by kernel_rfl
 g4:=by kernel_rfl }
open Go.RowKit in
theorem Tryz.strings_TrimLeft_one(s:ByteArray)(c:UInt8)(hc:c.toNat<128)(w:World) :
 Calls Tryz.prog 169 #[.string s,.string ⟨#[c]⟩] w fun e w'=>e = .returned (.string ⟨(Lib.trimLeftB s.data.toList c).toArray⟩)∧w'=w:=Any.strings_TrimLeft_one Tryz.Hw s c hc w
def Tryz.AK:afz:=⟨fun|162=>164|232=>210|227=>211|234=>212|236=>213|228=>247|271=>248|151=>249|120=>264|197=>251|152=>265|260=>266|137=>58|119=>272|224=>196|225=>195|217=>120|266=>184|n=>n,fun|9=>9|4=>4|3=>3|5=>5|117=>269|116=>268|0=>0|124=>272|21=>21|105=>301|46=>130|119=>320|139=>323|138=>322|n=>n,fun|3=>2|4=>3|n=>n⟩
theorem Tryz.Hx:Go.Proofs.Lays.n162 Tryz.prog Tryz.AK:={
 mixed:=by kernel_rfl
 f119:=Tryz.func272.trans (congrArg some (by kernel_rfl))
 f120:=Tryz.func264.trans (congrArg some (by kernel_rfl))
 f137:=Tryz.func58.trans (congrArg some (by kernel_rfl))
 f151:=Tryz.func249.trans (congrArg some (by kernel_rfl))
 f152:=Tryz.func265.trans (congrArg some (by kernel_rfl))
 f162:=Tryz.func164.trans (congrArg some (by kernel_rfl))
 f197:=Tryz.func251.trans (congrArg some (by kernel_rfl))
 f217:=Tryz.func120.trans (congrArg some (by kernel_rfl))
 f224:=Tryz.func196.trans (congrArg some (by kernel_rfl))
 f225:=Tryz.func195.trans (congrArg some (by kernel_rfl))
 f227:=Tryz.func211.trans (congrArg some (by kernel_rfl))
 f228:=Tryz.func247.trans (congrArg some (by kernel_rfl))
 f232:=Tryz.func210.trans (congrArg some (by kernel_rfl))
 f234:=Tryz.func212.trans (congrArg some (by kernel_rfl))
 f236:=Tryz.func213.trans (congrArg some (by kernel_rfl))
 f260:=Tryz.func266.trans (congrArg some (by kernel_rfl))
 f266:=Tryz.func184.trans (congrArg some (by kernel_rfl))
 f271:=Tryz.func248.trans (congrArg some (by kernel_rfl))
 t0:=Tryz.underlying0
 a0:=Tryz.isAgg0
 z0:=Tryz.sizeOf0
 v0:=Tryz.zeroValue0
 t3:=Tryz.underlying3
 a3:=Tryz.isAgg3
 z3:=Tryz.sizeOf3
 v3:=Tryz.zeroValue3
 t4:=Tryz.underlying4
 a4:=Tryz.isAgg4
 z4:=Tryz.sizeOf4
 v4:=Tryz.zeroValue4
 t5:=Tryz.underlying5
 a5:=Tryz.isAgg5
 z5:=Tryz.sizeOf5
 v5:=Tryz.zeroValue5
 t9:=Tryz.underlying9
 a9:=Tryz.isAgg9
 z9:=Tryz.sizeOf9
 v9:=Tryz.zeroValue9
 t21:=Tryz.underlying21
 a21:=Tryz.isAgg21
 z21:=Tryz.sizeOf21
 v21:=Tryz.zeroValue21
 t46:=Tryz.underlying130
 a46:=Tryz.isAgg130
 z46:=Tryz.sizeOf130
 v46:=Tryz.zeroValue130
 t105:=Tryz.underlying301
 a105:=Tryz.isAgg301
 z105:=Tryz.sizeOf301
 v105:=Tryz.zeroValue301
 t116:=Tryz.underlying268
 a116:=Tryz.isAgg268
 z116:=Tryz.sizeOf268
 t117:=Tryz.underlying269
 a117:=Tryz.isAgg269
 z117:=Tryz.sizeOf269
 v117:=Tryz.zeroValue269
 t119:=Tryz.underlying320
 a119:=Tryz.isAgg320
 z119:=Tryz.sizeOf320
 t124:=Tryz.underlying272
 a124:=Tryz.isAgg272
 z124:=Tryz.sizeOf272
 v124:=Tryz.zeroValue272
 t138:=Tryz.underlying322
 a138:=Tryz.isAgg322
 z138:=Tryz.sizeOf322
 v138:=Tryz.zeroValue322
 t139:=Tryz.underlying323
 a139:=Tryz.isAgg323
 z139:=Tryz.sizeOf323
 v139:=Tryz.zeroValue323
 g3:=by kernel_rfl
 g4:=by kernel_rfl }
open Go.RowKit in
theorem Tryz.strings_TrimRight_one(s:ByteArray)(c:UInt8)(hc:c.toNat<128)(w:World)(hs:s.size≤9223372036854775807) :
 Calls Tryz.prog 164 #[.string s,.string ⟨#[c]⟩] w fun e w'=>e = .returned (.string ⟨(Lib.trimRightB s.data.toList c).toArray⟩)∧w'=w:=Any.strings_TrimRight_one Tryz.Hx s c hc w hs
def Tryz.AL:afz:=⟨fun|283=>241|n=>n,fun|3=>3|9=>9|4=>4|n=>n,fun|n=>n⟩
theorem Tryz.Hy:Go.Proofs.Lays.n283 Tryz.prog Tryz.AL:={
 mixed:=by kernel_rfl
 f283:=Tryz.func241.trans (congrArg some (by kernel_rfl))
 t3:=Tryz.underlying3
 a3:=Tryz.isAgg3
 z3:=Tryz.sizeOf3
 v3:=Tryz.zeroValue3
 t4:=Tryz.underlying4
 a4:=Tryz.isAgg4
 z4:=Tryz.sizeOf4
 v4:=Tryz.zeroValue4
 t9:=Tryz.underlying9
 a9:=Tryz.isAgg9
 z9:=Tryz.sizeOf9
 v9:=Tryz.zeroValue9 }
open Go.Lib in
theorem Tryz.internal_strconv_small(i:Nat)(h:i<100)(w:World) :
 Calls Tryz.prog 241 #[.int .i64 i] w fun e w'=>e = .returned (.string ⟨(afF i).toArray⟩)∧w'=w:=Any.internal_strconv_small Tryz.Hy i h w
def Tryz.yP:afz:=⟨fun|284=>242|129=>237|317=>260|318=>261|n=>n,fun|53=>88|3=>3|212=>312|0=>0|4=>4|46=>130|5=>5|9=>9|n=>n,fun|17=>1|n=>n⟩
theorem Tryz.E9:Go.Proofs.LaysM.n284 Tryz.prog Tryz.yP:={
 mixed:=by kernel_rfl
 f129:=Tryz.func237.trans (congrArg some (by kernel_rfl))
 f284:=Tryz.func242.trans (congrArg some (by kernel_rfl))
 f317:=Tryz.func260.trans (congrArg some (by kernel_rfl))
 f318:=Tryz.func261.trans (congrArg some (by kernel_rfl))
 t0:=Tryz.underlying0
 a0:=Tryz.isAgg0
 z0:=Tryz.sizeOf0
 v0:=Tryz.zeroValue0
 t3:=Tryz.underlying3
 a3:=Tryz.isAgg3
 z3:=Tryz.sizeOf3
 v3:=Tryz.zeroValue3
 t4:=Tryz.underlying4
 a4:=Tryz.isAgg4
 z4:=Tryz.sizeOf4
 v4:=Tryz.zeroValue4
 t5:=Tryz.underlying5
 a5:=Tryz.isAgg5
 z5:=Tryz.sizeOf5
 v5:=Tryz.zeroValue5
 t9:=Tryz.underlying9
 a9:=Tryz.isAgg9
 z9:=Tryz.sizeOf9
 v9:=Tryz.zeroValue9
 t46:=Tryz.underlying130
 a46:=Tryz.isAgg130
 z46:=Tryz.sizeOf130
 v46:=Tryz.zeroValue130
 t53:=Tryz.underlying88
 a53:=Tryz.isAgg88
 z53:=Tryz.sizeOf88
 v53:=Tryz.zeroValue88
 t212:=Tryz.underlying312
 a212:=Tryz.isAgg312
 z212:=Tryz.sizeOf312
 v212:=Tryz.zeroValue312
 g17:=by kernel_rfl
 i0:=by kernel_rfl
 i3:=by kernel_rfl
 i4:=by kernel_rfl
 i5:=by kernel_rfl
 i9:=by kernel_rfl
 i46:=by kernel_rfl
 i53:=by kernel_rfl
 i212:=by kernel_rfl
 m17:=by kernel_rfl }
open Go.Lib in
theorem Tryz.internal_strconv_numDigits (u : Nat) (h1 : 1 ≤ u) (h2 : u < 18446744073709551616) (w : World) (xX : Lib.TabIs Tryz.prog w "internal/strconv.uint64pow10" .u64 afO) :
 Calls Tryz.prog 242 #[.int .u64 u] w fun e w'=>e = .returned (.int .i64 (afB u))∧w'=w:=Any.internal_strconv_numDigits Tryz.E9 u h1 h2 w xX
def Tryz.AN:afz:=⟨fun|285=>243|n=>n,fun|37=>35|53=>88|3=>3|4=>4|51=>92|9=>9|5=>5|0=>0|n=>n,fun|n=>n⟩
theorem Tryz.Hz:Go.Proofs.Lays.n285 Tryz.prog Tryz.AN:={
 mixed:=by kernel_rfl
 f285:=Tryz.func243.trans (congrArg some (by kernel_rfl))
 t0:=Tryz.underlying0
 a0:=Tryz.isAgg0
 z0:=Tryz.sizeOf0
 v0:=Tryz.zeroValue0
 t3:=Tryz.underlying3
 a3:=Tryz.isAgg3
 z3:=Tryz.sizeOf3
 v3:=Tryz.zeroValue3
 t4:=Tryz.underlying4
 a4:=Tryz.isAgg4
 z4:=Tryz.sizeOf4
 v4:=Tryz.zeroValue4
 t5:=Tryz.underlying5
 a5:=Tryz.isAgg5
 z5:=Tryz.sizeOf5
 v5:=Tryz.zeroValue5
 t9:=Tryz.underlying9
 a9:=Tryz.isAgg9
 z9:=Tryz.sizeOf9
 v9:=Tryz.zeroValue9
 t37:=Tryz.underlying35
 a37:=Tryz.isAgg35
 z37:=Tryz.sizeOf35
 v37:=Tryz.zeroValue35
 t51:=Tryz.underlying92
 a51:=Tryz.isAgg92
 z51:=Tryz.sizeOf92
 v51:=Tryz.zeroValue92
 t53:=Tryz.underlying88
 a53:=Tryz.isAgg88
 z53:=Tryz.sizeOf88
 v53:=Tryz.zeroValue88 }
open Go.RowKit Go.Sort Go.Lib in
theorem Tryz.internal_strconv_formatBase10(Mv off cap:Nat)(u:Nat)(d:Array UInt8)(w:World)(hH:Holds (fun(b:UInt8)=>afM .u8 (b.toNat:Int)) w Mv off d)(hu:u<10 ^ d.size)(xY:u<18446744073709551616)(dz:d.size<4611686018427387904) :
 Calls Tryz.prog 243 #[.slice (some ⟨Mv,off,none⟩) d.size cap,.int .u64 u] w fun e w' =>e = .returned (.tuple #[])∧∃(n v':Nat)(dk:Array UInt8),w'=(putRow (fun(b:UInt8)=>afM .u8 (b.toNat:Int)) w Mv off dk).drewN n∧FmtInv d.size u 0 v' dk:=Any.internal_strconv_formatBase10 Tryz.Hz Mv off cap u d w hH hu xY dz
def Tryz.yQ:afz:=⟨fun|171=>163|243=>209|246=>246|283=>241|284=>242|285=>243|286=>244|129=>237|317=>260|318=>261|319=>262|320=>263|337=>270|338=>271|n=>n,fun|3=>3|9=>9|2=>2|4=>4|171=>294|0=>0|53=>88|37=>35|5=>5|173=>296|212=>312|51=>92|20=>20|213=>313|46=>130|232=>330|233=>331|n=>n,fun|17=>1|18=>4|19=>5|n=>n⟩
theorem Tryz.E_:Go.Proofs.LaysM.n171 Tryz.prog Tryz.yQ:={
 mixed:=by kernel_rfl
 f129:=Tryz.func237.trans (congrArg some (by kernel_rfl))
 f171:=Tryz.func163.trans (congrArg some (by kernel_rfl))
 f243:=Tryz.func209.trans (congrArg some (by kernel_rfl))
 f246:=Tryz.func246.trans (congrArg some (by kernel_rfl))
 f283:=Tryz.func241.trans (congrArg some (by kernel_rfl))
 f284:=Tryz.func242.trans (congrArg some (by kernel_rfl))
 f285:=Tryz.func243.trans (congrArg some (by kernel_rfl))
 f286:=Tryz.func244.trans (congrArg some (by kernel_rfl))
 f317:=Tryz.func260.trans (congrArg some (by kernel_rfl))
 f318:=Tryz.func261.trans (congrArg some (by kernel_rfl))
 f319:=Tryz.func262.trans (congrArg some (by kernel_rfl))
 f320:=Tryz.func263.trans (congrArg some (by kernel_rfl))
 f337:=Tryz.func270.trans (congrArg some (by kernel_rfl))
 f338:=Tryz.func271.trans (congrArg some (by kernel_rfl))
 t0:=Tryz.underlying0
 a0:=Tryz.isAgg0
 z0:=Tryz.sizeOf0
 v0:=Tryz.zeroValue0
 t2:=Tryz.underlying2
 a2:=Tryz.isAgg2
 z2:=Tryz.sizeOf2
 v2:=Tryz.zeroValue2
 t3:=Tryz.underlying3
 a3:=Tryz.isAgg3
 z3:=Tryz.sizeOf3
 v3:=Tryz.zeroValue3
 t4:=Tryz.underlying4
 a4:=Tryz.isAgg4
 z4:=Tryz.sizeOf4
 v4:=Tryz.zeroValue4
 t5:=Tryz.underlying5
 a5:=Tryz.isAgg5
 z5:=Tryz.sizeOf5
 v5:=Tryz.zeroValue5
 t9:=Tryz.underlying9
 a9:=Tryz.isAgg9
 z9:=Tryz.sizeOf9
 v9:=Tryz.zeroValue9
 t20:=Tryz.underlying20
 a20:=Tryz.isAgg20
 z20:=Tryz.sizeOf20
 v20:=Tryz.zeroValue20
 t37:=Tryz.underlying35
 a37:=Tryz.isAgg35
 z37:=Tryz.sizeOf35
 v37:=Tryz.zeroValue35
 t46:=Tryz.underlying130
 a46:=Tryz.isAgg130
 z46:=Tryz.sizeOf130
 v46:=Tryz.zeroValue130
 t51:=Tryz.underlying92
 a51:=Tryz.isAgg92
 z51:=Tryz.sizeOf92
 v51:=Tryz.zeroValue92
 t53:=Tryz.underlying88
 a53:=Tryz.isAgg88
 z53:=Tryz.sizeOf88
 v53:=Tryz.zeroValue88
 t171:=Tryz.underlying294
 a171:=Tryz.isAgg294
 z171:=Tryz.sizeOf294
 v171:=Tryz.zeroValue294
 t173:=Tryz.underlying296
 a173:=Tryz.isAgg296
 z173:=Tryz.sizeOf296
 v173:=Tryz.zeroValue296
 t212:=Tryz.underlying312
 a212:=Tryz.isAgg312
 z212:=Tryz.sizeOf312
 v212:=Tryz.zeroValue312
 t213:=Tryz.underlying313
 a213:=Tryz.isAgg313
 z213:=Tryz.sizeOf313
 t232:=Tryz.underlying330
 a232:=Tryz.isAgg330
 z232:=Tryz.sizeOf330
 v232:=Tryz.zeroValue330
 t233:=Tryz.underlying331
 a233:=Tryz.isAgg331
 z233:=Tryz.sizeOf331
 v233:=Tryz.zeroValue331
 g17:=by kernel_rfl
 g18:=by kernel_rfl
 g19:=by kernel_rfl
 i0:=by kernel_rfl
 i2:=by kernel_rfl
 i3:=by kernel_rfl
 i4:=by kernel_rfl
 i5:=by kernel_rfl
 i9:=by kernel_rfl
 i20:=by kernel_rfl
 i37:=by kernel_rfl
 i46:=by kernel_rfl
 i51:=by kernel_rfl
 i53:=by kernel_rfl
 i171:=by kernel_rfl
 i173:=by kernel_rfl
 i212:=by kernel_rfl
 i232:=by kernel_rfl
 i233:=by kernel_rfl
 m17:=by kernel_rfl
 m18:=by kernel_rfl
 m19:=by kernel_rfl }
open Go.RowKit Go.Sort Go.Lib in
theorem Tryz.strconv_Itoa (n : Int) (h0 : -9223372036854775808 ≤ n) (h1 : n ≤ 9223372036854775807) (w : World) (xX : Lib.TabIs Tryz.prog w "internal/strconv.uint64pow10" .u64 afO) :
 Calls Tryz.prog 163 #[.int .i64 n] w fun e w'=>e = .returned (.string ⟨(Lib.itoa n).toArray⟩)∧∃k os,w'=grow (w.drewN k) os:=Any.strconv_Itoa Tryz.E_ n h0 h1 w xX
def Tryz.yR:afz:=⟨fun|172=>254|244=>267|245=>268|247=>273|279=>274|280=>275|281=>276|282=>277|287=>278|316=>279|171=>163|205=>280|321=>281|322=>282|243=>209|246=>246|283=>241|284=>242|285=>243|286=>244|129=>237|317=>260|318=>261|319=>262|320=>263|337=>270|338=>271|n=>n,fun|9=>9|3=>3|75=>178|76=>179|4=>4|5=>5|167=>324|37=>35|0=>0|85=>325|2=>2|168=>327|53=>88|175=>332|46=>130|210=>336|127=>239|145=>341|143=>339|21=>21|171=>294|173=>296|212=>312|51=>92|20=>20|213=>313|232=>330|233=>331|80=>184|n=>n,fun|15=>6|16=>7|17=>1|18=>4|19=>5|n=>n⟩
theorem Tryz.vk:Go.Proofs.LaysC.n172 Tryz.prog Tryz.yR:={
 mixed:=by kernel_rfl
 f129:=Tryz.func237.trans (congrArg some (by kernel_rfl))
 f171:=Tryz.func163.trans (congrArg some (by kernel_rfl))
 f172:=Tryz.func254.trans (congrArg some (by kernel_rfl))
 f205:=Tryz.func280.trans (congrArg some (by kernel_rfl))
 f243:=Tryz.func209.trans (congrArg some (by kernel_rfl))
 f244:=Tryz.func267.trans (congrArg some (by kernel_rfl))
 f245:=Tryz.func268.trans (congrArg some (by kernel_rfl))
 f246:=Tryz.func246.trans (congrArg some (by kernel_rfl))
 f247:=Tryz.func273.trans (congrArg some (by kernel_rfl))
 f279:=Tryz.func274.trans (congrArg some (by kernel_rfl))
 f280:=Tryz.func275.trans (congrArg some (by kernel_rfl))
 f281:=Tryz.func276.trans (congrArg some (by kernel_rfl))
 f282:=Tryz.func277.trans (congrArg some (by kernel_rfl))
 f283:=Tryz.func241.trans (congrArg some (by kernel_rfl))
 f284:=Tryz.func242.trans (congrArg some (by kernel_rfl))
 f285:=Tryz.func243.trans (congrArg some (by kernel_rfl))
 f286:=Tryz.func244.trans (congrArg some (by kernel_rfl))
 f287:=Tryz.func278.trans (congrArg some (by kernel_rfl))
 f316:=Tryz.func279.trans (congrArg some (by kernel_rfl))
 f317:=Tryz.func260.trans (congrArg some (by kernel_rfl))
 f318:=Tryz.func261.trans (congrArg some (by kernel_rfl))
 f319:=Tryz.func262.trans (congrArg some (by kernel_rfl))
 f320:=Tryz.func263.trans (congrArg some (by kernel_rfl))
 f321:=Tryz.func281.trans (congrArg some (by kernel_rfl))
 f322:=Tryz.func282.trans (congrArg some (by kernel_rfl))
 f337:=Tryz.func270.trans (congrArg some (by kernel_rfl))
 f338:=Tryz.func271.trans (congrArg some (by kernel_rfl))
 t0:=Tryz.underlying0
 a0:=Tryz.isAgg0
 z0:=Tryz.sizeOf0
 v0:=Tryz.zeroValue0
 t2:=Tryz.underlying2
 a2:=Tryz.isAgg2
 z2:=Tryz.sizeOf2
 v2:=Tryz.zeroValue2
 t3:=Tryz.underlying3
 a3:=Tryz.isAgg3
 z3:=Tryz.sizeOf3
 v3:=Tryz.zeroValue3
 t4:=Tryz.underlying4
 a4:=Tryz.isAgg4
 z4:=Tryz.sizeOf4
 v4:=Tryz.zeroValue4
 t5:=Tryz.underlying5
 a5:=Tryz.isAgg5
 z5:=Tryz.sizeOf5
 v5:=Tryz.zeroValue5
 t9:=Tryz.underlying9
 a9:=Tryz.isAgg9
 z9:=Tryz.sizeOf9
 v9:=Tryz.zeroValue9
 t20:=Tryz.underlying20
 a20:=Tryz.isAgg20
 z20:=Tryz.sizeOf20
 v20:=Tryz.zeroValue20
 t21:=Tryz.underlying21
 a21:=Tryz.isAgg21
 z21:=Tryz.sizeOf21
 v21:=Tryz.zeroValue21
 t37:=Tryz.underlying35
 a37:=Tryz.isAgg35
 z37:=Tryz.sizeOf35
 v37:=Tryz.zeroValue35
 t46:=Tryz.underlying130
 a46:=Tryz.isAgg130
 z46:=Tryz.sizeOf130
 v46:=Tryz.zeroValue130
 t51:=Tryz.underlying92
 a51:=Tryz.isAgg92
 z51:=Tryz.sizeOf92
 v51:=Tryz.zeroValue92
 t53:=Tryz.underlying88
 a53:=Tryz.isAgg88
 z53:=Tryz.sizeOf88
 v53:=Tryz.zeroValue88
 t75:=Tryz.underlying178
 a75:=Tryz.isAgg178
 z75:=Tryz.sizeOf178
 v75:=Tryz.zeroValue178
 t76:=Tryz.underlying179
 a76:=Tryz.isAgg179
 z76:=Tryz.sizeOf179
 v76:=Tryz.zeroValue179
 t85:=Tryz.underlying325
 a85:=Tryz.isAgg325
 z85:=Tryz.sizeOf325
 v85:=Tryz.zeroValue325
 t127:=Tryz.underlying239
 a127:=Tryz.isAgg239
 z127:=Tryz.sizeOf239
 v127:=Tryz.zeroValue239
 t143:=Tryz.underlying339
 a143:=Tryz.isAgg339
 z143:=Tryz.sizeOf339
 v143:=Tryz.zeroValue339
 t145:=Tryz.underlying341
 a145:=Tryz.isAgg341
 z145:=Tryz.sizeOf341
 v145:=Tryz.zeroValue341
 t167:=Tryz.underlying324
 a167:=Tryz.isAgg324
 z167:=Tryz.sizeOf324
 v167:=Tryz.zeroValue324
 t168:=Tryz.underlying327
 a168:=Tryz.isAgg327
 z168:=Tryz.sizeOf327
 v168:=Tryz.zeroValue327
 t171:=Tryz.underlying294
 a171:=Tryz.isAgg294
 z171:=Tryz.sizeOf294
 v171:=Tryz.zeroValue294
 t173:=Tryz.underlying296
 a173:=Tryz.isAgg296
 z173:=Tryz.sizeOf296
 v173:=Tryz.zeroValue296
 t175:=Tryz.underlying332
 a175:=Tryz.isAgg332
 z175:=Tryz.sizeOf332
 v175:=Tryz.zeroValue332
 t210:=Tryz.underlying336
 a210:=Tryz.isAgg336
 z210:=Tryz.sizeOf336
 v210:=Tryz.zeroValue336
 t212:=Tryz.underlying312
 a212:=Tryz.isAgg312
 z212:=Tryz.sizeOf312
 v212:=Tryz.zeroValue312
 t213:=Tryz.underlying313
 a213:=Tryz.isAgg313
 z213:=Tryz.sizeOf313
 t232:=Tryz.underlying330
 a232:=Tryz.isAgg330
 z232:=Tryz.sizeOf330
 v232:=Tryz.zeroValue330
 t233:=Tryz.underlying331
 a233:=Tryz.isAgg331
 z233:=Tryz.sizeOf331
 v233:=Tryz.zeroValue331
 g15:=by kernel_rfl
 g16:=by kernel_rfl
 g17:=by kernel_rfl
 g18:=by kernel_rfl
 g19:=by kernel_rfl
 t80:=Tryz.underlying184
 a80:=Tryz.isAgg184
 z80:=Tryz.sizeOf184
 v80:=Tryz.zeroValue184
 i0:=by kernel_rfl
 i2:=by kernel_rfl
 i3:=by kernel_rfl
 i4:=by kernel_rfl
 i5:=by kernel_rfl
 i9:=by kernel_rfl
 i20:=by kernel_rfl
 i21:=by kernel_rfl
 i37:=by kernel_rfl
 i46:=by kernel_rfl
 i51:=by kernel_rfl
 i53:=by kernel_rfl
 i75:=by kernel_rfl
 i76:=by kernel_rfl
 i80:=by kernel_rfl
 i85:=by kernel_rfl
 i127:=by kernel_rfl
 i143:=by kernel_rfl
 i145:=by kernel_rfl
 i167:=by kernel_rfl
 i168:=by kernel_rfl
 i171:=by kernel_rfl
 i173:=by kernel_rfl
 i175:=by kernel_rfl
 i210:=by kernel_rfl
 i212:=by kernel_rfl
 i232:=by kernel_rfl
 i233:=by kernel_rfl
 m15:=by kernel_rfl
 m16:=by kernel_rfl
 m17:=by kernel_rfl
 m18:=by kernel_rfl
 m19:=by kernel_rfl
 c0:=by kernel_rfl
 c2:=by kernel_rfl
 c3:=by kernel_rfl
 c4:=by kernel_rfl
 c5:=by kernel_rfl
 c9:=by kernel_rfl
 c20:=by kernel_rfl
 c21:=by kernel_rfl
 c37:=by kernel_rfl
 c46:=by kernel_rfl
 c51:=by kernel_rfl
 c53:=by kernel_rfl
 c75:=by kernel_rfl
 c76:=by kernel_rfl
 c80:=by kernel_rfl
 c85:=by kernel_rfl
 c127:=by kernel_rfl
 c143:=by kernel_rfl
 c145:=by kernel_rfl
 c167:=by kernel_rfl
 c168:=by kernel_rfl
 c171:=by kernel_rfl
 c173:=by kernel_rfl
 c175:=by kernel_rfl
 c210:=by kernel_rfl
 c212:=by kernel_rfl
 c213:=by kernel_rfl
 c232:=by kernel_rfl
 c233:=by kernel_rfl }
open Go.RowKit in
theorem Tryz.strconv_Atoi_ok(s:ByteArray)(nK:s.size≤9223372036854775806)(v:Int)(h:Lib.atoiAll s.data.toList = .ok v)(w:World) :
 Calls Tryz.prog 254 #[.string s] w fun e w'=>e = .returned (.tuple #[.int .i64 v,.nilIface])∧(w'=w∨∃t,w'=Lib.bytesWorld w 5 t):=Any.strconv_Atoi_ok Tryz.vk s nK v h w
def Tryz.AO:afz:=⟨fun|217=>120|266=>184|n=>n,fun|9=>9|5=>5|3=>3|n=>n,fun|n=>n⟩
theorem Tryz.HA:Go.Proofs.Lays.n217 Tryz.prog Tryz.AO:={
 mixed:=by kernel_rfl
 f217:=Tryz.func120.trans (congrArg some (by kernel_rfl))
 f266:=Tryz.func184.trans (congrArg some (by kernel_rfl))
 t3:=Tryz.underlying3
 a3:=Tryz.isAgg3
 z3:=Tryz.sizeOf3
 v3:=Tryz.zeroValue3
 t5:=Tryz.underlying5
 a5:=Tryz.isAgg5
 z5:=Tryz.sizeOf5
 v5:=Tryz.zeroValue5
 t9:=Tryz.underlying9
 a9:=Tryz.isAgg9
 z9:=Tryz.sizeOf9
 v9:=Tryz.zeroValue9 }
open Go.RowKit Go.Lib in
theorem Tryz.stringslite_IndexByte(s:ByteArray)(c:Int)(w:World) :
 Calls Tryz.prog 120 #[.string s,.int .u8 c] w fun e w'=>e = .returned (.int .i64 (Lib.indexByte s.data.toList c.toNat.toUInt8))∧w'=w:=Any.stringslite_IndexByte Tryz.HA s c w
def Tryz.AP:afz:=⟨fun|219=>138|217=>120|225=>195|224=>196|267=>197|266=>184|314=>238|n=>n,fun|9=>9|3=>3|4=>4|5=>5|46=>130|146=>290|51=>92|n=>n,fun|1=>0|n=>n⟩
theorem Tryz.HB:Go.Proofs.Lays.n219 Tryz.prog Tryz.AP:={
 mixed:=by kernel_rfl
 f217:=Tryz.func120.trans (congrArg some (by kernel_rfl))
 f219:=Tryz.func138.trans (congrArg some (by kernel_rfl))
 f224:=Tryz.func196.trans (congrArg some (by kernel_rfl))
 f225:=Tryz.func195.trans (congrArg some (by kernel_rfl))
 f266:=Tryz.func184.trans (congrArg some (by kernel_rfl))
 f267:=Tryz.func197.trans (congrArg some (by kernel_rfl))
 f314:=Tryz.func238.trans (congrArg some (by kernel_rfl))
 t3:=Tryz.underlying3
 a3:=Tryz.isAgg3
 z3:=Tryz.sizeOf3
 v3:=Tryz.zeroValue3
 t4:=Tryz.underlying4
 a4:=Tryz.isAgg4
 z4:=Tryz.sizeOf4
 v4:=Tryz.zeroValue4
 t5:=Tryz.underlying5
 a5:=Tryz.isAgg5
 z5:=Tryz.sizeOf5
 v5:=Tryz.zeroValue5
 t9:=Tryz.underlying9
 a9:=Tryz.isAgg9
 z9:=Tryz.sizeOf9
 v9:=Tryz.zeroValue9
 t46:=Tryz.underlying130
 a46:=Tryz.isAgg130
 z46:=Tryz.sizeOf130
 v46:=Tryz.zeroValue130
 t51:=Tryz.underlying92
 a51:=Tryz.isAgg92
 z51:=Tryz.sizeOf92
 v51:=Tryz.zeroValue92
 t146:=Tryz.underlying290
 a146:=Tryz.isAgg290
 z146:=Tryz.sizeOf290
 v146:=Tryz.zeroValue290
 g1:=by kernel_rfl }
open Go.RowKit Go.Lib in
theorem Tryz.stringslite_Index_one(s:ByteArray)(c:UInt8)(w:World) :
 Calls Tryz.prog 138 #[.string s,.string ⟨#[c]⟩] w fun e w'=>e = .returned (.int .i64 (Lib.indexByte s.data.toList c))∧w'=w:=Any.stringslite_Index_one Tryz.HB s c w
def Tryz.AQ:afz:=⟨fun|143=>67|219=>138|217=>120|225=>195|224=>196|267=>197|266=>184|314=>238|n=>n,fun|9=>9|3=>3|4=>4|5=>5|46=>130|146=>290|51=>92|n=>n,fun|1=>0|n=>n⟩
theorem Tryz.HC:Go.Proofs.Lays.n143 Tryz.prog Tryz.AQ:={
 mixed:=by kernel_rfl
 f143:=Tryz.func67.trans (congrArg some (by kernel_rfl))
 f217:=Tryz.func120.trans (congrArg some (by kernel_rfl))
 f219:=Tryz.func138.trans (congrArg some (by kernel_rfl))
 f224:=Tryz.func196.trans (congrArg some (by kernel_rfl))
 f225:=Tryz.func195.trans (congrArg some (by kernel_rfl))
 f266:=Tryz.func184.trans (congrArg some (by kernel_rfl))
 f267:=Tryz.func197.trans (congrArg some (by kernel_rfl))
 f314:=Tryz.func238.trans (congrArg some (by kernel_rfl))
 t3:=Tryz.underlying3
 a3:=Tryz.isAgg3
 z3:=Tryz.sizeOf3
 v3:=Tryz.zeroValue3
 t4:=Tryz.underlying4
 a4:=Tryz.isAgg4
 z4:=Tryz.sizeOf4
 v4:=Tryz.zeroValue4
 t5:=Tryz.underlying5
 a5:=Tryz.isAgg5
 z5:=Tryz.sizeOf5
 v5:=Tryz.zeroValue5
 t9:=Tryz.underlying9
 a9:=Tryz.isAgg9
 z9:=Tryz.sizeOf9
 v9:=Tryz.zeroValue9
 t46:=Tryz.underlying130
 a46:=Tryz.isAgg130
 z46:=Tryz.sizeOf130
 v46:=Tryz.zeroValue130
 t51:=Tryz.underlying92
 a51:=Tryz.isAgg92
 z51:=Tryz.sizeOf92
 v51:=Tryz.zeroValue92
 t146:=Tryz.underlying290
 a146:=Tryz.isAgg290
 z146:=Tryz.sizeOf290
 v146:=Tryz.zeroValue290
 g1:=by kernel_rfl }
open Go.RowKit Go.Lib in
theorem Tryz.strings_Index_one(s:ByteArray)(c:UInt8)(w:World) :
 Calls Tryz.prog 67 #[.string s,.string ⟨#[c]⟩] w fun e w'=>e = .returned (.int .i64 (Lib.indexByte s.data.toList c))∧w'=w:=Any.strings_Index_one Tryz.HC s c w
def Tryz.AR:afz:=⟨fun|138=>223|195=>252|218=>253|143=>67|219=>138|217=>120|225=>195|224=>196|267=>197|266=>184|314=>238|n=>n,fun|9=>9|3=>3|4=>4|5=>5|0=>0|46=>130|146=>290|51=>92|n=>n,fun|1=>0|n=>n⟩
theorem Tryz.HE:Go.Proofs.Lays.n138 Tryz.prog Tryz.AR:={
 mixed:=by kernel_rfl
 f138:=Tryz.func223.trans (congrArg some (by kernel_rfl))
 f143:=Tryz.func67.trans (congrArg some (by kernel_rfl))
 f195:=Tryz.func252.trans (congrArg some (by kernel_rfl))
 f217:=Tryz.func120.trans (congrArg some (by kernel_rfl))
 f218:=Tryz.func253.trans (congrArg some (by kernel_rfl))
 f219:=Tryz.func138.trans (congrArg some (by kernel_rfl))
 f224:=Tryz.func196.trans (congrArg some (by kernel_rfl))
 f225:=Tryz.func195.trans (congrArg some (by kernel_rfl))
 f266:=Tryz.func184.trans (congrArg some (by kernel_rfl))
 f267:=Tryz.func197.trans (congrArg some (by kernel_rfl))
 f314:=Tryz.func238.trans (congrArg some (by kernel_rfl))
 t0:=Tryz.underlying0
 a0:=Tryz.isAgg0
 z0:=Tryz.sizeOf0
 v0:=Tryz.zeroValue0
 t3:=Tryz.underlying3
 a3:=Tryz.isAgg3
 z3:=Tryz.sizeOf3
 v3:=Tryz.zeroValue3
 t4:=Tryz.underlying4
 a4:=Tryz.isAgg4
 z4:=Tryz.sizeOf4
 v4:=Tryz.zeroValue4
 t5:=Tryz.underlying5
 a5:=Tryz.isAgg5
 z5:=Tryz.sizeOf5
 v5:=Tryz.zeroValue5
 t9:=Tryz.underlying9
 a9:=Tryz.isAgg9
 z9:=Tryz.sizeOf9
 v9:=Tryz.zeroValue9
 t46:=Tryz.underlying130
 a46:=Tryz.isAgg130
 z46:=Tryz.sizeOf130
 v46:=Tryz.zeroValue130
 t51:=Tryz.underlying92
 a51:=Tryz.isAgg92
 z51:=Tryz.sizeOf92
 v51:=Tryz.zeroValue92
 t146:=Tryz.underlying290
 a146:=Tryz.isAgg290
 z146:=Tryz.sizeOf290
 v146:=Tryz.zeroValue290
 g1:=by kernel_rfl }
open Go.RowKit Go.Lib in
theorem Tryz.strings_Count_one(s:ByteArray)(c:UInt8)(w:World) :
 Calls Tryz.prog 223 #[.string s,.string ⟨#[c]⟩] w fun e w'=>e = .returned (.int .i64 (Lib.countByte s.data.toList c))∧w'=w:=Any.strings_Count_one Tryz.HE s c w
def Tryz.AU:afz:=⟨fun|221=>176|268=>222|138=>223|143=>67|195=>252|197=>251|218=>253|219=>138|260=>266|217=>120|225=>195|224=>196|267=>197|266=>184|314=>238|n=>n,fun|9=>9|3=>3|31=>46|4=>4|0=>0|105=>301|21=>21|5=>5|46=>130|119=>320|139=>323|138=>322|146=>290|51=>92|n=>n,fun|1=>0|3=>2|4=>3|n=>n⟩
theorem Tryz.HF:Go.Proofs.Lays.n221 Tryz.prog Tryz.AU:={
 mixed:=by kernel_rfl
 f138:=Tryz.func223.trans (congrArg some (by kernel_rfl))
 f143:=Tryz.func67.trans (congrArg some (by kernel_rfl))
 f195:=Tryz.func252.trans (congrArg some (by kernel_rfl))
 f197:=Tryz.func251.trans (congrArg some (by kernel_rfl))
 f217:=Tryz.func120.trans (congrArg some (by kernel_rfl))
 f218:=Tryz.func253.trans (congrArg some (by kernel_rfl))
 f219:=Tryz.func138.trans (congrArg some (by kernel_rfl))
 f221:=Tryz.func176.trans (congrArg some (by kernel_rfl))
 f224:=Tryz.func196.trans (congrArg some (by kernel_rfl))
 f225:=Tryz.func195.trans (congrArg some (by kernel_rfl))
 f260:=Tryz.func266.trans (congrArg some (by kernel_rfl))
 f266:=Tryz.func184.trans (congrArg some (by kernel_rfl))
 f267:=Tryz.func197.trans (congrArg some (by kernel_rfl))
 f268:=Tryz.func222.trans (congrArg some (by kernel_rfl))
 f314:=Tryz.func238.trans (congrArg some (by kernel_rfl))
 t0:=Tryz.underlying0
 a0:=Tryz.isAgg0
 z0:=Tryz.sizeOf0
 v0:=Tryz.zeroValue0
 t3:=Tryz.underlying3
 a3:=Tryz.isAgg3
 z3:=Tryz.sizeOf3
 v3:=Tryz.zeroValue3
 t4:=Tryz.underlying4
 a4:=Tryz.isAgg4
 z4:=Tryz.sizeOf4
 v4:=Tryz.zeroValue4
 t5:=Tryz.underlying5
 a5:=Tryz.isAgg5
 z5:=Tryz.sizeOf5
 v5:=Tryz.zeroValue5
 t9:=Tryz.underlying9
 a9:=Tryz.isAgg9
 z9:=Tryz.sizeOf9
 v9:=Tryz.zeroValue9
 t21:=Tryz.underlying21
 a21:=Tryz.isAgg21
 z21:=Tryz.sizeOf21
 v21:=Tryz.zeroValue21
 t31:=Tryz.underlying46
 a31:=Tryz.isAgg46
 z31:=Tryz.sizeOf46
 v31:=Tryz.zeroValue46
 t46:=Tryz.underlying130
 a46:=Tryz.isAgg130
 z46:=Tryz.sizeOf130
 v46:=Tryz.zeroValue130
 t51:=Tryz.underlying92
 a51:=Tryz.isAgg92
 z51:=Tryz.sizeOf92
 v51:=Tryz.zeroValue92
 t105:=Tryz.underlying301
 a105:=Tryz.isAgg301
 z105:=Tryz.sizeOf301
 v105:=Tryz.zeroValue301
 t119:=Tryz.underlying320
 a119:=Tryz.isAgg320
 z119:=Tryz.sizeOf320
 t138:=Tryz.underlying322
 a138:=Tryz.isAgg322
 z138:=Tryz.sizeOf322
 v138:=Tryz.zeroValue322
 t139:=Tryz.underlying323
 a139:=Tryz.isAgg323
 z139:=Tryz.sizeOf323
 v139:=Tryz.zeroValue323
 t146:=Tryz.underlying290
 a146:=Tryz.isAgg290
 z146:=Tryz.sizeOf290
 v146:=Tryz.zeroValue290
 g1:=by kernel_rfl
 g3:=by kernel_rfl
 g4:=by kernel_rfl }
def Tryz.AW:afz:=⟨fun|264=>185|n=>n,fun|53=>88|46=>130|n=>n,fun|n=>n⟩
theorem Tryz.HG:Go.Proofs.Lays.n264 Tryz.prog Tryz.AW:={
 mixed:=by kernel_rfl
 f264:=Tryz.func185.trans (congrArg some (by kernel_rfl))
 t46:=Tryz.underlying130
 a46:=Tryz.isAgg130
 z46:=Tryz.sizeOf130
 v46:=Tryz.zeroValue130
 t53:=Tryz.underlying88
 a53:=Tryz.isAgg88
 z53:=Tryz.sizeOf88
 v53:=Tryz.zeroValue88 }
open Go.RowKit Go.Lib in
theorem Tryz.bits_Mul64(x y:Nat)(hx:x<18446744073709551616)(hy:y<18446744073709551616)(w:World) :
 Calls Tryz.prog 185 #[.int .u64 x,.int .u64 y] w fun e w'=>e = .returned (.tuple #[.int .u64 ((x*y / 18446744073709551616:Nat):Int),.int .u64 ((x*y % 18446744073709551616:Nat):Int)])∧w'=w:=Any.bits_Mul64 Tryz.HG x y hx hy w
def Tryz.uj:afz:=⟨fun|105=>162|212=>207|99=>106|165=>139|166=>109|170=>208|169=>113|263=>245|264=>185|206=>170|240=>173|241=>198|276=>221|277=>71|n=>n,fun|9=>9|3=>3|4=>4|20=>20|0=>0|46=>130|109=>264|5=>5|72=>176|76=>179|51=>92|146=>290|53=>88|148=>246|70=>174|37=>35|75=>178|127=>239|164=>274|80=>184|n=>n,fun|n=>n⟩
theorem Tryz.HH:Go.Proofs.Lays.n105 Tryz.prog Tryz.uj:={
 mixed:=by kernel_rfl
 f99:=Tryz.func106.trans (congrArg some (by kernel_rfl))
 f105:=Tryz.func162.trans (congrArg some (by kernel_rfl))
 f165:=Tryz.func139.trans (congrArg some (by kernel_rfl))
 f166:=Tryz.func109.trans (congrArg some (by kernel_rfl))
 f169:=Tryz.func113.trans (congrArg some (by kernel_rfl))
 f170:=Tryz.func208.trans (congrArg some (by kernel_rfl))
 f206:=Tryz.func170.trans (congrArg some (by kernel_rfl))
 f212:=Tryz.func207.trans (congrArg some (by kernel_rfl))
 f240:=Tryz.func173.trans (congrArg some (by kernel_rfl))
 f241:=Tryz.func198.trans (congrArg some (by kernel_rfl))
 f263:=Tryz.func245.trans (congrArg some (by kernel_rfl))
 f264:=Tryz.func185.trans (congrArg some (by kernel_rfl))
 f276:=Tryz.func221.trans (congrArg some (by kernel_rfl))
 f277:=Tryz.func71.trans (congrArg some (by kernel_rfl))
 t0:=Tryz.underlying0
 a0:=Tryz.isAgg0
 z0:=Tryz.sizeOf0
 v0:=Tryz.zeroValue0
 t3:=Tryz.underlying3
 a3:=Tryz.isAgg3
 z3:=Tryz.sizeOf3
 v3:=Tryz.zeroValue3
 t4:=Tryz.underlying4
 a4:=Tryz.isAgg4
 z4:=Tryz.sizeOf4
 v4:=Tryz.zeroValue4
 t5:=Tryz.underlying5
 a5:=Tryz.isAgg5
 z5:=Tryz.sizeOf5
 v5:=Tryz.zeroValue5
 t9:=Tryz.underlying9
 a9:=Tryz.isAgg9
 z9:=Tryz.sizeOf9
 v9:=Tryz.zeroValue9
 t20:=Tryz.underlying20
 a20:=Tryz.isAgg20
 z20:=Tryz.sizeOf20
 v20:=Tryz.zeroValue20
 t37:=Tryz.underlying35
 a37:=Tryz.isAgg35
 z37:=Tryz.sizeOf35
 v37:=Tryz.zeroValue35
 t46:=Tryz.underlying130
 a46:=Tryz.isAgg130
 z46:=Tryz.sizeOf130
 v46:=Tryz.zeroValue130
 t51:=Tryz.underlying92
 a51:=Tryz.isAgg92
 z51:=Tryz.sizeOf92
 v51:=Tryz.zeroValue92
 t53:=Tryz.underlying88
 a53:=Tryz.isAgg88
 z53:=Tryz.sizeOf88
 v53:=Tryz.zeroValue88
 t70:=Tryz.underlying174
 a70:=Tryz.isAgg174
 z70:=Tryz.sizeOf174
 v70:=Tryz.zeroValue174
 t72:=Tryz.underlying176
 a72:=Tryz.isAgg176
 z72:=Tryz.sizeOf176
 v72:=Tryz.zeroValue176
 t75:=Tryz.underlying178
 a75:=Tryz.isAgg178
 z75:=Tryz.sizeOf178
 v75:=Tryz.zeroValue178
 t76:=Tryz.underlying179
 a76:=Tryz.isAgg179
 z76:=Tryz.sizeOf179
 v76:=Tryz.zeroValue179
 t109:=Tryz.underlying264
 a109:=Tryz.isAgg264
 z109:=Tryz.sizeOf264
 v109:=Tryz.zeroValue264
 t127:=Tryz.underlying239
 a127:=Tryz.isAgg239
 z127:=Tryz.sizeOf239
 v127:=Tryz.zeroValue239
 t146:=Tryz.underlying290
 a146:=Tryz.isAgg290
 z146:=Tryz.sizeOf290
 v146:=Tryz.zeroValue290
 t148:=Tryz.underlying246
 a148:=Tryz.isAgg246
 z148:=Tryz.sizeOf246
 v148:=Tryz.zeroValue246
 t164:=Tryz.underlying274
 a164:=Tryz.isAgg274
 z164:=Tryz.sizeOf274
 v164:=Tryz.zeroValue274 }
theorem Tryz.sU:Builder.Extra Tryz.prog Tryz.uj:={
 sizeBuilder:=by kernel_rfl
 liesBuilder:=by kernel_rfl
 t5:=Tryz.underlying5
 a5:=Tryz.isAgg5
 z5:=Tryz.sizeOf5
 v5:=Tryz.zeroValue5
 infoByte:=by kernel_rfl
 cellsByte:=by kernel_rfl
 sizeByte:=by kernel_rfl
 neB5:=by decide }
open Go.RowKit Go.Lib in
theorem Tryz.strings_Repeat(s:ByteArray)(c:Nat)(w:World)(hc:c≤9223372036854775807)(hlen:s.size*c≤140737488355328) :
 Calls Tryz.prog 162 #[.string s,.int .i64 c] w fun e w'=>e = .returned (.string ⟨(Lib.repeatL s.data.toList c).toArray⟩)∧Below w.heap.size w w':=Any.strings_Repeat Tryz.HH Tryz.sU s c w hc hlen
def Tryz.xZ:afz:=⟨fun|14=>34|15=>71|n=>n,fun|26=>25|22=>35|3=>3|4=>4|0=>0|9=>9|20=>20|5=>5|n=>n,fun|n=>n⟩
theorem Tryz.pG:Go.Proofs.SlLaysJ.n14 Tryz.prog Tryz.xZ:={
 mixed:=by kernel_rfl
 f14:=Tryz.func34.trans (congrArg some (by kernel_rfl))
 f15:=Tryz.func71.trans (congrArg some (by kernel_rfl))
 t0:=Tryz.underlying0
 a0:=Tryz.isAgg0
 z0:=Tryz.sizeOf0
 v0:=Tryz.zeroValue0
 t3:=Tryz.underlying3
 a3:=Tryz.isAgg3
 z3:=Tryz.sizeOf3
 v3:=Tryz.zeroValue3
 t4:=Tryz.underlying4
 a4:=Tryz.isAgg4
 z4:=Tryz.sizeOf4
 v4:=Tryz.zeroValue4
 t9:=Tryz.underlying9
 a9:=Tryz.isAgg9
 z9:=Tryz.sizeOf9
 v9:=Tryz.zeroValue9
 t20:=Tryz.underlying20
 a20:=Tryz.isAgg20
 z20:=Tryz.sizeOf20
 v20:=Tryz.zeroValue20
 t22:=Tryz.underlying35
 a22:=Tryz.isAgg35
 z22:=Tryz.sizeOf35
 v22:=Tryz.zeroValue35
 t26:=Tryz.underlying25
 a26:=Tryz.isAgg25
 z26:=Tryz.sizeOf25
 v26:=Tryz.zeroValue25
 t5:=Tryz.underlying5
 z5:=Tryz.sizeOf5
 i5:=by kernel_rfl }
open Go.RowKit Go.Lib in
theorem Tryz.bytes_Join_many(b o n c:Nat)(vs:List Value)(ls:List (List UInt8))(sv:Value)(sep:List UInt8)(w:World)(hn:ls.length=n)(h2:2≤n)(hP:Lib.PartsAt w ⟨b,o,none⟩ vs ls)(j7:n≤c)(hS:Lib.HoldsBytes w sv sep)(afc:n≤140737488355328)(hlen:Lib.lens ls+sep.length*(n - 1)≤140737488355328) :
 Calls Tryz.prog 34 #[.slice (some ⟨b,o,none⟩) n c,sv] w fun e w'=>∃v',e = .returned v'∧Lib.FreshBytes w.heap.size w' v' (Lib.join ls sep)∧Below w.heap.size w w':=Any.bytes_Join_many Tryz.pG b o n c vs ls sv sep w hn h2 hP j7 hS afc hlen
open Go.RowKit Go.Lib in
theorem Tryz.bytes_Join_none(p:Option Addr)(c:Nat)(sv:Value)(w:World) :
 Calls Tryz.prog 34 #[.slice p 0 c,sv] w fun e w'=>e = .returned (.slice (some ⟨w.heap.size,0,none⟩) 0 0)∧w'=w.alloc (.cells #[] 5):=Any.bytes_Join_none Tryz.pG p c sv w
open Go.RowKit Go.Lib in
theorem Tryz.bytes_Join_one(b o c:Nat)(E4:Addr)(c0:Nat)(l0:List UInt8)(sv:Value)(w:World)(fp:w.cell? ⟨b,o,none⟩=some (.slice (some E4) l0.length c0))(hc:∀(i:Nat) x,l0[i]? = some x→w.cell? (E4.add i)=some (.int .u8 (x.toNat:Int)))(h0:0<l0.length)(hs:l0.length≤140737488355328) :
 Calls Tryz.prog 34 #[.slice (some ⟨b,o,none⟩) 1 c,sv] w fun e w'=>∃v',e = .returned v'∧Lib.FreshBytes w.heap.size w' v' l0∧Below w.heap.size w w':=Any.bytes_Join_one Tryz.pG b o c E4 c0 l0 sv w fp hc h0 hs
open Go.RowKit Go.Lib in
theorem Tryz.bytes_Join_one_empty(b o c:Nat)(p0:Option Addr)(c0:Nat)(sv:Value)(w:World)(fp:w.cell? ⟨b,o,none⟩=some (.slice p0 0 c0)) :
 Calls Tryz.prog 34 #[.slice (some ⟨b,o,none⟩) 1 c,sv] w fun e w'=>e = .returned (.slice none 0 0)∧w'=w:=Any.bytes_Join_one_empty Tryz.pG b o c p0 c0 sv w fp
def Tryz.AX:afz:=⟨fun|6=>131|15=>193|14=>192|28=>236|29=>237|20=>228|21=>229|22=>230|23=>231|24=>232|25=>233|26=>234|27=>235|46=>255|47=>256|48=>257|49=>258|50=>259|57=>269|n=>n,fun|22=>43|24=>78|25=>207|3=>3|39=>130|0=>0|53=>92|55=>88|4=>4|46=>284|45=>283|50=>209|5=>5|9=>9|66=>306|70=>309|76=>316|77=>317|n=>n,fun|n=>n⟩
theorem Tryz.HI:Go.Proofs.SlLaysF0.n6 Tryz.prog Tryz.AX:={
 mixed:=by kernel_rfl
 f6:=⟨Tryz.f131.name,by decide,Tryz.func131.trans (congrArg some (by kernel_rfl))⟩
 f14:=⟨Tryz.f192.name,by decide,Tryz.func192.trans (congrArg some (by kernel_rfl))⟩
 f15:=Tryz.func193.trans (congrArg some (by kernel_rfl))
 f20:=⟨Tryz.f228.name,by decide,Tryz.func228.trans (congrArg some (by kernel_rfl))⟩
 f21:=⟨Tryz.f229.name,by decide,Tryz.func229.trans (congrArg some (by kernel_rfl))⟩
 f22:=⟨Tryz.f230.name,by decide,Tryz.func230.trans (congrArg some (by kernel_rfl))⟩
 f23:=⟨Tryz.f231.name,by decide,Tryz.func231.trans (congrArg some (by kernel_rfl))⟩
 f24:=⟨Tryz.f232.name,by decide,Tryz.func232.trans (congrArg some (by kernel_rfl))⟩
 f25:=⟨Tryz.f233.name,by decide,Tryz.func233.trans (congrArg some (by kernel_rfl))⟩
 f26:=⟨Tryz.f234.name,by decide,Tryz.func234.trans (congrArg some (by kernel_rfl))⟩
 f27:=⟨Tryz.f235.name,by decide,Tryz.func235.trans (congrArg some (by kernel_rfl))⟩
 f28:=Tryz.func236.trans (congrArg some (by kernel_rfl))
 f29:=Tryz.func237.trans (congrArg some (by kernel_rfl))
 f46:=⟨Tryz.f255.name,by decide,Tryz.func255.trans (congrArg some (by kernel_rfl))⟩
 f47:=Tryz.func256.trans (congrArg some (by kernel_rfl))
 f48:=Tryz.func257.trans (congrArg some (by kernel_rfl))
 f49:=⟨Tryz.f258.name,by decide,Tryz.func258.trans (congrArg some (by kernel_rfl))⟩
 f50:=⟨Tryz.f259.name,by decide,Tryz.func259.trans (congrArg some (by kernel_rfl))⟩
 f57:=⟨Tryz.f269.name,by decide,Tryz.func269.trans (congrArg some (by kernel_rfl))⟩
 t0:=Tryz.underlying0
 a0:=Tryz.isAgg0
 z0:=Tryz.sizeOf0
 v0:=Tryz.zeroValue0
 t3:=Tryz.underlying3
 a3:=Tryz.isAgg3
 z3:=Tryz.sizeOf3
 v3:=Tryz.zeroValue3
 t4:=Tryz.underlying4
 a4:=Tryz.isAgg4
 z4:=Tryz.sizeOf4
 v4:=Tryz.zeroValue4
 t5:=Tryz.underlying5
 a5:=Tryz.isAgg5
 z5:=Tryz.sizeOf5
 v5:=Tryz.zeroValue5
 t9:=Tryz.underlying9
 a9:=Tryz.isAgg9
 z9:=Tryz.sizeOf9
 v9:=Tryz.zeroValue9
 t22:=Tryz.underlying43
 a22:=Tryz.isAgg43
 z22:=Tryz.sizeOf43
 v22:=Tryz.zeroValue43
 t25:=Tryz.underlying207
 a25:=Tryz.isAgg207
 z25:=Tryz.sizeOf207
 v25:=Tryz.zeroValue207
 t39:=Tryz.underlying130
 a39:=Tryz.isAgg130
 z39:=Tryz.sizeOf130
 v39:=Tryz.zeroValue130
 t45:=Tryz.underlying283
 a45:=Tryz.isAgg283
 z45:=Tryz.sizeOf283
 v45:=Tryz.zeroValue283
 t46:=Tryz.underlying284
 a46:=Tryz.isAgg284
 z46:=Tryz.sizeOf284
 v46:=Tryz.zeroValue284
 t50:=Tryz.underlying209
 a50:=Tryz.isAgg209
 z50:=Tryz.sizeOf209
 v50:=Tryz.zeroValue209
 t53:=Tryz.underlying92
 a53:=Tryz.isAgg92
 z53:=Tryz.sizeOf92
 v53:=Tryz.zeroValue92
 t55:=Tryz.underlying88
 a55:=Tryz.isAgg88
 z55:=Tryz.sizeOf88
 v55:=Tryz.zeroValue88
 t66:=Tryz.underlying306
 a66:=Tryz.isAgg306
 z66:=Tryz.sizeOf306
 v66:=Tryz.zeroValue306
 t70:=Tryz.underlying309
 a70:=Tryz.isAgg309
 z70:=Tryz.sizeOf309
 v70:=Tryz.zeroValue309
 t76:=Tryz.underlying316
 a76:=Tryz.isAgg316
 z76:=Tryz.sizeOf316
 v76:=Tryz.zeroValue316
 t77:=Tryz.underlying317
 a77:=Tryz.isAgg317
 z77:=Tryz.sizeOf317
 v77:=Tryz.zeroValue317 }
end Go.Proofs
set_option linter.unusedSimpArgs false
namespace Go.Proofs
open Go.RowKit Go.Sort Go.Lib
set_option maxHeartbeats 6400000 in
set_option maxRecDepth 100000 in
theorem Tryz.lg (u : Nat) (xY : u < 18446744073709551616) (w : World) (xX : Lib.TabIs Tryz.prog w "internal/strconv.uint64pow10" .u64 afO) :
 Calls Tryz.prog 206 #[.int .u64 u,.int .i64 10] w fun e w'=>e = .returned (.string ⟨(afF u).toArray⟩)∧∃k os,w'=grow (w.drewN k) os:=by
 have mixed:Tryz.prog.follows .mixedOrders:=by kernel_rfl
 have aBm:∀args w,(callFunc 241 args).run Tryz.prog w = .ok (.enter 241 args) w:=enters_of Tryz.func241 (by kernel_rfl) rfl;have aBn:∀args w,(callFunc 242 args).run Tryz.prog w = .ok (.enter 242 args) w:=enters_of Tryz.func242 (by kernel_rfl) rfl;have aBo:∀args w,(callFunc 243 args).run Tryz.prog w = .ok (.enter 243 args) w:=enters_of Tryz.func243 (by kernel_rfl) rfl;by_cases hs:u<100
 ·have CJ:afv .i64 (u:Int)=u:=by rw[IntKind.wrap_i64];omega
  go_enter Tryz.func206,Tryz.ntmps206
  go_wp2_with (go_at_fn 241;refine(Tryz.internal_strconv_small u hs _).mono ?_;rintro e w' ⟨rfl,rfl⟩)
  go_ret
  exact⟨rfl,0,#[],by simp[World.drewN_zero]⟩
 ·have LY:1≤u:=by omega
  have atd:afB u≤20:=by have:=Lib.numDigits_eq u LY xY;split at this<;>omega
  have hb3:afB u≤24:=by omega
  have CM:Tryz.prog.arrayLen 294=24:=by simp[Program.arrayLen,Tryz.underlying294]
  have aBp:∀W,(Instr.sliceAt 294 (.pointer (some ⟨w.heap.size,0,none⟩)) none (some (.int .i64 (afB u:Int))) none).run Tryz.prog W = .ok (.slice (some ⟨w.heap.size,0,none⟩) (afB u) 24) W:=fun W=>by
   rw[run_sliceAt_array_h W 294 ⟨w.heap.size,0,none⟩ (by simp[Program.arrayLen,Program.elem,Tryz.underlying294]) .i64 (afB u:Int) (by omega) (by rw[CM];omega)]
   go_simp
   all_goals omega
  have W7:=Lib.holds_zero0 w 294 (afB u) (by omega);have N3:=Tryz.internal_strconv_formatBase10 w.heap.size 0 24 u (Array.replicate (afB u) 0) (w.alloc (.cells afK 294)) W7 (by rw[afC];exact Lib.lt_pow_nDigits u) xY (by rw[afC];omega);rw[afC]at N3;have HH0:=Lib.hid W7;clear W7 CM
  go_enter Tryz.func206,Tryz.ntmps206
  go_wp2_with (first
   |(go_at_fn 242;refine(Tryz.internal_strconv_numDigits u LY xY _ (Lib.tabIs_alloc xX _)).mono ?_;rintro e w' ⟨rfl,rfl⟩))
  go_at_fn 243
  refine N3.mono ?_
  rintro e w' ⟨rfl,k,v',dk,rfl,hF⟩
  have CJ:(convert 35 9 (.slice (some ⟨w.heap.size,0,none⟩) (afB u) 24)).run Tryz.prog ((putRow (fun(b:UInt8)=>afM .u8 (b.toNat:Int)) (w.alloc (.cells afK 294)) w.heap.size 0 dk).drewN k) = .ok (.string ⟨(afF u).toArray⟩) ((putRow (fun(b:UInt8)=>afM .u8 (b.toNat:Int)) (w.alloc (.cells afK 294)) w.heap.size 0 dk).drewN k):=by have h:=run_convert_bytes_back (P:=Tryz.prog) ((putRow (fun(b:UInt8)=>afM .u8 (b.toNat:Int)) (w.alloc (.cells afK 294)) w.heap.size 0 dk).drewN k) 35 9 5 ⟨w.heap.size,0,none⟩ 24 (afF u) Tryz.underlying35 Tryz.underlying5 Tryz.underlying9 (fun j hj=>by rw[Lib.row_is_numeral hF j hj,Lib.add_plain,World.cell?_drewN];exact cell?_putRow (fun(b:UInt8)=>afM .u8 (b.toNat:Int)) _ w.heap.size 0 _ dk HH0.out (by rw[hF.size,afC]) j (by rw[hF.size];rw[Lib.decDigits_length]at hj;exact hj));rw[Lib.decDigits_length]at h;exact h
  go_wp2
  go_ret
  obtain⟨os,eo⟩:=Lib.fin_at w (.cells afK 294) dk k 0;exact⟨rfl,k,os,eo⟩
set_option maxRecDepth 100000 in
theorem Tryz.pH (u : Nat) (xY : u < 18446744073709551616) (w : World) (xX : Lib.TabIs Tryz.prog w "internal/strconv.uint64pow10" .u64 afO) :
 Calls Tryz.prog 161 #[.int .u64 u,.int .i64 10] w fun e w'=>e = .returned (.string ⟨(afF u).toArray⟩)∧∃k os,w'=grow (w.drewN k) os:=by
 have e51:∀args w,(callFunc 206 args).run Tryz.prog w = .ok (.enter 206 args) w:=enters_of Tryz.func206 (by kernel_rfl) rfl
 go_enter Tryz.func161,Tryz.ntmps161
 go_wp2_with (go_at_fn 206;refine(Tryz.lg u xY _ xX).mono ?_;rintro e w' ⟨rfl,k,os,rfl⟩)
 go_ret
 exact⟨rfl,k,os,rfl⟩
end Go.Proofs
namespace Go.Proofs
open Go.Shelf Go.RowKit Go.Lib
set_option maxHeartbeats 1000000 in
theorem Tryz.sV(s:ByteArray)(c:UInt8)(w:World)(hs:s.size<4294967281) :
 Calls Tryz.prog 114 #[.string s,.string ⟨#[c]⟩] w fun e w'=>∃(l:List ByteArray)(t:TypeId),e = .returned (.slice (some ⟨w.heap.size,0,none⟩) l.length l.length)∧w'=w.alloc (.cells (l.map Value.string).toArray t)∧l.map (·.data.toList)=AM.bj c s.data.toList:=by
 have mixed:Tryz.prog.follows .mixedOrders:=by kernel_rfl
 have h1:1≤(⟨#[c]⟩:ByteArray).size:=Nat.le_refl 1;have hle:=Lib.countB_le ⟨#[c]⟩ h1 s.size s (Nat.le_refl _);have hlen:=Lib.splitB_all ⟨#[c]⟩ h1 0 _ s rfl;have z':afD s ⟨#[c]⟩=s.data.toList.count c:=Lib.count_one c s.data.toList;have hI:∀(x:ByteArray)(cs:Array Value),x.size≤s.size→Calls Tryz.prog 67 #[.string x,.string ⟨#[c]⟩] (w.alloc (.cells cs 9)) fun e w'=>e = .returned (.int .i64 (Lib.indexB x ⟨#[c]⟩))∧w'=w.alloc (.cells cs 9):=fun x cs hx=>(Tryz.strings_Index_one x c _).mono fun e w' ⟨he,hw⟩=>⟨by rw[he,←Lib.index_one];try rfl,hw⟩;have hC:Calls Tryz.prog 223 #[.string s,.string ⟨#[c]⟩] w fun e w'=>e = .returned (.int .i64 (afD s ⟨#[c]⟩))∧w'=w:=(Tryz.strings_Count_one s c w).mono fun e w' ⟨he,hw⟩=>⟨by rw[he,z'];rfl,hw⟩;have h:=Any.strings_genSplit_core Tryz.HF (by kernel_rfl) s ⟨#[c]⟩ 0 (-1) (afD s ⟨#[c]⟩+1) w hs h1 (Nat.zero_le _) hI hC (by decide) (by decide) (by rw[if_pos (by decide)];omega);rw[Nat.add_sub_cancel,hlen]at h;have e2:Lib.cellsOf (Lib.splitB ⟨#[c]⟩ 0 (afD s ⟨#[c]⟩) s) (afD s ⟨#[c]⟩+1)=((Lib.splitB ⟨#[c]⟩ 0 (afD s ⟨#[c]⟩) s).map Value.string).toArray:=by rw[←hlen];exact Lib.cellsOf_full _
 rw[e2]at h;have hd:(Lib.splitB ⟨#[c]⟩ 0 (afD s ⟨#[c]⟩) s).map (·.data.toList)=AM.bj c s.data.toList:=by rw[Lib.splitB_data,z'];exact AM.vT c _ _ rfl
 change Calls Tryz.prog 176 _ _ _ at h;generalize Lib.splitB ⟨#[c]⟩ 0 (afD s ⟨#[c]⟩) s=l at h hd hlen;rw[←hlen]at h;clear e2 hI hC hle hlen z'
 go_enter Tryz.func114,Tryz.ntmps114
 go_wp2_with (go_at_call 176;refine h.mono ?_;rintro e w' ⟨rfl,hw⟩;rw[hw])
 go_ret
 exact⟨l,_,rfl,rfl,hd⟩
end Go.Proofs
namespace Go.AM
open Go.Proofs Go.RowKit
set_option maxHeartbeats 2000000 in
set_option maxRecDepth 100000 in
theorem zj4(b:Nat)(w:World)(h0:w.cell? ⟨b,0,none⟩=some (.pointer (some ⟨b,0,none⟩))) :
 Calls Tryz.prog 173 #[.pointer (some ⟨b,0,none⟩)] w fun e w'=>e = .returned (.tuple #[])∧w'=w:=by
 have mixed:Tryz.prog.follows .mixedOrders=true:=by kernel_rfl
 obtain⟨j,hj,_⟩:=Option.map_eq_some_iff.1 (show(Tryz.prog.info? 176).map (·.size)=some 2 by kernel_rfl)
 go_enter Tryz.func173,Tryz.ntmps173
 go_wp2
 rw[Lib.run_neq_ptr_same w _ Tryz.underlying174 hj]
 go_wp2
 go_end0
 exact⟨rfl,rfl⟩
set_option maxHeartbeats 2000000 in
set_option maxRecDepth 100000 in
theorem zi7(b:Nat)(w:World)(h0:w.cell? ⟨b,0,none⟩=some (.pointer none))(BK:w.shape? b=some (176,2))(Ly:w.frozen? ⟨b,0,none⟩=false) :
 Calls Tryz.prog 173 #[.pointer (some ⟨b,0,none⟩)] w fun e w'=>e = .returned (.tuple #[])∧w'=w.setCell ⟨b,0,none⟩ (.pointer (some ⟨b,0,none⟩)):=by
 have mixed:Tryz.prog.follows .mixedOrders=true:=by kernel_rfl
 obtain⟨j,hj,hjs⟩:=Option.map_eq_some_iff.1 (show(Tryz.prog.info? 176).map (·.size)=some 2 by kernel_rfl)
 go_enter Tryz.func173,Tryz.ntmps173
 go_wp2
 rw[Lib.run_to_unsafe w ⟨b,0,none⟩ Tryz.underlying174 Tryz.underlying274 hj (by rw[hjs];decide) BK (Nat.zero_lt_succ 1)];simp only[afQ];rw[afP]
 go_wp2
 rw[run_callFunc_extern Tryz.func221 (by kernel_rfl) (by kernel_rfl) (by kernel_rfl) (e:=Extern.AbiNoEscape.same) (by kernel_rfl)];rw[Lib.run_noEscape];simp only[afQ];rw[afP]
 go_wp2
 rw[Lib.run_from_unsafe w ⟨b,0,none⟩ Tryz.underlying274 Tryz.underlying174 hj BK (by kernel_rfl)];simp only[afQ];rw[afP]
 go_wp2
 go_end0
 exact⟨rfl,rfl⟩
theorem znh:jg Tryz.prog (fun _=>True) 173 (.th 176):=by
 intro w b vs _ hh dz h0;have he:Enters Tryz.prog 173:=enters Tryz.func173 (by kernel_rfl) (by decide);rcases h0 with h0|h0
 ·refine zx he ((zi7 b w (by rw[afG hh];exact h0) (by simp[World.shape?,hh,dz]) (by simp[World.frozen?,hh])).mono ?_)
  rintro e w' ⟨rfl,rfl⟩
  refine⟨_,rfl,rfl,.inr ⟨?_,?_⟩⟩
  ·refine⟨rfl,rfl,rfl,by simp[World.setCell],fun k _ hk => ?_⟩;exact Below.heap_setCell _ _ _ _ (fun e=>hk (by simp[e]))
  ·simp[World.setCell,afJ,hh]
 ·refine zx he ((zj4 b w (by rw[afG hh];exact h0)).mono ?_)
  rintro e w' ⟨rfl,rfl⟩
  exact⟨_,rfl,rfl,.inl rfl⟩
set_option maxHeartbeats 2000000 in
set_option maxRecDepth 100000 in
theorem HJ(b g cap:Nat)(p:Value)(cur:Array Value)(l:List UInt8)(w:World)(h0:l≠[])(hl:l.length≤ai)(W6:w.heap[b]? = some (.cells #[p,.slice (some ⟨g,0,none⟩) l.length cap] 176 (0,0)))
 (hg:w.heap[g]? = some (.cells cur 5 (0,0))) (EO:l.length≤cap) (dy:cur.size=cap) (xH:cur.toList.take l.length=Lib.byteCells l) :
 Calls Tryz.prog 113 #[.pointer (some ⟨b,0,none⟩)] w fun e w'=>e = .returned (.string ⟨l.toArray⟩)∧w'=w.drew.freeze ⟨g,0,none⟩ l.length:=by
 have mixed:Tryz.prog.follows .mixedOrders=true:=by kernel_rfl
 have k7:l.length≠0:=by simpa using h0
 have c1:w.drew.cell? ⟨b,1,none⟩=some (.slice (some ⟨g,0,none⟩) l.length cap):=by have:w.drew.heap[b]? = some (.cells #[p,.slice (some ⟨g,0,none⟩) l.length cap] 176 (0,0)):=W6;rw[afG this];rfl
 have hSD:(Builtin.unsafeSliceData_ #[35] 239 #[.slice (some ⟨g,0,none⟩) l.length cap]).run Tryz.prog w.drew = .ok (.pointer (some ⟨g,0,none⟩)) w.drew:=Lib.run_unsafeSliceData_row _ _ _ _ _ _ (by omega);have hUS:(Builtin.unsafeString_ #[239,3] 9 #[.pointer (some ⟨g,0,none⟩),.int .i64 l.length]).run Tryz.prog w.drew = .ok (.string ⟨l.toArray⟩) (w.drew.freeze ⟨g,0,none⟩ l.length):=by refine Lib.run_unsafeString_row w.drew 239 3 9 5 Tryz.underlying239 (by kernel_rfl) g cur.size (by have pb:w.drew.heap[g]? = some (.cells cur 5 (0,0)):=hg;simp[World.shape?,pb]) l h0 (by omega) (by rw[ai]at hl;omega) ?_;intro j x hx;have pb:w.drew.heap[g]? = some (.cells cur 5 (0,0)):=hg;have hj:=(List.getElem?_eq_some_iff.1 hx).1;rw[show(⟨g,0,none⟩:Addr).add j=⟨g,j,none⟩from by by_cases E2:j=0<;>simp[Addr.add,E2],afG pb,←Array.getElem?_toList];have e:=congrArg (fun q=>q[j]?) xH;simp only[List.getElem?_take,hj,if_true,Lib.byteCells,List.getElem?_map,hx,Option.map_some]at e;simpa using e
 go_enter Tryz.func113,Tryz.ntmps113
 go_wp2
 go_region_o
 all_goals (go_wp2;go_ret;exact⟨rfl,rfl⟩)
theorem zpi(w:World)(g n:Nat)(k:Nat)(hk:k≠g):(w.freeze ⟨g,0,none⟩ n).heap[k]? = w.heap[k]?:=by
 unfold World.freeze;split
 ·rfl
 ·simp[afJ,Ne.symm hk]
theorem zpj(w:World)(g n o:Nat):(w.freeze ⟨g,0,none⟩ n).cell? ⟨g,o,none⟩=w.cell? ⟨g,o,none⟩:=by
 unfold World.freeze;split
 ·rfl
 ·simp only[World.cell?,afJ,if_true];cases w.heap[g]? with
  |none=>rfl
  |some ob=>cases ob<;>rfl
theorem zpk(w:World)(g n:Nat):(w.freeze ⟨g,0,none⟩ n).heap.size=w.heap.size∧(w.freeze ⟨g,0,none⟩ n).os=w.os∧(w.freeze ⟨g,0,none⟩ n).tape=w.tape∧(w.freeze ⟨g,0,none⟩ n).output=w.output:=by unfold World.freeze;split<;>simp
theorem zr6:jg Tryz.prog (fun _=>True) 113 (.qu 176 5):=by
 intro w b q cap vs cur l _ c_ hl hh dz h1 hq sE dy ht;have he:Enters Tryz.prog 113:=enters Tryz.func113 (by kernel_rfl) (by decide);obtain⟨p,iz⟩:∃p,vs=#[p,.slice (some ⟨q,0,none⟩) l.length cap]:=by
  refine⟨vs[0]'(by omega),?_⟩;apply Array.ext
  ·simp[dz]
  ·intro i F8 qB
   match i,F8 with
   |0,_=>rfl
   |1,_ =>have:=(Array.getElem?_eq_some_iff.1 h1).2;simpa using this
   |i+2,h=>omega
 subst iz;refine zx he ((HJ b q cap p cur l w c_ hl hh hq sE dy ht).mono ?_)
 rintro e w' ⟨rfl,rfl⟩
 obtain⟨f1,f2,f3,f4⟩:=zpk w.drew q l.length;refine⟨_,rfl,rfl,⟨f2,f3,f4,by rw[f1];exact Nat.le_refl _,fun k _ hk=>zpi w.drew q l.length k (fun e=>hk (by rw[e]))⟩,fun o=>zpj w.drew q l.length o⟩
end Go.AM
