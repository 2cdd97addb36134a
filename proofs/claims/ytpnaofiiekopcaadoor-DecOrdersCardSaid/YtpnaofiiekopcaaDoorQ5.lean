/- Part 5 of a proof by the abstract machine. -/
import Derived.Test.YtpnaofiiekopcaaDoorQ4
import Derived.Shelf.Strings.Builder1
import Derived.Shelf.Strings.Builder2
import Derived.Shelf.Strings.Trim
import Derived.Shelf.Small.Utf8
import Derived.Shelf.Small.Strs
import Derived.Shelf.Small.Wraps
import Derived.Shelf.Strings.BuilderF
import Derived.Shelf.Strings.BuilderK
import Derived.Shelf.Strings.Builder2Cap
import Derived.Shelf.Strconv.Itoa0
import Derived.Shelf.Strconv.Itoa1
import Derived.Shelf.LaysM
import Derived.Shelf.Strconv.Itoa2
import Derived.Shelf.Strings.Search1
import Derived.Shelf.Strings.Search2
import Derived.Shelf.Strings.Cut
import Derived.Shelf.Strings.Shaped
import Derived.Shelf.Strings.Prefix
import Derived.Shelf.Unicode.Decode
import Derived.Shelf.Strings.Runes
import Derived.Shelf.Strings.AsciiSet
import Derived.Shelf.Bits.Mul64
import Derived.Shelf.Strings.Repeat
import Derived.Shelf.Unicode.DecodeSlow
import Derived.Shelf.Unicode.DecodeAny
import Derived.Shelf.Unicode.DecodeLast
import Derived.Shelf.Strings.BuilderCap
import Derived.Test.YtpnaofiiekopcaaDoorProg
import Derived.Shelf.Strconv.Itoa3
import Derived.Lib.AppendIntMem
import Derived.Lib.ItoaMem
import Derived.Lib.Walk
import Derived.WalkKit
import Derived.BigCall
import Derived.BigGuard
import Derived.KernelRfl
import Derived.Test.YtpnaofiiekopcaaDoorRows
import Derived.Shelf.Spec.BitsCarry
import Derived.Lib.ItoaNum
import Derived.Lib.ItoaLen
import Derived.Lib.AtoiAll
import Derived.Lib.TrimByte
set_option linter.unusedVariables false
namespace Go.AM
noncomputable def F.law03_DecOrders.L27.step {X : Type} (n : Nat) (rec : Int → Int → Bool → Int → Int → Bool → Int → Int → Bool → Int → Int → Bool → Int → Int → Bool → Int → Int → Bool → Int → Int → Int → Int → Int → Int → Int → Int → Int → Int → Int → Option X) (k8 : Int → Bool → Int → Int → Bool → Int → Int → Bool → Int → Int → Bool → Int → Int → Bool → Int → Int → Bool → Int → Int → Int → Int → Int → Int → Int → Int → Int → Int → Int → Option X) (kr : Bool → Bool → Int → Int → Bool → Int → Int → Bool → Int → Int → Bool → Int → Int → Bool → Int → Int → Bool → Int → Int → Int → Int → Int → Int → Int → Int → Int → Int → Int → Option X) (v14 : Int) (v15 : Int) (p0 : Bool) (p1 : Int) (p2 : Int) (p3 : Bool) (p4 : Int) (p5 : Int) (p6 : Bool) (p7 : Int) (p8 : Int) (q0 : Bool) (q1 : Int) (q2 : Int) (q3 : Bool) (q4 : Int) (q5 : Int) (q6 : Bool) (q7 : Int) (q8 : Int) (c0 : Int) (c1 : Int) (c2 : Int) (c3 : Int) (c4 : Int) (c5 : Int) (c6 : Int) (c7 : Int) (c8 : Int) : Option X :=
 bif decide (v15 < (3 : Int)) then
 bif v14 == (0 : Int) then
 bif v15 == (0 : Int) then
 bif v15 == (0 : Int) then
 bif v14 == (0 : Int) then
 bif !(c0 == (IntKind.wrap .i64 (0 - c0))) then
 kr false p0 p1 p2 p3 p4 p5 p6 p7 p8 q0 q1 q2 q3 q4 q5 q6 q7 q8 c0 c1 c2 c3 c4 c5 c6 c7 c8
 else
 F.law03_DecOrders.C31 n
 (fun e2 r0 r1 r2 r3 r4 r5 r6 r7 r8 s0 s1 s2 s3 s4 s5 s6 s7 s8 t0 t1 t2 t3 t4 t5 t6 t7 t8 =>
 kr e2 r0 r1 r2 r3 r4 r5 r6 r7 r8 s0 s1 s2 s3 s4 s5 s6 s7 s8 t0 t1 t2 t3 t4 t5 t6 t7 t8)
 (fun e14 e15 r0 r1 r2 r3 r4 r5 r6 r7 r8 s0 s1 s2 s3 s4 s5 s6 s7 s8 t0 t1 t2 t3 t4 t5 t6 t7 t8 =>
 rec e14 (IntKind.wrap .i64 (e15 + (1 : Int))) r0 r1 r2 r3 r4 r5 r6 r7 r8 s0 s1 s2 s3 s4 s5 s6 s7 s8 t0 t1 t2 t3 t4 t5 t6 t7 t8) v14 v15 p0 p1 p2 p3 p4 p5 p6 p7 p8 q0 q1 q2 q3 q4 q5 q6 q7 q8 c0 c1 c2 c3 c4 c5 c6 c7 c8
 else
 bif v14 == (1 : Int) then
 bif !(c0 == (IntKind.wrap .i64 (0 - c1))) then
 kr false p0 p1 p2 p3 p4 p5 p6 p7 p8 q0 q1 q2 q3 q4 q5 q6 q7 q8 c0 c1 c2 c3 c4 c5 c6 c7 c8
 else
 F.law03_DecOrders.C31 n
 (fun e2 r0 r1 r2 r3 r4 r5 r6 r7 r8 s0 s1 s2 s3 s4 s5 s6 s7 s8 t0 t1 t2 t3 t4 t5 t6 t7 t8 =>
 kr e2 r0 r1 r2 r3 r4 r5 r6 r7 r8 s0 s1 s2 s3 s4 s5 s6 s7 s8 t0 t1 t2 t3 t4 t5 t6 t7 t8)
 (fun e14 e15 r0 r1 r2 r3 r4 r5 r6 r7 r8 s0 s1 s2 s3 s4 s5 s6 s7 s8 t0 t1 t2 t3 t4 t5 t6 t7 t8 =>
 rec e14 (IntKind.wrap .i64 (e15 + (1 : Int))) r0 r1 r2 r3 r4 r5 r6 r7 r8 s0 s1 s2 s3 s4 s5 s6 s7 s8 t0 t1 t2 t3 t4 t5 t6 t7 t8) v14 v15 p0 p1 p2 p3 p4 p5 p6 p7 p8 q0 q1 q2 q3 q4 q5 q6 q7 q8 c0 c1 c2 c3 c4 c5 c6 c7 c8
 else
 bif v14 == (2 : Int) then
 bif !(c0 == (IntKind.wrap .i64 (0 - c2))) then
 kr false p0 p1 p2 p3 p4 p5 p6 p7 p8 q0 q1 q2 q3 q4 q5 q6 q7 q8 c0 c1 c2 c3 c4 c5 c6 c7 c8
 else
 F.law03_DecOrders.C31 n
 (fun e2 r0 r1 r2 r3 r4 r5 r6 r7 r8 s0 s1 s2 s3 s4 s5 s6 s7 s8 t0 t1 t2 t3 t4 t5 t6 t7 t8 =>
 kr e2 r0 r1 r2 r3 r4 r5 r6 r7 r8 s0 s1 s2 s3 s4 s5 s6 s7 s8 t0 t1 t2 t3 t4 t5 t6 t7 t8)
 (fun e14 e15 r0 r1 r2 r3 r4 r5 r6 r7 r8 s0 s1 s2 s3 s4 s5 s6 s7 s8 t0 t1 t2 t3 t4 t5 t6 t7 t8 =>
 rec e14 (IntKind.wrap .i64 (e15 + (1 : Int))) r0 r1 r2 r3 r4 r5 r6 r7 r8 s0 s1 s2 s3 s4 s5 s6 s7 s8 t0 t1 t2 t3 t4 t5 t6 t7 t8) v14 v15 p0 p1 p2 p3 p4 p5 p6 p7 p8 q0 q1 q2 q3 q4 q5 q6 q7 q8 c0 c1 c2 c3 c4 c5 c6 c7 c8
 else
 none
 else
 bif v15 == (1 : Int) then
 bif v14 == (0 : Int) then
 bif !(c0 == (IntKind.wrap .i64 (0 - c3))) then
 kr false p0 p1 p2 p3 p4 p5 p6 p7 p8 q0 q1 q2 q3 q4 q5 q6 q7 q8 c0 c1 c2 c3 c4 c5 c6 c7 c8
 else
 F.law03_DecOrders.C31 n
 (fun e2 r0 r1 r2 r3 r4 r5 r6 r7 r8 s0 s1 s2 s3 s4 s5 s6 s7 s8 t0 t1 t2 t3 t4 t5 t6 t7 t8 =>
 kr e2 r0 r1 r2 r3 r4 r5 r6 r7 r8 s0 s1 s2 s3 s4 s5 s6 s7 s8 t0 t1 t2 t3 t4 t5 t6 t7 t8)
 (fun e14 e15 r0 r1 r2 r3 r4 r5 r6 r7 r8 s0 s1 s2 s3 s4 s5 s6 s7 s8 t0 t1 t2 t3 t4 t5 t6 t7 t8 =>
 rec e14 (IntKind.wrap .i64 (e15 + (1 : Int))) r0 r1 r2 r3 r4 r5 r6 r7 r8 s0 s1 s2 s3 s4 s5 s6 s7 s8 t0 t1 t2 t3 t4 t5 t6 t7 t8) v14 v15 p0 p1 p2 p3 p4 p5 p6 p7 p8 q0 q1 q2 q3 q4 q5 q6 q7 q8 c0 c1 c2 c3 c4 c5 c6 c7 c8
 else
 bif v14 == (1 : Int) then
 bif !(c0 == (IntKind.wrap .i64 (0 - c4))) then
 kr false p0 p1 p2 p3 p4 p5 p6 p7 p8 q0 q1 q2 q3 q4 q5 q6 q7 q8 c0 c1 c2 c3 c4 c5 c6 c7 c8
 else
 F.law03_DecOrders.C31 n
 (fun e2 r0 r1 r2 r3 r4 r5 r6 r7 r8 s0 s1 s2 s3 s4 s5 s6 s7 s8 t0 t1 t2 t3 t4 t5 t6 t7 t8 =>
 kr e2 r0 r1 r2 r3 r4 r5 r6 r7 r8 s0 s1 s2 s3 s4 s5 s6 s7 s8 t0 t1 t2 t3 t4 t5 t6 t7 t8)
 (fun e14 e15 r0 r1 r2 r3 r4 r5 r6 r7 r8 s0 s1 s2 s3 s4 s5 s6 s7 s8 t0 t1 t2 t3 t4 t5 t6 t7 t8 =>
 rec e14 (IntKind.wrap .i64 (e15 + (1 : Int))) r0 r1 r2 r3 r4 r5 r6 r7 r8 s0 s1 s2 s3 s4 s5 s6 s7 s8 t0 t1 t2 t3 t4 t5 t6 t7 t8) v14 v15 p0 p1 p2 p3 p4 p5 p6 p7 p8 q0 q1 q2 q3 q4 q5 q6 q7 q8 c0 c1 c2 c3 c4 c5 c6 c7 c8
 else
 bif v14 == (2 : Int) then
 bif !(c0 == (IntKind.wrap .i64 (0 - c5))) then
 kr false p0 p1 p2 p3 p4 p5 p6 p7 p8 q0 q1 q2 q3 q4 q5 q6 q7 q8 c0 c1 c2 c3 c4 c5 c6 c7 c8
 else
 F.law03_DecOrders.C31 n
 (fun e2 r0 r1 r2 r3 r4 r5 r6 r7 r8 s0 s1 s2 s3 s4 s5 s6 s7 s8 t0 t1 t2 t3 t4 t5 t6 t7 t8 =>
 kr e2 r0 r1 r2 r3 r4 r5 r6 r7 r8 s0 s1 s2 s3 s4 s5 s6 s7 s8 t0 t1 t2 t3 t4 t5 t6 t7 t8)
 (fun e14 e15 r0 r1 r2 r3 r4 r5 r6 r7 r8 s0 s1 s2 s3 s4 s5 s6 s7 s8 t0 t1 t2 t3 t4 t5 t6 t7 t8 =>
 rec e14 (IntKind.wrap .i64 (e15 + (1 : Int))) r0 r1 r2 r3 r4 r5 r6 r7 r8 s0 s1 s2 s3 s4 s5 s6 s7 s8 t0 t1 t2 t3 t4 t5 t6 t7 t8) v14 v15 p0 p1 p2 p3 p4 p5 p6 p7 p8 q0 q1 q2 q3 q4 q5 q6 q7 q8 c0 c1 c2 c3 c4 c5 c6 c7 c8
 else
 none
 else
 bif v15 == (2 : Int) then
 bif v14 == (0 : Int) then
 bif !(c0 == (IntKind.wrap .i64 (0 - c6))) then
 kr false p0 p1 p2 p3 p4 p5 p6 p7 p8 q0 q1 q2 q3 q4 q5 q6 q7 q8 c0 c1 c2 c3 c4 c5 c6 c7 c8
 else
 F.law03_DecOrders.C31 n
 (fun e2 r0 r1 r2 r3 r4 r5 r6 r7 r8 s0 s1 s2 s3 s4 s5 s6 s7 s8 t0 t1 t2 t3 t4 t5 t6 t7 t8 =>
 kr e2 r0 r1 r2 r3 r4 r5 r6 r7 r8 s0 s1 s2 s3 s4 s5 s6 s7 s8 t0 t1 t2 t3 t4 t5 t6 t7 t8)
 (fun e14 e15 r0 r1 r2 r3 r4 r5 r6 r7 r8 s0 s1 s2 s3 s4 s5 s6 s7 s8 t0 t1 t2 t3 t4 t5 t6 t7 t8 =>
 rec e14 (IntKind.wrap .i64 (e15 + (1 : Int))) r0 r1 r2 r3 r4 r5 r6 r7 r8 s0 s1 s2 s3 s4 s5 s6 s7 s8 t0 t1 t2 t3 t4 t5 t6 t7 t8) v14 v15 p0 p1 p2 p3 p4 p5 p6 p7 p8 q0 q1 q2 q3 q4 q5 q6 q7 q8 c0 c1 c2 c3 c4 c5 c6 c7 c8
 else
 bif v14 == (1 : Int) then
 bif !(c0 == (IntKind.wrap .i64 (0 - c7))) then
 kr false p0 p1 p2 p3 p4 p5 p6 p7 p8 q0 q1 q2 q3 q4 q5 q6 q7 q8 c0 c1 c2 c3 c4 c5 c6 c7 c8
 else
 F.law03_DecOrders.C31 n
 (fun e2 r0 r1 r2 r3 r4 r5 r6 r7 r8 s0 s1 s2 s3 s4 s5 s6 s7 s8 t0 t1 t2 t3 t4 t5 t6 t7 t8 =>
 kr e2 r0 r1 r2 r3 r4 r5 r6 r7 r8 s0 s1 s2 s3 s4 s5 s6 s7 s8 t0 t1 t2 t3 t4 t5 t6 t7 t8)
 (fun e14 e15 r0 r1 r2 r3 r4 r5 r6 r7 r8 s0 s1 s2 s3 s4 s5 s6 s7 s8 t0 t1 t2 t3 t4 t5 t6 t7 t8 =>
 rec e14 (IntKind.wrap .i64 (e15 + (1 : Int))) r0 r1 r2 r3 r4 r5 r6 r7 r8 s0 s1 s2 s3 s4 s5 s6 s7 s8 t0 t1 t2 t3 t4 t5 t6 t7 t8) v14 v15 p0 p1 p2 p3 p4 p5 p6 p7 p8 q0 q1 q2 q3 q4 q5 q6 q7 q8 c0 c1 c2 c3 c4 c5 c6 c7 c8
 else
 bif v14 == (2 : Int) then
 bif !(c0 == (IntKind.wrap .i64 (0 - c8))) then
 kr false p0 p1 p2 p3 p4 p5 p6 p7 p8 q0 q1 q2 q3 q4 q5 q6 q7 q8 c0 c1 c2 c3 c4 c5 c6 c7 c8
 else
 F.law03_DecOrders.C31 n
 (fun e2 r0 r1 r2 r3 r4 r5 r6 r7 r8 s0 s1 s2 s3 s4 s5 s6 s7 s8 t0 t1 t2 t3 t4 t5 t6 t7 t8 =>
 kr e2 r0 r1 r2 r3 r4 r5 r6 r7 r8 s0 s1 s2 s3 s4 s5 s6 s7 s8 t0 t1 t2 t3 t4 t5 t6 t7 t8)
 (fun e14 e15 r0 r1 r2 r3 r4 r5 r6 r7 r8 s0 s1 s2 s3 s4 s5 s6 s7 s8 t0 t1 t2 t3 t4 t5 t6 t7 t8 =>
 rec e14 (IntKind.wrap .i64 (e15 + (1 : Int))) r0 r1 r2 r3 r4 r5 r6 r7 r8 s0 s1 s2 s3 s4 s5 s6 s7 s8 t0 t1 t2 t3 t4 t5 t6 t7 t8) v14 v15 p0 p1 p2 p3 p4 p5 p6 p7 p8 q0 q1 q2 q3 q4 q5 q6 q7 q8 c0 c1 c2 c3 c4 c5 c6 c7 c8
 else
 none
 else
 none
 else
 bif v15 == (1 : Int) then
 bif v15 == (0 : Int) then
 bif v14 == (0 : Int) then
 bif !(c1 == (IntKind.wrap .i64 (0 - c0))) then
 kr false p0 p1 p2 p3 p4 p5 p6 p7 p8 q0 q1 q2 q3 q4 q5 q6 q7 q8 c0 c1 c2 c3 c4 c5 c6 c7 c8
 else
 F.law03_DecOrders.C31 n
 (fun e2 r0 r1 r2 r3 r4 r5 r6 r7 r8 s0 s1 s2 s3 s4 s5 s6 s7 s8 t0 t1 t2 t3 t4 t5 t6 t7 t8 =>
 kr e2 r0 r1 r2 r3 r4 r5 r6 r7 r8 s0 s1 s2 s3 s4 s5 s6 s7 s8 t0 t1 t2 t3 t4 t5 t6 t7 t8)
 (fun e14 e15 r0 r1 r2 r3 r4 r5 r6 r7 r8 s0 s1 s2 s3 s4 s5 s6 s7 s8 t0 t1 t2 t3 t4 t5 t6 t7 t8 =>
 rec e14 (IntKind.wrap .i64 (e15 + (1 : Int))) r0 r1 r2 r3 r4 r5 r6 r7 r8 s0 s1 s2 s3 s4 s5 s6 s7 s8 t0 t1 t2 t3 t4 t5 t6 t7 t8) v14 v15 p0 p1 p2 p3 p4 p5 p6 p7 p8 q0 q1 q2 q3 q4 q5 q6 q7 q8 c0 c1 c2 c3 c4 c5 c6 c7 c8
 else
 bif v14 == (1 : Int) then
 bif !(c1 == (IntKind.wrap .i64 (0 - c1))) then
 kr false p0 p1 p2 p3 p4 p5 p6 p7 p8 q0 q1 q2 q3 q4 q5 q6 q7 q8 c0 c1 c2 c3 c4 c5 c6 c7 c8
 else
 F.law03_DecOrders.C31 n
 (fun e2 r0 r1 r2 r3 r4 r5 r6 r7 r8 s0 s1 s2 s3 s4 s5 s6 s7 s8 t0 t1 t2 t3 t4 t5 t6 t7 t8 =>
 kr e2 r0 r1 r2 r3 r4 r5 r6 r7 r8 s0 s1 s2 s3 s4 s5 s6 s7 s8 t0 t1 t2 t3 t4 t5 t6 t7 t8)
 (fun e14 e15 r0 r1 r2 r3 r4 r5 r6 r7 r8 s0 s1 s2 s3 s4 s5 s6 s7 s8 t0 t1 t2 t3 t4 t5 t6 t7 t8 =>
 rec e14 (IntKind.wrap .i64 (e15 + (1 : Int))) r0 r1 r2 r3 r4 r5 r6 r7 r8 s0 s1 s2 s3 s4 s5 s6 s7 s8 t0 t1 t2 t3 t4 t5 t6 t7 t8) v14 v15 p0 p1 p2 p3 p4 p5 p6 p7 p8 q0 q1 q2 q3 q4 q5 q6 q7 q8 c0 c1 c2 c3 c4 c5 c6 c7 c8
 else
 bif v14 == (2 : Int) then
 bif !(c1 == (IntKind.wrap .i64 (0 - c2))) then
 kr false p0 p1 p2 p3 p4 p5 p6 p7 p8 q0 q1 q2 q3 q4 q5 q6 q7 q8 c0 c1 c2 c3 c4 c5 c6 c7 c8
 else
 F.law03_DecOrders.C31 n
 (fun e2 r0 r1 r2 r3 r4 r5 r6 r7 r8 s0 s1 s2 s3 s4 s5 s6 s7 s8 t0 t1 t2 t3 t4 t5 t6 t7 t8 =>
 kr e2 r0 r1 r2 r3 r4 r5 r6 r7 r8 s0 s1 s2 s3 s4 s5 s6 s7 s8 t0 t1 t2 t3 t4 t5 t6 t7 t8)
 (fun e14 e15 r0 r1 r2 r3 r4 r5 r6 r7 r8 s0 s1 s2 s3 s4 s5 s6 s7 s8 t0 t1 t2 t3 t4 t5 t6 t7 t8 =>
 rec e14 (IntKind.wrap .i64 (e15 + (1 : Int))) r0 r1 r2 r3 r4 r5 r6 r7 r8 s0 s1 s2 s3 s4 s5 s6 s7 s8 t0 t1 t2 t3 t4 t5 t6 t7 t8) v14 v15 p0 p1 p2 p3 p4 p5 p6 p7 p8 q0 q1 q2 q3 q4 q5 q6 q7 q8 c0 c1 c2 c3 c4 c5 c6 c7 c8
 else
 none
 else
 bif v15 == (1 : Int) then
 bif v14 == (0 : Int) then
 bif !(c1 == (IntKind.wrap .i64 (0 - c3))) then
 kr false p0 p1 p2 p3 p4 p5 p6 p7 p8 q0 q1 q2 q3 q4 q5 q6 q7 q8 c0 c1 c2 c3 c4 c5 c6 c7 c8
 else
 F.law03_DecOrders.C31 n
 (fun e2 r0 r1 r2 r3 r4 r5 r6 r7 r8 s0 s1 s2 s3 s4 s5 s6 s7 s8 t0 t1 t2 t3 t4 t5 t6 t7 t8 =>
 kr e2 r0 r1 r2 r3 r4 r5 r6 r7 r8 s0 s1 s2 s3 s4 s5 s6 s7 s8 t0 t1 t2 t3 t4 t5 t6 t7 t8)
 (fun e14 e15 r0 r1 r2 r3 r4 r5 r6 r7 r8 s0 s1 s2 s3 s4 s5 s6 s7 s8 t0 t1 t2 t3 t4 t5 t6 t7 t8 =>
 rec e14 (IntKind.wrap .i64 (e15 + (1 : Int))) r0 r1 r2 r3 r4 r5 r6 r7 r8 s0 s1 s2 s3 s4 s5 s6 s7 s8 t0 t1 t2 t3 t4 t5 t6 t7 t8) v14 v15 p0 p1 p2 p3 p4 p5 p6 p7 p8 q0 q1 q2 q3 q4 q5 q6 q7 q8 c0 c1 c2 c3 c4 c5 c6 c7 c8
 else
 bif v14 == (1 : Int) then
 bif !(c1 == (IntKind.wrap .i64 (0 - c4))) then
 kr false p0 p1 p2 p3 p4 p5 p6 p7 p8 q0 q1 q2 q3 q4 q5 q6 q7 q8 c0 c1 c2 c3 c4 c5 c6 c7 c8
 else
 F.law03_DecOrders.C31 n
 (fun e2 r0 r1 r2 r3 r4 r5 r6 r7 r8 s0 s1 s2 s3 s4 s5 s6 s7 s8 t0 t1 t2 t3 t4 t5 t6 t7 t8 =>
 kr e2 r0 r1 r2 r3 r4 r5 r6 r7 r8 s0 s1 s2 s3 s4 s5 s6 s7 s8 t0 t1 t2 t3 t4 t5 t6 t7 t8)
 (fun e14 e15 r0 r1 r2 r3 r4 r5 r6 r7 r8 s0 s1 s2 s3 s4 s5 s6 s7 s8 t0 t1 t2 t3 t4 t5 t6 t7 t8 =>
 rec e14 (IntKind.wrap .i64 (e15 + (1 : Int))) r0 r1 r2 r3 r4 r5 r6 r7 r8 s0 s1 s2 s3 s4 s5 s6 s7 s8 t0 t1 t2 t3 t4 t5 t6 t7 t8) v14 v15 p0 p1 p2 p3 p4 p5 p6 p7 p8 q0 q1 q2 q3 q4 q5 q6 q7 q8 c0 c1 c2 c3 c4 c5 c6 c7 c8
 else
 bif v14 == (2 : Int) then
 bif !(c1 == (IntKind.wrap .i64 (0 - c5))) then
 kr false p0 p1 p2 p3 p4 p5 p6 p7 p8 q0 q1 q2 q3 q4 q5 q6 q7 q8 c0 c1 c2 c3 c4 c5 c6 c7 c8
 else
 F.law03_DecOrders.C31 n
 (fun e2 r0 r1 r2 r3 r4 r5 r6 r7 r8 s0 s1 s2 s3 s4 s5 s6 s7 s8 t0 t1 t2 t3 t4 t5 t6 t7 t8 =>
 kr e2 r0 r1 r2 r3 r4 r5 r6 r7 r8 s0 s1 s2 s3 s4 s5 s6 s7 s8 t0 t1 t2 t3 t4 t5 t6 t7 t8)
 (fun e14 e15 r0 r1 r2 r3 r4 r5 r6 r7 r8 s0 s1 s2 s3 s4 s5 s6 s7 s8 t0 t1 t2 t3 t4 t5 t6 t7 t8 =>
 rec e14 (IntKind.wrap .i64 (e15 + (1 : Int))) r0 r1 r2 r3 r4 r5 r6 r7 r8 s0 s1 s2 s3 s4 s5 s6 s7 s8 t0 t1 t2 t3 t4 t5 t6 t7 t8) v14 v15 p0 p1 p2 p3 p4 p5 p6 p7 p8 q0 q1 q2 q3 q4 q5 q6 q7 q8 c0 c1 c2 c3 c4 c5 c6 c7 c8
 else
 none
 else
 bif v15 == (2 : Int) then
 bif v14 == (0 : Int) then
 bif !(c1 == (IntKind.wrap .i64 (0 - c6))) then
 kr false p0 p1 p2 p3 p4 p5 p6 p7 p8 q0 q1 q2 q3 q4 q5 q6 q7 q8 c0 c1 c2 c3 c4 c5 c6 c7 c8
 else
 F.law03_DecOrders.C31 n
 (fun e2 r0 r1 r2 r3 r4 r5 r6 r7 r8 s0 s1 s2 s3 s4 s5 s6 s7 s8 t0 t1 t2 t3 t4 t5 t6 t7 t8 =>
 kr e2 r0 r1 r2 r3 r4 r5 r6 r7 r8 s0 s1 s2 s3 s4 s5 s6 s7 s8 t0 t1 t2 t3 t4 t5 t6 t7 t8)
 (fun e14 e15 r0 r1 r2 r3 r4 r5 r6 r7 r8 s0 s1 s2 s3 s4 s5 s6 s7 s8 t0 t1 t2 t3 t4 t5 t6 t7 t8 =>
 rec e14 (IntKind.wrap .i64 (e15 + (1 : Int))) r0 r1 r2 r3 r4 r5 r6 r7 r8 s0 s1 s2 s3 s4 s5 s6 s7 s8 t0 t1 t2 t3 t4 t5 t6 t7 t8) v14 v15 p0 p1 p2 p3 p4 p5 p6 p7 p8 q0 q1 q2 q3 q4 q5 q6 q7 q8 c0 c1 c2 c3 c4 c5 c6 c7 c8
 else
 bif v14 == (1 : Int) then
 bif !(c1 == (IntKind.wrap .i64 (0 - c7))) then
 kr false p0 p1 p2 p3 p4 p5 p6 p7 p8 q0 q1 q2 q3 q4 q5 q6 q7 q8 c0 c1 c2 c3 c4 c5 c6 c7 c8
 else
 F.law03_DecOrders.C31 n
 (fun e2 r0 r1 r2 r3 r4 r5 r6 r7 r8 s0 s1 s2 s3 s4 s5 s6 s7 s8 t0 t1 t2 t3 t4 t5 t6 t7 t8 =>
 kr e2 r0 r1 r2 r3 r4 r5 r6 r7 r8 s0 s1 s2 s3 s4 s5 s6 s7 s8 t0 t1 t2 t3 t4 t5 t6 t7 t8)
 (fun e14 e15 r0 r1 r2 r3 r4 r5 r6 r7 r8 s0 s1 s2 s3 s4 s5 s6 s7 s8 t0 t1 t2 t3 t4 t5 t6 t7 t8 =>
 rec e14 (IntKind.wrap .i64 (e15 + (1 : Int))) r0 r1 r2 r3 r4 r5 r6 r7 r8 s0 s1 s2 s3 s4 s5 s6 s7 s8 t0 t1 t2 t3 t4 t5 t6 t7 t8) v14 v15 p0 p1 p2 p3 p4 p5 p6 p7 p8 q0 q1 q2 q3 q4 q5 q6 q7 q8 c0 c1 c2 c3 c4 c5 c6 c7 c8
 else
 bif v14 == (2 : Int) then
 bif !(c1 == (IntKind.wrap .i64 (0 - c8))) then
 kr false p0 p1 p2 p3 p4 p5 p6 p7 p8 q0 q1 q2 q3 q4 q5 q6 q7 q8 c0 c1 c2 c3 c4 c5 c6 c7 c8
 else
 F.law03_DecOrders.C31 n
 (fun e2 r0 r1 r2 r3 r4 r5 r6 r7 r8 s0 s1 s2 s3 s4 s5 s6 s7 s8 t0 t1 t2 t3 t4 t5 t6 t7 t8 =>
 kr e2 r0 r1 r2 r3 r4 r5 r6 r7 r8 s0 s1 s2 s3 s4 s5 s6 s7 s8 t0 t1 t2 t3 t4 t5 t6 t7 t8)
 (fun e14 e15 r0 r1 r2 r3 r4 r5 r6 r7 r8 s0 s1 s2 s3 s4 s5 s6 s7 s8 t0 t1 t2 t3 t4 t5 t6 t7 t8 =>
 rec e14 (IntKind.wrap .i64 (e15 + (1 : Int))) r0 r1 r2 r3 r4 r5 r6 r7 r8 s0 s1 s2 s3 s4 s5 s6 s7 s8 t0 t1 t2 t3 t4 t5 t6 t7 t8) v14 v15 p0 p1 p2 p3 p4 p5 p6 p7 p8 q0 q1 q2 q3 q4 q5 q6 q7 q8 c0 c1 c2 c3 c4 c5 c6 c7 c8
 else
 none
 else
 none
 else
 bif v15 == (2 : Int) then
 bif v15 == (0 : Int) then
 bif v14 == (0 : Int) then
 bif !(c2 == (IntKind.wrap .i64 (0 - c0))) then
 kr false p0 p1 p2 p3 p4 p5 p6 p7 p8 q0 q1 q2 q3 q4 q5 q6 q7 q8 c0 c1 c2 c3 c4 c5 c6 c7 c8
 else
 F.law03_DecOrders.C31 n
 (fun e2 r0 r1 r2 r3 r4 r5 r6 r7 r8 s0 s1 s2 s3 s4 s5 s6 s7 s8 t0 t1 t2 t3 t4 t5 t6 t7 t8 =>
 kr e2 r0 r1 r2 r3 r4 r5 r6 r7 r8 s0 s1 s2 s3 s4 s5 s6 s7 s8 t0 t1 t2 t3 t4 t5 t6 t7 t8)
 (fun e14 e15 r0 r1 r2 r3 r4 r5 r6 r7 r8 s0 s1 s2 s3 s4 s5 s6 s7 s8 t0 t1 t2 t3 t4 t5 t6 t7 t8 =>
 rec e14 (IntKind.wrap .i64 (e15 + (1 : Int))) r0 r1 r2 r3 r4 r5 r6 r7 r8 s0 s1 s2 s3 s4 s5 s6 s7 s8 t0 t1 t2 t3 t4 t5 t6 t7 t8) v14 v15 p0 p1 p2 p3 p4 p5 p6 p7 p8 q0 q1 q2 q3 q4 q5 q6 q7 q8 c0 c1 c2 c3 c4 c5 c6 c7 c8
 else
 bif v14 == (1 : Int) then
 bif !(c2 == (IntKind.wrap .i64 (0 - c1))) then
 kr false p0 p1 p2 p3 p4 p5 p6 p7 p8 q0 q1 q2 q3 q4 q5 q6 q7 q8 c0 c1 c2 c3 c4 c5 c6 c7 c8
 else
 F.law03_DecOrders.C31 n
 (fun e2 r0 r1 r2 r3 r4 r5 r6 r7 r8 s0 s1 s2 s3 s4 s5 s6 s7 s8 t0 t1 t2 t3 t4 t5 t6 t7 t8 =>
 kr e2 r0 r1 r2 r3 r4 r5 r6 r7 r8 s0 s1 s2 s3 s4 s5 s6 s7 s8 t0 t1 t2 t3 t4 t5 t6 t7 t8)
 (fun e14 e15 r0 r1 r2 r3 r4 r5 r6 r7 r8 s0 s1 s2 s3 s4 s5 s6 s7 s8 t0 t1 t2 t3 t4 t5 t6 t7 t8 =>
 rec e14 (IntKind.wrap .i64 (e15 + (1 : Int))) r0 r1 r2 r3 r4 r5 r6 r7 r8 s0 s1 s2 s3 s4 s5 s6 s7 s8 t0 t1 t2 t3 t4 t5 t6 t7 t8) v14 v15 p0 p1 p2 p3 p4 p5 p6 p7 p8 q0 q1 q2 q3 q4 q5 q6 q7 q8 c0 c1 c2 c3 c4 c5 c6 c7 c8
 else
 bif v14 == (2 : Int) then
 bif !(c2 == (IntKind.wrap .i64 (0 - c2))) then
 kr false p0 p1 p2 p3 p4 p5 p6 p7 p8 q0 q1 q2 q3 q4 q5 q6 q7 q8 c0 c1 c2 c3 c4 c5 c6 c7 c8
 else
 F.law03_DecOrders.C31 n
 (fun e2 r0 r1 r2 r3 r4 r5 r6 r7 r8 s0 s1 s2 s3 s4 s5 s6 s7 s8 t0 t1 t2 t3 t4 t5 t6 t7 t8 =>
 kr e2 r0 r1 r2 r3 r4 r5 r6 r7 r8 s0 s1 s2 s3 s4 s5 s6 s7 s8 t0 t1 t2 t3 t4 t5 t6 t7 t8)
 (fun e14 e15 r0 r1 r2 r3 r4 r5 r6 r7 r8 s0 s1 s2 s3 s4 s5 s6 s7 s8 t0 t1 t2 t3 t4 t5 t6 t7 t8 =>
 rec e14 (IntKind.wrap .i64 (e15 + (1 : Int))) r0 r1 r2 r3 r4 r5 r6 r7 r8 s0 s1 s2 s3 s4 s5 s6 s7 s8 t0 t1 t2 t3 t4 t5 t6 t7 t8) v14 v15 p0 p1 p2 p3 p4 p5 p6 p7 p8 q0 q1 q2 q3 q4 q5 q6 q7 q8 c0 c1 c2 c3 c4 c5 c6 c7 c8
 else
 none
 else
 bif v15 == (1 : Int) then
 bif v14 == (0 : Int) then
 bif !(c2 == (IntKind.wrap .i64 (0 - c3))) then
 kr false p0 p1 p2 p3 p4 p5 p6 p7 p8 q0 q1 q2 q3 q4 q5 q6 q7 q8 c0 c1 c2 c3 c4 c5 c6 c7 c8
 else
 F.law03_DecOrders.C31 n
 (fun e2 r0 r1 r2 r3 r4 r5 r6 r7 r8 s0 s1 s2 s3 s4 s5 s6 s7 s8 t0 t1 t2 t3 t4 t5 t6 t7 t8 =>
 kr e2 r0 r1 r2 r3 r4 r5 r6 r7 r8 s0 s1 s2 s3 s4 s5 s6 s7 s8 t0 t1 t2 t3 t4 t5 t6 t7 t8)
 (fun e14 e15 r0 r1 r2 r3 r4 r5 r6 r7 r8 s0 s1 s2 s3 s4 s5 s6 s7 s8 t0 t1 t2 t3 t4 t5 t6 t7 t8 =>
 rec e14 (IntKind.wrap .i64 (e15 + (1 : Int))) r0 r1 r2 r3 r4 r5 r6 r7 r8 s0 s1 s2 s3 s4 s5 s6 s7 s8 t0 t1 t2 t3 t4 t5 t6 t7 t8) v14 v15 p0 p1 p2 p3 p4 p5 p6 p7 p8 q0 q1 q2 q3 q4 q5 q6 q7 q8 c0 c1 c2 c3 c4 c5 c6 c7 c8
 else
 bif v14 == (1 : Int) then
 bif !(c2 == (IntKind.wrap .i64 (0 - c4))) then
 kr false p0 p1 p2 p3 p4 p5 p6 p7 p8 q0 q1 q2 q3 q4 q5 q6 q7 q8 c0 c1 c2 c3 c4 c5 c6 c7 c8
 else
 F.law03_DecOrders.C31 n
 (fun e2 r0 r1 r2 r3 r4 r5 r6 r7 r8 s0 s1 s2 s3 s4 s5 s6 s7 s8 t0 t1 t2 t3 t4 t5 t6 t7 t8 =>
 kr e2 r0 r1 r2 r3 r4 r5 r6 r7 r8 s0 s1 s2 s3 s4 s5 s6 s7 s8 t0 t1 t2 t3 t4 t5 t6 t7 t8)
 (fun e14 e15 r0 r1 r2 r3 r4 r5 r6 r7 r8 s0 s1 s2 s3 s4 s5 s6 s7 s8 t0 t1 t2 t3 t4 t5 t6 t7 t8 =>
 rec e14 (IntKind.wrap .i64 (e15 + (1 : Int))) r0 r1 r2 r3 r4 r5 r6 r7 r8 s0 s1 s2 s3 s4 s5 s6 s7 s8 t0 t1 t2 t3 t4 t5 t6 t7 t8) v14 v15 p0 p1 p2 p3 p4 p5 p6 p7 p8 q0 q1 q2 q3 q4 q5 q6 q7 q8 c0 c1 c2 c3 c4 c5 c6 c7 c8
 else
 bif v14 == (2 : Int) then
 bif !(c2 == (IntKind.wrap .i64 (0 - c5))) then
 kr false p0 p1 p2 p3 p4 p5 p6 p7 p8 q0 q1 q2 q3 q4 q5 q6 q7 q8 c0 c1 c2 c3 c4 c5 c6 c7 c8
 else
 F.law03_DecOrders.C31 n
 (fun e2 r0 r1 r2 r3 r4 r5 r6 r7 r8 s0 s1 s2 s3 s4 s5 s6 s7 s8 t0 t1 t2 t3 t4 t5 t6 t7 t8 =>
 kr e2 r0 r1 r2 r3 r4 r5 r6 r7 r8 s0 s1 s2 s3 s4 s5 s6 s7 s8 t0 t1 t2 t3 t4 t5 t6 t7 t8)
 (fun e14 e15 r0 r1 r2 r3 r4 r5 r6 r7 r8 s0 s1 s2 s3 s4 s5 s6 s7 s8 t0 t1 t2 t3 t4 t5 t6 t7 t8 =>
 rec e14 (IntKind.wrap .i64 (e15 + (1 : Int))) r0 r1 r2 r3 r4 r5 r6 r7 r8 s0 s1 s2 s3 s4 s5 s6 s7 s8 t0 t1 t2 t3 t4 t5 t6 t7 t8) v14 v15 p0 p1 p2 p3 p4 p5 p6 p7 p8 q0 q1 q2 q3 q4 q5 q6 q7 q8 c0 c1 c2 c3 c4 c5 c6 c7 c8
 else
 none
 else
 bif v15 == (2 : Int) then
 bif v14 == (0 : Int) then
 bif !(c2 == (IntKind.wrap .i64 (0 - c6))) then
 kr false p0 p1 p2 p3 p4 p5 p6 p7 p8 q0 q1 q2 q3 q4 q5 q6 q7 q8 c0 c1 c2 c3 c4 c5 c6 c7 c8
 else
 F.law03_DecOrders.C31 n
 (fun e2 r0 r1 r2 r3 r4 r5 r6 r7 r8 s0 s1 s2 s3 s4 s5 s6 s7 s8 t0 t1 t2 t3 t4 t5 t6 t7 t8 =>
 kr e2 r0 r1 r2 r3 r4 r5 r6 r7 r8 s0 s1 s2 s3 s4 s5 s6 s7 s8 t0 t1 t2 t3 t4 t5 t6 t7 t8)
 (fun e14 e15 r0 r1 r2 r3 r4 r5 r6 r7 r8 s0 s1 s2 s3 s4 s5 s6 s7 s8 t0 t1 t2 t3 t4 t5 t6 t7 t8 =>
 rec e14 (IntKind.wrap .i64 (e15 + (1 : Int))) r0 r1 r2 r3 r4 r5 r6 r7 r8 s0 s1 s2 s3 s4 s5 s6 s7 s8 t0 t1 t2 t3 t4 t5 t6 t7 t8) v14 v15 p0 p1 p2 p3 p4 p5 p6 p7 p8 q0 q1 q2 q3 q4 q5 q6 q7 q8 c0 c1 c2 c3 c4 c5 c6 c7 c8
 else
 bif v14 == (1 : Int) then
 bif !(c2 == (IntKind.wrap .i64 (0 - c7))) then
 kr false p0 p1 p2 p3 p4 p5 p6 p7 p8 q0 q1 q2 q3 q4 q5 q6 q7 q8 c0 c1 c2 c3 c4 c5 c6 c7 c8
 else
 F.law03_DecOrders.C31 n
 (fun e2 r0 r1 r2 r3 r4 r5 r6 r7 r8 s0 s1 s2 s3 s4 s5 s6 s7 s8 t0 t1 t2 t3 t4 t5 t6 t7 t8 =>
 kr e2 r0 r1 r2 r3 r4 r5 r6 r7 r8 s0 s1 s2 s3 s4 s5 s6 s7 s8 t0 t1 t2 t3 t4 t5 t6 t7 t8)
 (fun e14 e15 r0 r1 r2 r3 r4 r5 r6 r7 r8 s0 s1 s2 s3 s4 s5 s6 s7 s8 t0 t1 t2 t3 t4 t5 t6 t7 t8 =>
 rec e14 (IntKind.wrap .i64 (e15 + (1 : Int))) r0 r1 r2 r3 r4 r5 r6 r7 r8 s0 s1 s2 s3 s4 s5 s6 s7 s8 t0 t1 t2 t3 t4 t5 t6 t7 t8) v14 v15 p0 p1 p2 p3 p4 p5 p6 p7 p8 q0 q1 q2 q3 q4 q5 q6 q7 q8 c0 c1 c2 c3 c4 c5 c6 c7 c8
 else
 bif v14 == (2 : Int) then
 bif !(c2 == (IntKind.wrap .i64 (0 - c8))) then
 kr false p0 p1 p2 p3 p4 p5 p6 p7 p8 q0 q1 q2 q3 q4 q5 q6 q7 q8 c0 c1 c2 c3 c4 c5 c6 c7 c8
 else
 F.law03_DecOrders.C31 n
 (fun e2 r0 r1 r2 r3 r4 r5 r6 r7 r8 s0 s1 s2 s3 s4 s5 s6 s7 s8 t0 t1 t2 t3 t4 t5 t6 t7 t8 =>
 kr e2 r0 r1 r2 r3 r4 r5 r6 r7 r8 s0 s1 s2 s3 s4 s5 s6 s7 s8 t0 t1 t2 t3 t4 t5 t6 t7 t8)
 (fun e14 e15 r0 r1 r2 r3 r4 r5 r6 r7 r8 s0 s1 s2 s3 s4 s5 s6 s7 s8 t0 t1 t2 t3 t4 t5 t6 t7 t8 =>
 rec e14 (IntKind.wrap .i64 (e15 + (1 : Int))) r0 r1 r2 r3 r4 r5 r6 r7 r8 s0 s1 s2 s3 s4 s5 s6 s7 s8 t0 t1 t2 t3 t4 t5 t6 t7 t8) v14 v15 p0 p1 p2 p3 p4 p5 p6 p7 p8 q0 q1 q2 q3 q4 q5 q6 q7 q8 c0 c1 c2 c3 c4 c5 c6 c7 c8
 else
 none
 else
 none
 else
 none
 else
 bif v14 == (1 : Int) then
 bif v15 == (0 : Int) then
 bif v15 == (0 : Int) then
 bif v14 == (0 : Int) then
 bif !(c3 == (IntKind.wrap .i64 (0 - c0))) then
 kr false p0 p1 p2 p3 p4 p5 p6 p7 p8 q0 q1 q2 q3 q4 q5 q6 q7 q8 c0 c1 c2 c3 c4 c5 c6 c7 c8
 else
 F.law03_DecOrders.C31 n
 (fun e2 r0 r1 r2 r3 r4 r5 r6 r7 r8 s0 s1 s2 s3 s4 s5 s6 s7 s8 t0 t1 t2 t3 t4 t5 t6 t7 t8 =>
 kr e2 r0 r1 r2 r3 r4 r5 r6 r7 r8 s0 s1 s2 s3 s4 s5 s6 s7 s8 t0 t1 t2 t3 t4 t5 t6 t7 t8)
 (fun e14 e15 r0 r1 r2 r3 r4 r5 r6 r7 r8 s0 s1 s2 s3 s4 s5 s6 s7 s8 t0 t1 t2 t3 t4 t5 t6 t7 t8 =>
 rec e14 (IntKind.wrap .i64 (e15 + (1 : Int))) r0 r1 r2 r3 r4 r5 r6 r7 r8 s0 s1 s2 s3 s4 s5 s6 s7 s8 t0 t1 t2 t3 t4 t5 t6 t7 t8) v14 v15 p0 p1 p2 p3 p4 p5 p6 p7 p8 q0 q1 q2 q3 q4 q5 q6 q7 q8 c0 c1 c2 c3 c4 c5 c6 c7 c8
 else
 bif v14 == (1 : Int) then
 bif !(c3 == (IntKind.wrap .i64 (0 - c1))) then
 kr false p0 p1 p2 p3 p4 p5 p6 p7 p8 q0 q1 q2 q3 q4 q5 q6 q7 q8 c0 c1 c2 c3 c4 c5 c6 c7 c8
 else
 F.law03_DecOrders.C31 n
 (fun e2 r0 r1 r2 r3 r4 r5 r6 r7 r8 s0 s1 s2 s3 s4 s5 s6 s7 s8 t0 t1 t2 t3 t4 t5 t6 t7 t8 =>
 kr e2 r0 r1 r2 r3 r4 r5 r6 r7 r8 s0 s1 s2 s3 s4 s5 s6 s7 s8 t0 t1 t2 t3 t4 t5 t6 t7 t8)
 (fun e14 e15 r0 r1 r2 r3 r4 r5 r6 r7 r8 s0 s1 s2 s3 s4 s5 s6 s7 s8 t0 t1 t2 t3 t4 t5 t6 t7 t8 =>
 rec e14 (IntKind.wrap .i64 (e15 + (1 : Int))) r0 r1 r2 r3 r4 r5 r6 r7 r8 s0 s1 s2 s3 s4 s5 s6 s7 s8 t0 t1 t2 t3 t4 t5 t6 t7 t8) v14 v15 p0 p1 p2 p3 p4 p5 p6 p7 p8 q0 q1 q2 q3 q4 q5 q6 q7 q8 c0 c1 c2 c3 c4 c5 c6 c7 c8
 else
 bif v14 == (2 : Int) then
 bif !(c3 == (IntKind.wrap .i64 (0 - c2))) then
 kr false p0 p1 p2 p3 p4 p5 p6 p7 p8 q0 q1 q2 q3 q4 q5 q6 q7 q8 c0 c1 c2 c3 c4 c5 c6 c7 c8
 else
 F.law03_DecOrders.C31 n
 (fun e2 r0 r1 r2 r3 r4 r5 r6 r7 r8 s0 s1 s2 s3 s4 s5 s6 s7 s8 t0 t1 t2 t3 t4 t5 t6 t7 t8 =>
 kr e2 r0 r1 r2 r3 r4 r5 r6 r7 r8 s0 s1 s2 s3 s4 s5 s6 s7 s8 t0 t1 t2 t3 t4 t5 t6 t7 t8)
 (fun e14 e15 r0 r1 r2 r3 r4 r5 r6 r7 r8 s0 s1 s2 s3 s4 s5 s6 s7 s8 t0 t1 t2 t3 t4 t5 t6 t7 t8 =>
 rec e14 (IntKind.wrap .i64 (e15 + (1 : Int))) r0 r1 r2 r3 r4 r5 r6 r7 r8 s0 s1 s2 s3 s4 s5 s6 s7 s8 t0 t1 t2 t3 t4 t5 t6 t7 t8) v14 v15 p0 p1 p2 p3 p4 p5 p6 p7 p8 q0 q1 q2 q3 q4 q5 q6 q7 q8 c0 c1 c2 c3 c4 c5 c6 c7 c8
 else
 none
 else
 bif v15 == (1 : Int) then
 bif v14 == (0 : Int) then
 bif !(c3 == (IntKind.wrap .i64 (0 - c3))) then
 kr false p0 p1 p2 p3 p4 p5 p6 p7 p8 q0 q1 q2 q3 q4 q5 q6 q7 q8 c0 c1 c2 c3 c4 c5 c6 c7 c8
 else
 F.law03_DecOrders.C31 n
 (fun e2 r0 r1 r2 r3 r4 r5 r6 r7 r8 s0 s1 s2 s3 s4 s5 s6 s7 s8 t0 t1 t2 t3 t4 t5 t6 t7 t8 =>
 kr e2 r0 r1 r2 r3 r4 r5 r6 r7 r8 s0 s1 s2 s3 s4 s5 s6 s7 s8 t0 t1 t2 t3 t4 t5 t6 t7 t8)
 (fun e14 e15 r0 r1 r2 r3 r4 r5 r6 r7 r8 s0 s1 s2 s3 s4 s5 s6 s7 s8 t0 t1 t2 t3 t4 t5 t6 t7 t8 =>
 rec e14 (IntKind.wrap .i64 (e15 + (1 : Int))) r0 r1 r2 r3 r4 r5 r6 r7 r8 s0 s1 s2 s3 s4 s5 s6 s7 s8 t0 t1 t2 t3 t4 t5 t6 t7 t8) v14 v15 p0 p1 p2 p3 p4 p5 p6 p7 p8 q0 q1 q2 q3 q4 q5 q6 q7 q8 c0 c1 c2 c3 c4 c5 c6 c7 c8
 else
 bif v14 == (1 : Int) then
 bif !(c3 == (IntKind.wrap .i64 (0 - c4))) then
 kr false p0 p1 p2 p3 p4 p5 p6 p7 p8 q0 q1 q2 q3 q4 q5 q6 q7 q8 c0 c1 c2 c3 c4 c5 c6 c7 c8
 else
 F.law03_DecOrders.C31 n
 (fun e2 r0 r1 r2 r3 r4 r5 r6 r7 r8 s0 s1 s2 s3 s4 s5 s6 s7 s8 t0 t1 t2 t3 t4 t5 t6 t7 t8 =>
 kr e2 r0 r1 r2 r3 r4 r5 r6 r7 r8 s0 s1 s2 s3 s4 s5 s6 s7 s8 t0 t1 t2 t3 t4 t5 t6 t7 t8)
 (fun e14 e15 r0 r1 r2 r3 r4 r5 r6 r7 r8 s0 s1 s2 s3 s4 s5 s6 s7 s8 t0 t1 t2 t3 t4 t5 t6 t7 t8 =>
 rec e14 (IntKind.wrap .i64 (e15 + (1 : Int))) r0 r1 r2 r3 r4 r5 r6 r7 r8 s0 s1 s2 s3 s4 s5 s6 s7 s8 t0 t1 t2 t3 t4 t5 t6 t7 t8) v14 v15 p0 p1 p2 p3 p4 p5 p6 p7 p8 q0 q1 q2 q3 q4 q5 q6 q7 q8 c0 c1 c2 c3 c4 c5 c6 c7 c8
 else
 bif v14 == (2 : Int) then
 bif !(c3 == (IntKind.wrap .i64 (0 - c5))) then
 kr false p0 p1 p2 p3 p4 p5 p6 p7 p8 q0 q1 q2 q3 q4 q5 q6 q7 q8 c0 c1 c2 c3 c4 c5 c6 c7 c8
 else
 F.law03_DecOrders.C31 n
 (fun e2 r0 r1 r2 r3 r4 r5 r6 r7 r8 s0 s1 s2 s3 s4 s5 s6 s7 s8 t0 t1 t2 t3 t4 t5 t6 t7 t8 =>
 kr e2 r0 r1 r2 r3 r4 r5 r6 r7 r8 s0 s1 s2 s3 s4 s5 s6 s7 s8 t0 t1 t2 t3 t4 t5 t6 t7 t8)
 (fun e14 e15 r0 r1 r2 r3 r4 r5 r6 r7 r8 s0 s1 s2 s3 s4 s5 s6 s7 s8 t0 t1 t2 t3 t4 t5 t6 t7 t8 =>
 rec e14 (IntKind.wrap .i64 (e15 + (1 : Int))) r0 r1 r2 r3 r4 r5 r6 r7 r8 s0 s1 s2 s3 s4 s5 s6 s7 s8 t0 t1 t2 t3 t4 t5 t6 t7 t8) v14 v15 p0 p1 p2 p3 p4 p5 p6 p7 p8 q0 q1 q2 q3 q4 q5 q6 q7 q8 c0 c1 c2 c3 c4 c5 c6 c7 c8
 else
 none
 else
 bif v15 == (2 : Int) then
 bif v14 == (0 : Int) then
 bif !(c3 == (IntKind.wrap .i64 (0 - c6))) then
 kr false p0 p1 p2 p3 p4 p5 p6 p7 p8 q0 q1 q2 q3 q4 q5 q6 q7 q8 c0 c1 c2 c3 c4 c5 c6 c7 c8
 else
 F.law03_DecOrders.C31 n
 (fun e2 r0 r1 r2 r3 r4 r5 r6 r7 r8 s0 s1 s2 s3 s4 s5 s6 s7 s8 t0 t1 t2 t3 t4 t5 t6 t7 t8 =>
 kr e2 r0 r1 r2 r3 r4 r5 r6 r7 r8 s0 s1 s2 s3 s4 s5 s6 s7 s8 t0 t1 t2 t3 t4 t5 t6 t7 t8)
 (fun e14 e15 r0 r1 r2 r3 r4 r5 r6 r7 r8 s0 s1 s2 s3 s4 s5 s6 s7 s8 t0 t1 t2 t3 t4 t5 t6 t7 t8 =>
 rec e14 (IntKind.wrap .i64 (e15 + (1 : Int))) r0 r1 r2 r3 r4 r5 r6 r7 r8 s0 s1 s2 s3 s4 s5 s6 s7 s8 t0 t1 t2 t3 t4 t5 t6 t7 t8) v14 v15 p0 p1 p2 p3 p4 p5 p6 p7 p8 q0 q1 q2 q3 q4 q5 q6 q7 q8 c0 c1 c2 c3 c4 c5 c6 c7 c8
 else
 bif v14 == (1 : Int) then
 bif !(c3 == (IntKind.wrap .i64 (0 - c7))) then
 kr false p0 p1 p2 p3 p4 p5 p6 p7 p8 q0 q1 q2 q3 q4 q5 q6 q7 q8 c0 c1 c2 c3 c4 c5 c6 c7 c8
 else
 F.law03_DecOrders.C31 n
 (fun e2 r0 r1 r2 r3 r4 r5 r6 r7 r8 s0 s1 s2 s3 s4 s5 s6 s7 s8 t0 t1 t2 t3 t4 t5 t6 t7 t8 =>
 kr e2 r0 r1 r2 r3 r4 r5 r6 r7 r8 s0 s1 s2 s3 s4 s5 s6 s7 s8 t0 t1 t2 t3 t4 t5 t6 t7 t8)
 (fun e14 e15 r0 r1 r2 r3 r4 r5 r6 r7 r8 s0 s1 s2 s3 s4 s5 s6 s7 s8 t0 t1 t2 t3 t4 t5 t6 t7 t8 =>
 rec e14 (IntKind.wrap .i64 (e15 + (1 : Int))) r0 r1 r2 r3 r4 r5 r6 r7 r8 s0 s1 s2 s3 s4 s5 s6 s7 s8 t0 t1 t2 t3 t4 t5 t6 t7 t8) v14 v15 p0 p1 p2 p3 p4 p5 p6 p7 p8 q0 q1 q2 q3 q4 q5 q6 q7 q8 c0 c1 c2 c3 c4 c5 c6 c7 c8
 else
 bif v14 == (2 : Int) then
 bif !(c3 == (IntKind.wrap .i64 (0 - c8))) then
 kr false p0 p1 p2 p3 p4 p5 p6 p7 p8 q0 q1 q2 q3 q4 q5 q6 q7 q8 c0 c1 c2 c3 c4 c5 c6 c7 c8
 else
 F.law03_DecOrders.C31 n
 (fun e2 r0 r1 r2 r3 r4 r5 r6 r7 r8 s0 s1 s2 s3 s4 s5 s6 s7 s8 t0 t1 t2 t3 t4 t5 t6 t7 t8 =>
 kr e2 r0 r1 r2 r3 r4 r5 r6 r7 r8 s0 s1 s2 s3 s4 s5 s6 s7 s8 t0 t1 t2 t3 t4 t5 t6 t7 t8)
 (fun e14 e15 r0 r1 r2 r3 r4 r5 r6 r7 r8 s0 s1 s2 s3 s4 s5 s6 s7 s8 t0 t1 t2 t3 t4 t5 t6 t7 t8 =>
 rec e14 (IntKind.wrap .i64 (e15 + (1 : Int))) r0 r1 r2 r3 r4 r5 r6 r7 r8 s0 s1 s2 s3 s4 s5 s6 s7 s8 t0 t1 t2 t3 t4 t5 t6 t7 t8) v14 v15 p0 p1 p2 p3 p4 p5 p6 p7 p8 q0 q1 q2 q3 q4 q5 q6 q7 q8 c0 c1 c2 c3 c4 c5 c6 c7 c8
 else
 none
 else
 none
 else
 bif v15 == (1 : Int) then
 bif v15 == (0 : Int) then
 bif v14 == (0 : Int) then
 bif !(c4 == (IntKind.wrap .i64 (0 - c0))) then
 kr false p0 p1 p2 p3 p4 p5 p6 p7 p8 q0 q1 q2 q3 q4 q5 q6 q7 q8 c0 c1 c2 c3 c4 c5 c6 c7 c8
 else
 F.law03_DecOrders.C31 n
 (fun e2 r0 r1 r2 r3 r4 r5 r6 r7 r8 s0 s1 s2 s3 s4 s5 s6 s7 s8 t0 t1 t2 t3 t4 t5 t6 t7 t8 =>
 kr e2 r0 r1 r2 r3 r4 r5 r6 r7 r8 s0 s1 s2 s3 s4 s5 s6 s7 s8 t0 t1 t2 t3 t4 t5 t6 t7 t8)
 (fun e14 e15 r0 r1 r2 r3 r4 r5 r6 r7 r8 s0 s1 s2 s3 s4 s5 s6 s7 s8 t0 t1 t2 t3 t4 t5 t6 t7 t8 =>
 rec e14 (IntKind.wrap .i64 (e15 + (1 : Int))) r0 r1 r2 r3 r4 r5 r6 r7 r8 s0 s1 s2 s3 s4 s5 s6 s7 s8 t0 t1 t2 t3 t4 t5 t6 t7 t8) v14 v15 p0 p1 p2 p3 p4 p5 p6 p7 p8 q0 q1 q2 q3 q4 q5 q6 q7 q8 c0 c1 c2 c3 c4 c5 c6 c7 c8
 else
 bif v14 == (1 : Int) then
 bif !(c4 == (IntKind.wrap .i64 (0 - c1))) then
 kr false p0 p1 p2 p3 p4 p5 p6 p7 p8 q0 q1 q2 q3 q4 q5 q6 q7 q8 c0 c1 c2 c3 c4 c5 c6 c7 c8
 else
 F.law03_DecOrders.C31 n
 (fun e2 r0 r1 r2 r3 r4 r5 r6 r7 r8 s0 s1 s2 s3 s4 s5 s6 s7 s8 t0 t1 t2 t3 t4 t5 t6 t7 t8 =>
 kr e2 r0 r1 r2 r3 r4 r5 r6 r7 r8 s0 s1 s2 s3 s4 s5 s6 s7 s8 t0 t1 t2 t3 t4 t5 t6 t7 t8)
 (fun e14 e15 r0 r1 r2 r3 r4 r5 r6 r7 r8 s0 s1 s2 s3 s4 s5 s6 s7 s8 t0 t1 t2 t3 t4 t5 t6 t7 t8 =>
 rec e14 (IntKind.wrap .i64 (e15 + (1 : Int))) r0 r1 r2 r3 r4 r5 r6 r7 r8 s0 s1 s2 s3 s4 s5 s6 s7 s8 t0 t1 t2 t3 t4 t5 t6 t7 t8) v14 v15 p0 p1 p2 p3 p4 p5 p6 p7 p8 q0 q1 q2 q3 q4 q5 q6 q7 q8 c0 c1 c2 c3 c4 c5 c6 c7 c8
 else
 bif v14 == (2 : Int) then
 bif !(c4 == (IntKind.wrap .i64 (0 - c2))) then
 kr false p0 p1 p2 p3 p4 p5 p6 p7 p8 q0 q1 q2 q3 q4 q5 q6 q7 q8 c0 c1 c2 c3 c4 c5 c6 c7 c8
 else
 F.law03_DecOrders.C31 n
 (fun e2 r0 r1 r2 r3 r4 r5 r6 r7 r8 s0 s1 s2 s3 s4 s5 s6 s7 s8 t0 t1 t2 t3 t4 t5 t6 t7 t8 =>
 kr e2 r0 r1 r2 r3 r4 r5 r6 r7 r8 s0 s1 s2 s3 s4 s5 s6 s7 s8 t0 t1 t2 t3 t4 t5 t6 t7 t8)
 (fun e14 e15 r0 r1 r2 r3 r4 r5 r6 r7 r8 s0 s1 s2 s3 s4 s5 s6 s7 s8 t0 t1 t2 t3 t4 t5 t6 t7 t8 =>
 rec e14 (IntKind.wrap .i64 (e15 + (1 : Int))) r0 r1 r2 r3 r4 r5 r6 r7 r8 s0 s1 s2 s3 s4 s5 s6 s7 s8 t0 t1 t2 t3 t4 t5 t6 t7 t8) v14 v15 p0 p1 p2 p3 p4 p5 p6 p7 p8 q0 q1 q2 q3 q4 q5 q6 q7 q8 c0 c1 c2 c3 c4 c5 c6 c7 c8
 else
 none
 else
 bif v15 == (1 : Int) then
 bif v14 == (0 : Int) then
 bif !(c4 == (IntKind.wrap .i64 (0 - c3))) then
 kr false p0 p1 p2 p3 p4 p5 p6 p7 p8 q0 q1 q2 q3 q4 q5 q6 q7 q8 c0 c1 c2 c3 c4 c5 c6 c7 c8
 else
 F.law03_DecOrders.C31 n
 (fun e2 r0 r1 r2 r3 r4 r5 r6 r7 r8 s0 s1 s2 s3 s4 s5 s6 s7 s8 t0 t1 t2 t3 t4 t5 t6 t7 t8 =>
 kr e2 r0 r1 r2 r3 r4 r5 r6 r7 r8 s0 s1 s2 s3 s4 s5 s6 s7 s8 t0 t1 t2 t3 t4 t5 t6 t7 t8)
 (fun e14 e15 r0 r1 r2 r3 r4 r5 r6 r7 r8 s0 s1 s2 s3 s4 s5 s6 s7 s8 t0 t1 t2 t3 t4 t5 t6 t7 t8 =>
 rec e14 (IntKind.wrap .i64 (e15 + (1 : Int))) r0 r1 r2 r3 r4 r5 r6 r7 r8 s0 s1 s2 s3 s4 s5 s6 s7 s8 t0 t1 t2 t3 t4 t5 t6 t7 t8) v14 v15 p0 p1 p2 p3 p4 p5 p6 p7 p8 q0 q1 q2 q3 q4 q5 q6 q7 q8 c0 c1 c2 c3 c4 c5 c6 c7 c8
 else
 bif v14 == (1 : Int) then
 bif !(c4 == (IntKind.wrap .i64 (0 - c4))) then
 kr false p0 p1 p2 p3 p4 p5 p6 p7 p8 q0 q1 q2 q3 q4 q5 q6 q7 q8 c0 c1 c2 c3 c4 c5 c6 c7 c8
 else
 F.law03_DecOrders.C31 n
 (fun e2 r0 r1 r2 r3 r4 r5 r6 r7 r8 s0 s1 s2 s3 s4 s5 s6 s7 s8 t0 t1 t2 t3 t4 t5 t6 t7 t8 =>
 kr e2 r0 r1 r2 r3 r4 r5 r6 r7 r8 s0 s1 s2 s3 s4 s5 s6 s7 s8 t0 t1 t2 t3 t4 t5 t6 t7 t8)
 (fun e14 e15 r0 r1 r2 r3 r4 r5 r6 r7 r8 s0 s1 s2 s3 s4 s5 s6 s7 s8 t0 t1 t2 t3 t4 t5 t6 t7 t8 =>
 rec e14 (IntKind.wrap .i64 (e15 + (1 : Int))) r0 r1 r2 r3 r4 r5 r6 r7 r8 s0 s1 s2 s3 s4 s5 s6 s7 s8 t0 t1 t2 t3 t4 t5 t6 t7 t8) v14 v15 p0 p1 p2 p3 p4 p5 p6 p7 p8 q0 q1 q2 q3 q4 q5 q6 q7 q8 c0 c1 c2 c3 c4 c5 c6 c7 c8
 else
 bif v14 == (2 : Int) then
 bif !(c4 == (IntKind.wrap .i64 (0 - c5))) then
 kr false p0 p1 p2 p3 p4 p5 p6 p7 p8 q0 q1 q2 q3 q4 q5 q6 q7 q8 c0 c1 c2 c3 c4 c5 c6 c7 c8
 else
 F.law03_DecOrders.C31 n
 (fun e2 r0 r1 r2 r3 r4 r5 r6 r7 r8 s0 s1 s2 s3 s4 s5 s6 s7 s8 t0 t1 t2 t3 t4 t5 t6 t7 t8 =>
 kr e2 r0 r1 r2 r3 r4 r5 r6 r7 r8 s0 s1 s2 s3 s4 s5 s6 s7 s8 t0 t1 t2 t3 t4 t5 t6 t7 t8)
 (fun e14 e15 r0 r1 r2 r3 r4 r5 r6 r7 r8 s0 s1 s2 s3 s4 s5 s6 s7 s8 t0 t1 t2 t3 t4 t5 t6 t7 t8 =>
 rec e14 (IntKind.wrap .i64 (e15 + (1 : Int))) r0 r1 r2 r3 r4 r5 r6 r7 r8 s0 s1 s2 s3 s4 s5 s6 s7 s8 t0 t1 t2 t3 t4 t5 t6 t7 t8) v14 v15 p0 p1 p2 p3 p4 p5 p6 p7 p8 q0 q1 q2 q3 q4 q5 q6 q7 q8 c0 c1 c2 c3 c4 c5 c6 c7 c8
 else
 none
 else
 bif v15 == (2 : Int) then
 bif v14 == (0 : Int) then
 bif !(c4 == (IntKind.wrap .i64 (0 - c6))) then
 kr false p0 p1 p2 p3 p4 p5 p6 p7 p8 q0 q1 q2 q3 q4 q5 q6 q7 q8 c0 c1 c2 c3 c4 c5 c6 c7 c8
 else
 F.law03_DecOrders.C31 n
 (fun e2 r0 r1 r2 r3 r4 r5 r6 r7 r8 s0 s1 s2 s3 s4 s5 s6 s7 s8 t0 t1 t2 t3 t4 t5 t6 t7 t8 =>
 kr e2 r0 r1 r2 r3 r4 r5 r6 r7 r8 s0 s1 s2 s3 s4 s5 s6 s7 s8 t0 t1 t2 t3 t4 t5 t6 t7 t8)
 (fun e14 e15 r0 r1 r2 r3 r4 r5 r6 r7 r8 s0 s1 s2 s3 s4 s5 s6 s7 s8 t0 t1 t2 t3 t4 t5 t6 t7 t8 =>
 rec e14 (IntKind.wrap .i64 (e15 + (1 : Int))) r0 r1 r2 r3 r4 r5 r6 r7 r8 s0 s1 s2 s3 s4 s5 s6 s7 s8 t0 t1 t2 t3 t4 t5 t6 t7 t8) v14 v15 p0 p1 p2 p3 p4 p5 p6 p7 p8 q0 q1 q2 q3 q4 q5 q6 q7 q8 c0 c1 c2 c3 c4 c5 c6 c7 c8
 else
 bif v14 == (1 : Int) then
 bif !(c4 == (IntKind.wrap .i64 (0 - c7))) then
 kr false p0 p1 p2 p3 p4 p5 p6 p7 p8 q0 q1 q2 q3 q4 q5 q6 q7 q8 c0 c1 c2 c3 c4 c5 c6 c7 c8
 else
 F.law03_DecOrders.C31 n
 (fun e2 r0 r1 r2 r3 r4 r5 r6 r7 r8 s0 s1 s2 s3 s4 s5 s6 s7 s8 t0 t1 t2 t3 t4 t5 t6 t7 t8 =>
 kr e2 r0 r1 r2 r3 r4 r5 r6 r7 r8 s0 s1 s2 s3 s4 s5 s6 s7 s8 t0 t1 t2 t3 t4 t5 t6 t7 t8)
 (fun e14 e15 r0 r1 r2 r3 r4 r5 r6 r7 r8 s0 s1 s2 s3 s4 s5 s6 s7 s8 t0 t1 t2 t3 t4 t5 t6 t7 t8 =>
 rec e14 (IntKind.wrap .i64 (e15 + (1 : Int))) r0 r1 r2 r3 r4 r5 r6 r7 r8 s0 s1 s2 s3 s4 s5 s6 s7 s8 t0 t1 t2 t3 t4 t5 t6 t7 t8) v14 v15 p0 p1 p2 p3 p4 p5 p6 p7 p8 q0 q1 q2 q3 q4 q5 q6 q7 q8 c0 c1 c2 c3 c4 c5 c6 c7 c8
 else
 bif v14 == (2 : Int) then
 bif !(c4 == (IntKind.wrap .i64 (0 - c8))) then
 kr false p0 p1 p2 p3 p4 p5 p6 p7 p8 q0 q1 q2 q3 q4 q5 q6 q7 q8 c0 c1 c2 c3 c4 c5 c6 c7 c8
 else
 F.law03_DecOrders.C31 n
 (fun e2 r0 r1 r2 r3 r4 r5 r6 r7 r8 s0 s1 s2 s3 s4 s5 s6 s7 s8 t0 t1 t2 t3 t4 t5 t6 t7 t8 =>
 kr e2 r0 r1 r2 r3 r4 r5 r6 r7 r8 s0 s1 s2 s3 s4 s5 s6 s7 s8 t0 t1 t2 t3 t4 t5 t6 t7 t8)
 (fun e14 e15 r0 r1 r2 r3 r4 r5 r6 r7 r8 s0 s1 s2 s3 s4 s5 s6 s7 s8 t0 t1 t2 t3 t4 t5 t6 t7 t8 =>
 rec e14 (IntKind.wrap .i64 (e15 + (1 : Int))) r0 r1 r2 r3 r4 r5 r6 r7 r8 s0 s1 s2 s3 s4 s5 s6 s7 s8 t0 t1 t2 t3 t4 t5 t6 t7 t8) v14 v15 p0 p1 p2 p3 p4 p5 p6 p7 p8 q0 q1 q2 q3 q4 q5 q6 q7 q8 c0 c1 c2 c3 c4 c5 c6 c7 c8
 else
 none
 else
 none
 else
 bif v15 == (2 : Int) then
 bif v15 == (0 : Int) then
 bif v14 == (0 : Int) then
 bif !(c5 == (IntKind.wrap .i64 (0 - c0))) then
 kr false p0 p1 p2 p3 p4 p5 p6 p7 p8 q0 q1 q2 q3 q4 q5 q6 q7 q8 c0 c1 c2 c3 c4 c5 c6 c7 c8
 else
 F.law03_DecOrders.C31 n
 (fun e2 r0 r1 r2 r3 r4 r5 r6 r7 r8 s0 s1 s2 s3 s4 s5 s6 s7 s8 t0 t1 t2 t3 t4 t5 t6 t7 t8 =>
 kr e2 r0 r1 r2 r3 r4 r5 r6 r7 r8 s0 s1 s2 s3 s4 s5 s6 s7 s8 t0 t1 t2 t3 t4 t5 t6 t7 t8)
 (fun e14 e15 r0 r1 r2 r3 r4 r5 r6 r7 r8 s0 s1 s2 s3 s4 s5 s6 s7 s8 t0 t1 t2 t3 t4 t5 t6 t7 t8 =>
 rec e14 (IntKind.wrap .i64 (e15 + (1 : Int))) r0 r1 r2 r3 r4 r5 r6 r7 r8 s0 s1 s2 s3 s4 s5 s6 s7 s8 t0 t1 t2 t3 t4 t5 t6 t7 t8) v14 v15 p0 p1 p2 p3 p4 p5 p6 p7 p8 q0 q1 q2 q3 q4 q5 q6 q7 q8 c0 c1 c2 c3 c4 c5 c6 c7 c8
 else
 bif v14 == (1 : Int) then
 bif !(c5 == (IntKind.wrap .i64 (0 - c1))) then
 kr false p0 p1 p2 p3 p4 p5 p6 p7 p8 q0 q1 q2 q3 q4 q5 q6 q7 q8 c0 c1 c2 c3 c4 c5 c6 c7 c8
 else
 F.law03_DecOrders.C31 n
 (fun e2 r0 r1 r2 r3 r4 r5 r6 r7 r8 s0 s1 s2 s3 s4 s5 s6 s7 s8 t0 t1 t2 t3 t4 t5 t6 t7 t8 =>
 kr e2 r0 r1 r2 r3 r4 r5 r6 r7 r8 s0 s1 s2 s3 s4 s5 s6 s7 s8 t0 t1 t2 t3 t4 t5 t6 t7 t8)
 (fun e14 e15 r0 r1 r2 r3 r4 r5 r6 r7 r8 s0 s1 s2 s3 s4 s5 s6 s7 s8 t0 t1 t2 t3 t4 t5 t6 t7 t8 =>
 rec e14 (IntKind.wrap .i64 (e15 + (1 : Int))) r0 r1 r2 r3 r4 r5 r6 r7 r8 s0 s1 s2 s3 s4 s5 s6 s7 s8 t0 t1 t2 t3 t4 t5 t6 t7 t8) v14 v15 p0 p1 p2 p3 p4 p5 p6 p7 p8 q0 q1 q2 q3 q4 q5 q6 q7 q8 c0 c1 c2 c3 c4 c5 c6 c7 c8
 else
 bif v14 == (2 : Int) then
 bif !(c5 == (IntKind.wrap .i64 (0 - c2))) then
 kr false p0 p1 p2 p3 p4 p5 p6 p7 p8 q0 q1 q2 q3 q4 q5 q6 q7 q8 c0 c1 c2 c3 c4 c5 c6 c7 c8
 else
 F.law03_DecOrders.C31 n
 (fun e2 r0 r1 r2 r3 r4 r5 r6 r7 r8 s0 s1 s2 s3 s4 s5 s6 s7 s8 t0 t1 t2 t3 t4 t5 t6 t7 t8 =>
 kr e2 r0 r1 r2 r3 r4 r5 r6 r7 r8 s0 s1 s2 s3 s4 s5 s6 s7 s8 t0 t1 t2 t3 t4 t5 t6 t7 t8)
 (fun e14 e15 r0 r1 r2 r3 r4 r5 r6 r7 r8 s0 s1 s2 s3 s4 s5 s6 s7 s8 t0 t1 t2 t3 t4 t5 t6 t7 t8 =>
 rec e14 (IntKind.wrap .i64 (e15 + (1 : Int))) r0 r1 r2 r3 r4 r5 r6 r7 r8 s0 s1 s2 s3 s4 s5 s6 s7 s8 t0 t1 t2 t3 t4 t5 t6 t7 t8) v14 v15 p0 p1 p2 p3 p4 p5 p6 p7 p8 q0 q1 q2 q3 q4 q5 q6 q7 q8 c0 c1 c2 c3 c4 c5 c6 c7 c8
 else
 none
 else
 bif v15 == (1 : Int) then
 bif v14 == (0 : Int) then
 bif !(c5 == (IntKind.wrap .i64 (0 - c3))) then
 kr false p0 p1 p2 p3 p4 p5 p6 p7 p8 q0 q1 q2 q3 q4 q5 q6 q7 q8 c0 c1 c2 c3 c4 c5 c6 c7 c8
 else
 F.law03_DecOrders.C31 n
 (fun e2 r0 r1 r2 r3 r4 r5 r6 r7 r8 s0 s1 s2 s3 s4 s5 s6 s7 s8 t0 t1 t2 t3 t4 t5 t6 t7 t8 =>
 kr e2 r0 r1 r2 r3 r4 r5 r6 r7 r8 s0 s1 s2 s3 s4 s5 s6 s7 s8 t0 t1 t2 t3 t4 t5 t6 t7 t8)
 (fun e14 e15 r0 r1 r2 r3 r4 r5 r6 r7 r8 s0 s1 s2 s3 s4 s5 s6 s7 s8 t0 t1 t2 t3 t4 t5 t6 t7 t8 =>
 rec e14 (IntKind.wrap .i64 (e15 + (1 : Int))) r0 r1 r2 r3 r4 r5 r6 r7 r8 s0 s1 s2 s3 s4 s5 s6 s7 s8 t0 t1 t2 t3 t4 t5 t6 t7 t8) v14 v15 p0 p1 p2 p3 p4 p5 p6 p7 p8 q0 q1 q2 q3 q4 q5 q6 q7 q8 c0 c1 c2 c3 c4 c5 c6 c7 c8
 else
 bif v14 == (1 : Int) then
 bif !(c5 == (IntKind.wrap .i64 (0 - c4))) then
 kr false p0 p1 p2 p3 p4 p5 p6 p7 p8 q0 q1 q2 q3 q4 q5 q6 q7 q8 c0 c1 c2 c3 c4 c5 c6 c7 c8
 else
 F.law03_DecOrders.C31 n
 (fun e2 r0 r1 r2 r3 r4 r5 r6 r7 r8 s0 s1 s2 s3 s4 s5 s6 s7 s8 t0 t1 t2 t3 t4 t5 t6 t7 t8 =>
 kr e2 r0 r1 r2 r3 r4 r5 r6 r7 r8 s0 s1 s2 s3 s4 s5 s6 s7 s8 t0 t1 t2 t3 t4 t5 t6 t7 t8)
 (fun e14 e15 r0 r1 r2 r3 r4 r5 r6 r7 r8 s0 s1 s2 s3 s4 s5 s6 s7 s8 t0 t1 t2 t3 t4 t5 t6 t7 t8 =>
 rec e14 (IntKind.wrap .i64 (e15 + (1 : Int))) r0 r1 r2 r3 r4 r5 r6 r7 r8 s0 s1 s2 s3 s4 s5 s6 s7 s8 t0 t1 t2 t3 t4 t5 t6 t7 t8) v14 v15 p0 p1 p2 p3 p4 p5 p6 p7 p8 q0 q1 q2 q3 q4 q5 q6 q7 q8 c0 c1 c2 c3 c4 c5 c6 c7 c8
 else
 bif v14 == (2 : Int) then
 bif !(c5 == (IntKind.wrap .i64 (0 - c5))) then
 kr false p0 p1 p2 p3 p4 p5 p6 p7 p8 q0 q1 q2 q3 q4 q5 q6 q7 q8 c0 c1 c2 c3 c4 c5 c6 c7 c8
 else
 F.law03_DecOrders.C31 n
 (fun e2 r0 r1 r2 r3 r4 r5 r6 r7 r8 s0 s1 s2 s3 s4 s5 s6 s7 s8 t0 t1 t2 t3 t4 t5 t6 t7 t8 =>
 kr e2 r0 r1 r2 r3 r4 r5 r6 r7 r8 s0 s1 s2 s3 s4 s5 s6 s7 s8 t0 t1 t2 t3 t4 t5 t6 t7 t8)
 (fun e14 e15 r0 r1 r2 r3 r4 r5 r6 r7 r8 s0 s1 s2 s3 s4 s5 s6 s7 s8 t0 t1 t2 t3 t4 t5 t6 t7 t8 =>
 rec e14 (IntKind.wrap .i64 (e15 + (1 : Int))) r0 r1 r2 r3 r4 r5 r6 r7 r8 s0 s1 s2 s3 s4 s5 s6 s7 s8 t0 t1 t2 t3 t4 t5 t6 t7 t8) v14 v15 p0 p1 p2 p3 p4 p5 p6 p7 p8 q0 q1 q2 q3 q4 q5 q6 q7 q8 c0 c1 c2 c3 c4 c5 c6 c7 c8
 else
 none
 else
 bif v15 == (2 : Int) then
 bif v14 == (0 : Int) then
 bif !(c5 == (IntKind.wrap .i64 (0 - c6))) then
 kr false p0 p1 p2 p3 p4 p5 p6 p7 p8 q0 q1 q2 q3 q4 q5 q6 q7 q8 c0 c1 c2 c3 c4 c5 c6 c7 c8
 else
 F.law03_DecOrders.C31 n
 (fun e2 r0 r1 r2 r3 r4 r5 r6 r7 r8 s0 s1 s2 s3 s4 s5 s6 s7 s8 t0 t1 t2 t3 t4 t5 t6 t7 t8 =>
 kr e2 r0 r1 r2 r3 r4 r5 r6 r7 r8 s0 s1 s2 s3 s4 s5 s6 s7 s8 t0 t1 t2 t3 t4 t5 t6 t7 t8)
 (fun e14 e15 r0 r1 r2 r3 r4 r5 r6 r7 r8 s0 s1 s2 s3 s4 s5 s6 s7 s8 t0 t1 t2 t3 t4 t5 t6 t7 t8 =>
 rec e14 (IntKind.wrap .i64 (e15 + (1 : Int))) r0 r1 r2 r3 r4 r5 r6 r7 r8 s0 s1 s2 s3 s4 s5 s6 s7 s8 t0 t1 t2 t3 t4 t5 t6 t7 t8) v14 v15 p0 p1 p2 p3 p4 p5 p6 p7 p8 q0 q1 q2 q3 q4 q5 q6 q7 q8 c0 c1 c2 c3 c4 c5 c6 c7 c8
 else
 bif v14 == (1 : Int) then
 bif !(c5 == (IntKind.wrap .i64 (0 - c7))) then
 kr false p0 p1 p2 p3 p4 p5 p6 p7 p8 q0 q1 q2 q3 q4 q5 q6 q7 q8 c0 c1 c2 c3 c4 c5 c6 c7 c8
 else
 F.law03_DecOrders.C31 n
 (fun e2 r0 r1 r2 r3 r4 r5 r6 r7 r8 s0 s1 s2 s3 s4 s5 s6 s7 s8 t0 t1 t2 t3 t4 t5 t6 t7 t8 =>
 kr e2 r0 r1 r2 r3 r4 r5 r6 r7 r8 s0 s1 s2 s3 s4 s5 s6 s7 s8 t0 t1 t2 t3 t4 t5 t6 t7 t8)
 (fun e14 e15 r0 r1 r2 r3 r4 r5 r6 r7 r8 s0 s1 s2 s3 s4 s5 s6 s7 s8 t0 t1 t2 t3 t4 t5 t6 t7 t8 =>
 rec e14 (IntKind.wrap .i64 (e15 + (1 : Int))) r0 r1 r2 r3 r4 r5 r6 r7 r8 s0 s1 s2 s3 s4 s5 s6 s7 s8 t0 t1 t2 t3 t4 t5 t6 t7 t8) v14 v15 p0 p1 p2 p3 p4 p5 p6 p7 p8 q0 q1 q2 q3 q4 q5 q6 q7 q8 c0 c1 c2 c3 c4 c5 c6 c7 c8
 else
 bif v14 == (2 : Int) then
 bif !(c5 == (IntKind.wrap .i64 (0 - c8))) then
 kr false p0 p1 p2 p3 p4 p5 p6 p7 p8 q0 q1 q2 q3 q4 q5 q6 q7 q8 c0 c1 c2 c3 c4 c5 c6 c7 c8
 else
 F.law03_DecOrders.C31 n
 (fun e2 r0 r1 r2 r3 r4 r5 r6 r7 r8 s0 s1 s2 s3 s4 s5 s6 s7 s8 t0 t1 t2 t3 t4 t5 t6 t7 t8 =>
 kr e2 r0 r1 r2 r3 r4 r5 r6 r7 r8 s0 s1 s2 s3 s4 s5 s6 s7 s8 t0 t1 t2 t3 t4 t5 t6 t7 t8)
 (fun e14 e15 r0 r1 r2 r3 r4 r5 r6 r7 r8 s0 s1 s2 s3 s4 s5 s6 s7 s8 t0 t1 t2 t3 t4 t5 t6 t7 t8 =>
 rec e14 (IntKind.wrap .i64 (e15 + (1 : Int))) r0 r1 r2 r3 r4 r5 r6 r7 r8 s0 s1 s2 s3 s4 s5 s6 s7 s8 t0 t1 t2 t3 t4 t5 t6 t7 t8) v14 v15 p0 p1 p2 p3 p4 p5 p6 p7 p8 q0 q1 q2 q3 q4 q5 q6 q7 q8 c0 c1 c2 c3 c4 c5 c6 c7 c8
 else
 none
 else
 none
 else
 none
 else
 bif v14 == (2 : Int) then
 bif v15 == (0 : Int) then
 bif v15 == (0 : Int) then
 bif v14 == (0 : Int) then
 bif !(c6 == (IntKind.wrap .i64 (0 - c0))) then
 kr false p0 p1 p2 p3 p4 p5 p6 p7 p8 q0 q1 q2 q3 q4 q5 q6 q7 q8 c0 c1 c2 c3 c4 c5 c6 c7 c8
 else
 F.law03_DecOrders.C31 n
 (fun e2 r0 r1 r2 r3 r4 r5 r6 r7 r8 s0 s1 s2 s3 s4 s5 s6 s7 s8 t0 t1 t2 t3 t4 t5 t6 t7 t8 =>
 kr e2 r0 r1 r2 r3 r4 r5 r6 r7 r8 s0 s1 s2 s3 s4 s5 s6 s7 s8 t0 t1 t2 t3 t4 t5 t6 t7 t8)
 (fun e14 e15 r0 r1 r2 r3 r4 r5 r6 r7 r8 s0 s1 s2 s3 s4 s5 s6 s7 s8 t0 t1 t2 t3 t4 t5 t6 t7 t8 =>
 rec e14 (IntKind.wrap .i64 (e15 + (1 : Int))) r0 r1 r2 r3 r4 r5 r6 r7 r8 s0 s1 s2 s3 s4 s5 s6 s7 s8 t0 t1 t2 t3 t4 t5 t6 t7 t8) v14 v15 p0 p1 p2 p3 p4 p5 p6 p7 p8 q0 q1 q2 q3 q4 q5 q6 q7 q8 c0 c1 c2 c3 c4 c5 c6 c7 c8
 else
 bif v14 == (1 : Int) then
 bif !(c6 == (IntKind.wrap .i64 (0 - c1))) then
 kr false p0 p1 p2 p3 p4 p5 p6 p7 p8 q0 q1 q2 q3 q4 q5 q6 q7 q8 c0 c1 c2 c3 c4 c5 c6 c7 c8
 else
 F.law03_DecOrders.C31 n
 (fun e2 r0 r1 r2 r3 r4 r5 r6 r7 r8 s0 s1 s2 s3 s4 s5 s6 s7 s8 t0 t1 t2 t3 t4 t5 t6 t7 t8 =>
 kr e2 r0 r1 r2 r3 r4 r5 r6 r7 r8 s0 s1 s2 s3 s4 s5 s6 s7 s8 t0 t1 t2 t3 t4 t5 t6 t7 t8)
 (fun e14 e15 r0 r1 r2 r3 r4 r5 r6 r7 r8 s0 s1 s2 s3 s4 s5 s6 s7 s8 t0 t1 t2 t3 t4 t5 t6 t7 t8 =>
 rec e14 (IntKind.wrap .i64 (e15 + (1 : Int))) r0 r1 r2 r3 r4 r5 r6 r7 r8 s0 s1 s2 s3 s4 s5 s6 s7 s8 t0 t1 t2 t3 t4 t5 t6 t7 t8) v14 v15 p0 p1 p2 p3 p4 p5 p6 p7 p8 q0 q1 q2 q3 q4 q5 q6 q7 q8 c0 c1 c2 c3 c4 c5 c6 c7 c8
 else
 bif v14 == (2 : Int) then
 bif !(c6 == (IntKind.wrap .i64 (0 - c2))) then
 kr false p0 p1 p2 p3 p4 p5 p6 p7 p8 q0 q1 q2 q3 q4 q5 q6 q7 q8 c0 c1 c2 c3 c4 c5 c6 c7 c8
 else
 F.law03_DecOrders.C31 n
 (fun e2 r0 r1 r2 r3 r4 r5 r6 r7 r8 s0 s1 s2 s3 s4 s5 s6 s7 s8 t0 t1 t2 t3 t4 t5 t6 t7 t8 =>
 kr e2 r0 r1 r2 r3 r4 r5 r6 r7 r8 s0 s1 s2 s3 s4 s5 s6 s7 s8 t0 t1 t2 t3 t4 t5 t6 t7 t8)
 (fun e14 e15 r0 r1 r2 r3 r4 r5 r6 r7 r8 s0 s1 s2 s3 s4 s5 s6 s7 s8 t0 t1 t2 t3 t4 t5 t6 t7 t8 =>
 rec e14 (IntKind.wrap .i64 (e15 + (1 : Int))) r0 r1 r2 r3 r4 r5 r6 r7 r8 s0 s1 s2 s3 s4 s5 s6 s7 s8 t0 t1 t2 t3 t4 t5 t6 t7 t8) v14 v15 p0 p1 p2 p3 p4 p5 p6 p7 p8 q0 q1 q2 q3 q4 q5 q6 q7 q8 c0 c1 c2 c3 c4 c5 c6 c7 c8
 else
 none
 else
 bif v15 == (1 : Int) then
 bif v14 == (0 : Int) then
 bif !(c6 == (IntKind.wrap .i64 (0 - c3))) then
 kr false p0 p1 p2 p3 p4 p5 p6 p7 p8 q0 q1 q2 q3 q4 q5 q6 q7 q8 c0 c1 c2 c3 c4 c5 c6 c7 c8
 else
 F.law03_DecOrders.C31 n
 (fun e2 r0 r1 r2 r3 r4 r5 r6 r7 r8 s0 s1 s2 s3 s4 s5 s6 s7 s8 t0 t1 t2 t3 t4 t5 t6 t7 t8 =>
 kr e2 r0 r1 r2 r3 r4 r5 r6 r7 r8 s0 s1 s2 s3 s4 s5 s6 s7 s8 t0 t1 t2 t3 t4 t5 t6 t7 t8)
 (fun e14 e15 r0 r1 r2 r3 r4 r5 r6 r7 r8 s0 s1 s2 s3 s4 s5 s6 s7 s8 t0 t1 t2 t3 t4 t5 t6 t7 t8 =>
 rec e14 (IntKind.wrap .i64 (e15 + (1 : Int))) r0 r1 r2 r3 r4 r5 r6 r7 r8 s0 s1 s2 s3 s4 s5 s6 s7 s8 t0 t1 t2 t3 t4 t5 t6 t7 t8) v14 v15 p0 p1 p2 p3 p4 p5 p6 p7 p8 q0 q1 q2 q3 q4 q5 q6 q7 q8 c0 c1 c2 c3 c4 c5 c6 c7 c8
 else
 bif v14 == (1 : Int) then
 bif !(c6 == (IntKind.wrap .i64 (0 - c4))) then
 kr false p0 p1 p2 p3 p4 p5 p6 p7 p8 q0 q1 q2 q3 q4 q5 q6 q7 q8 c0 c1 c2 c3 c4 c5 c6 c7 c8
 else
 F.law03_DecOrders.C31 n
 (fun e2 r0 r1 r2 r3 r4 r5 r6 r7 r8 s0 s1 s2 s3 s4 s5 s6 s7 s8 t0 t1 t2 t3 t4 t5 t6 t7 t8 =>
 kr e2 r0 r1 r2 r3 r4 r5 r6 r7 r8 s0 s1 s2 s3 s4 s5 s6 s7 s8 t0 t1 t2 t3 t4 t5 t6 t7 t8)
 (fun e14 e15 r0 r1 r2 r3 r4 r5 r6 r7 r8 s0 s1 s2 s3 s4 s5 s6 s7 s8 t0 t1 t2 t3 t4 t5 t6 t7 t8 =>
 rec e14 (IntKind.wrap .i64 (e15 + (1 : Int))) r0 r1 r2 r3 r4 r5 r6 r7 r8 s0 s1 s2 s3 s4 s5 s6 s7 s8 t0 t1 t2 t3 t4 t5 t6 t7 t8) v14 v15 p0 p1 p2 p3 p4 p5 p6 p7 p8 q0 q1 q2 q3 q4 q5 q6 q7 q8 c0 c1 c2 c3 c4 c5 c6 c7 c8
 else
 bif v14 == (2 : Int) then
 bif !(c6 == (IntKind.wrap .i64 (0 - c5))) then
 kr false p0 p1 p2 p3 p4 p5 p6 p7 p8 q0 q1 q2 q3 q4 q5 q6 q7 q8 c0 c1 c2 c3 c4 c5 c6 c7 c8
 else
 F.law03_DecOrders.C31 n
 (fun e2 r0 r1 r2 r3 r4 r5 r6 r7 r8 s0 s1 s2 s3 s4 s5 s6 s7 s8 t0 t1 t2 t3 t4 t5 t6 t7 t8 =>
 kr e2 r0 r1 r2 r3 r4 r5 r6 r7 r8 s0 s1 s2 s3 s4 s5 s6 s7 s8 t0 t1 t2 t3 t4 t5 t6 t7 t8)
 (fun e14 e15 r0 r1 r2 r3 r4 r5 r6 r7 r8 s0 s1 s2 s3 s4 s5 s6 s7 s8 t0 t1 t2 t3 t4 t5 t6 t7 t8 =>
 rec e14 (IntKind.wrap .i64 (e15 + (1 : Int))) r0 r1 r2 r3 r4 r5 r6 r7 r8 s0 s1 s2 s3 s4 s5 s6 s7 s8 t0 t1 t2 t3 t4 t5 t6 t7 t8) v14 v15 p0 p1 p2 p3 p4 p5 p6 p7 p8 q0 q1 q2 q3 q4 q5 q6 q7 q8 c0 c1 c2 c3 c4 c5 c6 c7 c8
 else
 none
 else
 bif v15 == (2 : Int) then
 bif v14 == (0 : Int) then
 bif !(c6 == (IntKind.wrap .i64 (0 - c6))) then
 kr false p0 p1 p2 p3 p4 p5 p6 p7 p8 q0 q1 q2 q3 q4 q5 q6 q7 q8 c0 c1 c2 c3 c4 c5 c6 c7 c8
 else
 F.law03_DecOrders.C31 n
 (fun e2 r0 r1 r2 r3 r4 r5 r6 r7 r8 s0 s1 s2 s3 s4 s5 s6 s7 s8 t0 t1 t2 t3 t4 t5 t6 t7 t8 =>
 kr e2 r0 r1 r2 r3 r4 r5 r6 r7 r8 s0 s1 s2 s3 s4 s5 s6 s7 s8 t0 t1 t2 t3 t4 t5 t6 t7 t8)
 (fun e14 e15 r0 r1 r2 r3 r4 r5 r6 r7 r8 s0 s1 s2 s3 s4 s5 s6 s7 s8 t0 t1 t2 t3 t4 t5 t6 t7 t8 =>
 rec e14 (IntKind.wrap .i64 (e15 + (1 : Int))) r0 r1 r2 r3 r4 r5 r6 r7 r8 s0 s1 s2 s3 s4 s5 s6 s7 s8 t0 t1 t2 t3 t4 t5 t6 t7 t8) v14 v15 p0 p1 p2 p3 p4 p5 p6 p7 p8 q0 q1 q2 q3 q4 q5 q6 q7 q8 c0 c1 c2 c3 c4 c5 c6 c7 c8
 else
 bif v14 == (1 : Int) then
 bif !(c6 == (IntKind.wrap .i64 (0 - c7))) then
 kr false p0 p1 p2 p3 p4 p5 p6 p7 p8 q0 q1 q2 q3 q4 q5 q6 q7 q8 c0 c1 c2 c3 c4 c5 c6 c7 c8
 else
 F.law03_DecOrders.C31 n
 (fun e2 r0 r1 r2 r3 r4 r5 r6 r7 r8 s0 s1 s2 s3 s4 s5 s6 s7 s8 t0 t1 t2 t3 t4 t5 t6 t7 t8 =>
 kr e2 r0 r1 r2 r3 r4 r5 r6 r7 r8 s0 s1 s2 s3 s4 s5 s6 s7 s8 t0 t1 t2 t3 t4 t5 t6 t7 t8)
 (fun e14 e15 r0 r1 r2 r3 r4 r5 r6 r7 r8 s0 s1 s2 s3 s4 s5 s6 s7 s8 t0 t1 t2 t3 t4 t5 t6 t7 t8 =>
 rec e14 (IntKind.wrap .i64 (e15 + (1 : Int))) r0 r1 r2 r3 r4 r5 r6 r7 r8 s0 s1 s2 s3 s4 s5 s6 s7 s8 t0 t1 t2 t3 t4 t5 t6 t7 t8) v14 v15 p0 p1 p2 p3 p4 p5 p6 p7 p8 q0 q1 q2 q3 q4 q5 q6 q7 q8 c0 c1 c2 c3 c4 c5 c6 c7 c8
 else
 bif v14 == (2 : Int) then
 bif !(c6 == (IntKind.wrap .i64 (0 - c8))) then
 kr false p0 p1 p2 p3 p4 p5 p6 p7 p8 q0 q1 q2 q3 q4 q5 q6 q7 q8 c0 c1 c2 c3 c4 c5 c6 c7 c8
 else
 F.law03_DecOrders.C31 n
 (fun e2 r0 r1 r2 r3 r4 r5 r6 r7 r8 s0 s1 s2 s3 s4 s5 s6 s7 s8 t0 t1 t2 t3 t4 t5 t6 t7 t8 =>
 kr e2 r0 r1 r2 r3 r4 r5 r6 r7 r8 s0 s1 s2 s3 s4 s5 s6 s7 s8 t0 t1 t2 t3 t4 t5 t6 t7 t8)
 (fun e14 e15 r0 r1 r2 r3 r4 r5 r6 r7 r8 s0 s1 s2 s3 s4 s5 s6 s7 s8 t0 t1 t2 t3 t4 t5 t6 t7 t8 =>
 rec e14 (IntKind.wrap .i64 (e15 + (1 : Int))) r0 r1 r2 r3 r4 r5 r6 r7 r8 s0 s1 s2 s3 s4 s5 s6 s7 s8 t0 t1 t2 t3 t4 t5 t6 t7 t8) v14 v15 p0 p1 p2 p3 p4 p5 p6 p7 p8 q0 q1 q2 q3 q4 q5 q6 q7 q8 c0 c1 c2 c3 c4 c5 c6 c7 c8
 else
 none
 else
 none
 else
 bif v15 == (1 : Int) then
 bif v15 == (0 : Int) then
 bif v14 == (0 : Int) then
 bif !(c7 == (IntKind.wrap .i64 (0 - c0))) then
 kr false p0 p1 p2 p3 p4 p5 p6 p7 p8 q0 q1 q2 q3 q4 q5 q6 q7 q8 c0 c1 c2 c3 c4 c5 c6 c7 c8
 else
 F.law03_DecOrders.C31 n
 (fun e2 r0 r1 r2 r3 r4 r5 r6 r7 r8 s0 s1 s2 s3 s4 s5 s6 s7 s8 t0 t1 t2 t3 t4 t5 t6 t7 t8 =>
 kr e2 r0 r1 r2 r3 r4 r5 r6 r7 r8 s0 s1 s2 s3 s4 s5 s6 s7 s8 t0 t1 t2 t3 t4 t5 t6 t7 t8)
 (fun e14 e15 r0 r1 r2 r3 r4 r5 r6 r7 r8 s0 s1 s2 s3 s4 s5 s6 s7 s8 t0 t1 t2 t3 t4 t5 t6 t7 t8 =>
 rec e14 (IntKind.wrap .i64 (e15 + (1 : Int))) r0 r1 r2 r3 r4 r5 r6 r7 r8 s0 s1 s2 s3 s4 s5 s6 s7 s8 t0 t1 t2 t3 t4 t5 t6 t7 t8) v14 v15 p0 p1 p2 p3 p4 p5 p6 p7 p8 q0 q1 q2 q3 q4 q5 q6 q7 q8 c0 c1 c2 c3 c4 c5 c6 c7 c8
 else
 bif v14 == (1 : Int) then
 bif !(c7 == (IntKind.wrap .i64 (0 - c1))) then
 kr false p0 p1 p2 p3 p4 p5 p6 p7 p8 q0 q1 q2 q3 q4 q5 q6 q7 q8 c0 c1 c2 c3 c4 c5 c6 c7 c8
 else
 F.law03_DecOrders.C31 n
 (fun e2 r0 r1 r2 r3 r4 r5 r6 r7 r8 s0 s1 s2 s3 s4 s5 s6 s7 s8 t0 t1 t2 t3 t4 t5 t6 t7 t8 =>
 kr e2 r0 r1 r2 r3 r4 r5 r6 r7 r8 s0 s1 s2 s3 s4 s5 s6 s7 s8 t0 t1 t2 t3 t4 t5 t6 t7 t8)
 (fun e14 e15 r0 r1 r2 r3 r4 r5 r6 r7 r8 s0 s1 s2 s3 s4 s5 s6 s7 s8 t0 t1 t2 t3 t4 t5 t6 t7 t8 =>
 rec e14 (IntKind.wrap .i64 (e15 + (1 : Int))) r0 r1 r2 r3 r4 r5 r6 r7 r8 s0 s1 s2 s3 s4 s5 s6 s7 s8 t0 t1 t2 t3 t4 t5 t6 t7 t8) v14 v15 p0 p1 p2 p3 p4 p5 p6 p7 p8 q0 q1 q2 q3 q4 q5 q6 q7 q8 c0 c1 c2 c3 c4 c5 c6 c7 c8
 else
 bif v14 == (2 : Int) then
 bif !(c7 == (IntKind.wrap .i64 (0 - c2))) then
 kr false p0 p1 p2 p3 p4 p5 p6 p7 p8 q0 q1 q2 q3 q4 q5 q6 q7 q8 c0 c1 c2 c3 c4 c5 c6 c7 c8
 else
 F.law03_DecOrders.C31 n
 (fun e2 r0 r1 r2 r3 r4 r5 r6 r7 r8 s0 s1 s2 s3 s4 s5 s6 s7 s8 t0 t1 t2 t3 t4 t5 t6 t7 t8 =>
 kr e2 r0 r1 r2 r3 r4 r5 r6 r7 r8 s0 s1 s2 s3 s4 s5 s6 s7 s8 t0 t1 t2 t3 t4 t5 t6 t7 t8)
 (fun e14 e15 r0 r1 r2 r3 r4 r5 r6 r7 r8 s0 s1 s2 s3 s4 s5 s6 s7 s8 t0 t1 t2 t3 t4 t5 t6 t7 t8 =>
 rec e14 (IntKind.wrap .i64 (e15 + (1 : Int))) r0 r1 r2 r3 r4 r5 r6 r7 r8 s0 s1 s2 s3 s4 s5 s6 s7 s8 t0 t1 t2 t3 t4 t5 t6 t7 t8) v14 v15 p0 p1 p2 p3 p4 p5 p6 p7 p8 q0 q1 q2 q3 q4 q5 q6 q7 q8 c0 c1 c2 c3 c4 c5 c6 c7 c8
 else
 none
 else
 bif v15 == (1 : Int) then
 bif v14 == (0 : Int) then
 bif !(c7 == (IntKind.wrap .i64 (0 - c3))) then
 kr false p0 p1 p2 p3 p4 p5 p6 p7 p8 q0 q1 q2 q3 q4 q5 q6 q7 q8 c0 c1 c2 c3 c4 c5 c6 c7 c8
 else
 F.law03_DecOrders.C31 n
 (fun e2 r0 r1 r2 r3 r4 r5 r6 r7 r8 s0 s1 s2 s3 s4 s5 s6 s7 s8 t0 t1 t2 t3 t4 t5 t6 t7 t8 =>
 kr e2 r0 r1 r2 r3 r4 r5 r6 r7 r8 s0 s1 s2 s3 s4 s5 s6 s7 s8 t0 t1 t2 t3 t4 t5 t6 t7 t8)
 (fun e14 e15 r0 r1 r2 r3 r4 r5 r6 r7 r8 s0 s1 s2 s3 s4 s5 s6 s7 s8 t0 t1 t2 t3 t4 t5 t6 t7 t8 =>
 rec e14 (IntKind.wrap .i64 (e15 + (1 : Int))) r0 r1 r2 r3 r4 r5 r6 r7 r8 s0 s1 s2 s3 s4 s5 s6 s7 s8 t0 t1 t2 t3 t4 t5 t6 t7 t8) v14 v15 p0 p1 p2 p3 p4 p5 p6 p7 p8 q0 q1 q2 q3 q4 q5 q6 q7 q8 c0 c1 c2 c3 c4 c5 c6 c7 c8
 else
 bif v14 == (1 : Int) then
 bif !(c7 == (IntKind.wrap .i64 (0 - c4))) then
 kr false p0 p1 p2 p3 p4 p5 p6 p7 p8 q0 q1 q2 q3 q4 q5 q6 q7 q8 c0 c1 c2 c3 c4 c5 c6 c7 c8
 else
 F.law03_DecOrders.C31 n
 (fun e2 r0 r1 r2 r3 r4 r5 r6 r7 r8 s0 s1 s2 s3 s4 s5 s6 s7 s8 t0 t1 t2 t3 t4 t5 t6 t7 t8 =>
 kr e2 r0 r1 r2 r3 r4 r5 r6 r7 r8 s0 s1 s2 s3 s4 s5 s6 s7 s8 t0 t1 t2 t3 t4 t5 t6 t7 t8)
 (fun e14 e15 r0 r1 r2 r3 r4 r5 r6 r7 r8 s0 s1 s2 s3 s4 s5 s6 s7 s8 t0 t1 t2 t3 t4 t5 t6 t7 t8 =>
 rec e14 (IntKind.wrap .i64 (e15 + (1 : Int))) r0 r1 r2 r3 r4 r5 r6 r7 r8 s0 s1 s2 s3 s4 s5 s6 s7 s8 t0 t1 t2 t3 t4 t5 t6 t7 t8) v14 v15 p0 p1 p2 p3 p4 p5 p6 p7 p8 q0 q1 q2 q3 q4 q5 q6 q7 q8 c0 c1 c2 c3 c4 c5 c6 c7 c8
 else
 bif v14 == (2 : Int) then
 bif !(c7 == (IntKind.wrap .i64 (0 - c5))) then
 kr false p0 p1 p2 p3 p4 p5 p6 p7 p8 q0 q1 q2 q3 q4 q5 q6 q7 q8 c0 c1 c2 c3 c4 c5 c6 c7 c8
 else
 F.law03_DecOrders.C31 n
 (fun e2 r0 r1 r2 r3 r4 r5 r6 r7 r8 s0 s1 s2 s3 s4 s5 s6 s7 s8 t0 t1 t2 t3 t4 t5 t6 t7 t8 =>
 kr e2 r0 r1 r2 r3 r4 r5 r6 r7 r8 s0 s1 s2 s3 s4 s5 s6 s7 s8 t0 t1 t2 t3 t4 t5 t6 t7 t8)
 (fun e14 e15 r0 r1 r2 r3 r4 r5 r6 r7 r8 s0 s1 s2 s3 s4 s5 s6 s7 s8 t0 t1 t2 t3 t4 t5 t6 t7 t8 =>
 rec e14 (IntKind.wrap .i64 (e15 + (1 : Int))) r0 r1 r2 r3 r4 r5 r6 r7 r8 s0 s1 s2 s3 s4 s5 s6 s7 s8 t0 t1 t2 t3 t4 t5 t6 t7 t8) v14 v15 p0 p1 p2 p3 p4 p5 p6 p7 p8 q0 q1 q2 q3 q4 q5 q6 q7 q8 c0 c1 c2 c3 c4 c5 c6 c7 c8
 else
 none
 else
 bif v15 == (2 : Int) then
 bif v14 == (0 : Int) then
 bif !(c7 == (IntKind.wrap .i64 (0 - c6))) then
 kr false p0 p1 p2 p3 p4 p5 p6 p7 p8 q0 q1 q2 q3 q4 q5 q6 q7 q8 c0 c1 c2 c3 c4 c5 c6 c7 c8
 else
 F.law03_DecOrders.C31 n
 (fun e2 r0 r1 r2 r3 r4 r5 r6 r7 r8 s0 s1 s2 s3 s4 s5 s6 s7 s8 t0 t1 t2 t3 t4 t5 t6 t7 t8 =>
 kr e2 r0 r1 r2 r3 r4 r5 r6 r7 r8 s0 s1 s2 s3 s4 s5 s6 s7 s8 t0 t1 t2 t3 t4 t5 t6 t7 t8)
 (fun e14 e15 r0 r1 r2 r3 r4 r5 r6 r7 r8 s0 s1 s2 s3 s4 s5 s6 s7 s8 t0 t1 t2 t3 t4 t5 t6 t7 t8 =>
 rec e14 (IntKind.wrap .i64 (e15 + (1 : Int))) r0 r1 r2 r3 r4 r5 r6 r7 r8 s0 s1 s2 s3 s4 s5 s6 s7 s8 t0 t1 t2 t3 t4 t5 t6 t7 t8) v14 v15 p0 p1 p2 p3 p4 p5 p6 p7 p8 q0 q1 q2 q3 q4 q5 q6 q7 q8 c0 c1 c2 c3 c4 c5 c6 c7 c8
 else
 bif v14 == (1 : Int) then
 bif !(c7 == (IntKind.wrap .i64 (0 - c7))) then
 kr false p0 p1 p2 p3 p4 p5 p6 p7 p8 q0 q1 q2 q3 q4 q5 q6 q7 q8 c0 c1 c2 c3 c4 c5 c6 c7 c8
 else
 F.law03_DecOrders.C31 n
 (fun e2 r0 r1 r2 r3 r4 r5 r6 r7 r8 s0 s1 s2 s3 s4 s5 s6 s7 s8 t0 t1 t2 t3 t4 t5 t6 t7 t8 =>
 kr e2 r0 r1 r2 r3 r4 r5 r6 r7 r8 s0 s1 s2 s3 s4 s5 s6 s7 s8 t0 t1 t2 t3 t4 t5 t6 t7 t8)
 (fun e14 e15 r0 r1 r2 r3 r4 r5 r6 r7 r8 s0 s1 s2 s3 s4 s5 s6 s7 s8 t0 t1 t2 t3 t4 t5 t6 t7 t8 =>
 rec e14 (IntKind.wrap .i64 (e15 + (1 : Int))) r0 r1 r2 r3 r4 r5 r6 r7 r8 s0 s1 s2 s3 s4 s5 s6 s7 s8 t0 t1 t2 t3 t4 t5 t6 t7 t8) v14 v15 p0 p1 p2 p3 p4 p5 p6 p7 p8 q0 q1 q2 q3 q4 q5 q6 q7 q8 c0 c1 c2 c3 c4 c5 c6 c7 c8
 else
 bif v14 == (2 : Int) then
 bif !(c7 == (IntKind.wrap .i64 (0 - c8))) then
 kr false p0 p1 p2 p3 p4 p5 p6 p7 p8 q0 q1 q2 q3 q4 q5 q6 q7 q8 c0 c1 c2 c3 c4 c5 c6 c7 c8
 else
 F.law03_DecOrders.C31 n
 (fun e2 r0 r1 r2 r3 r4 r5 r6 r7 r8 s0 s1 s2 s3 s4 s5 s6 s7 s8 t0 t1 t2 t3 t4 t5 t6 t7 t8 =>
 kr e2 r0 r1 r2 r3 r4 r5 r6 r7 r8 s0 s1 s2 s3 s4 s5 s6 s7 s8 t0 t1 t2 t3 t4 t5 t6 t7 t8)
 (fun e14 e15 r0 r1 r2 r3 r4 r5 r6 r7 r8 s0 s1 s2 s3 s4 s5 s6 s7 s8 t0 t1 t2 t3 t4 t5 t6 t7 t8 =>
 rec e14 (IntKind.wrap .i64 (e15 + (1 : Int))) r0 r1 r2 r3 r4 r5 r6 r7 r8 s0 s1 s2 s3 s4 s5 s6 s7 s8 t0 t1 t2 t3 t4 t5 t6 t7 t8) v14 v15 p0 p1 p2 p3 p4 p5 p6 p7 p8 q0 q1 q2 q3 q4 q5 q6 q7 q8 c0 c1 c2 c3 c4 c5 c6 c7 c8
 else
 none
 else
 none
 else
 bif v15 == (2 : Int) then
 bif v15 == (0 : Int) then
 bif v14 == (0 : Int) then
 bif !(c8 == (IntKind.wrap .i64 (0 - c0))) then
 kr false p0 p1 p2 p3 p4 p5 p6 p7 p8 q0 q1 q2 q3 q4 q5 q6 q7 q8 c0 c1 c2 c3 c4 c5 c6 c7 c8
 else
 F.law03_DecOrders.C31 n
 (fun e2 r0 r1 r2 r3 r4 r5 r6 r7 r8 s0 s1 s2 s3 s4 s5 s6 s7 s8 t0 t1 t2 t3 t4 t5 t6 t7 t8 =>
 kr e2 r0 r1 r2 r3 r4 r5 r6 r7 r8 s0 s1 s2 s3 s4 s5 s6 s7 s8 t0 t1 t2 t3 t4 t5 t6 t7 t8)
 (fun e14 e15 r0 r1 r2 r3 r4 r5 r6 r7 r8 s0 s1 s2 s3 s4 s5 s6 s7 s8 t0 t1 t2 t3 t4 t5 t6 t7 t8 =>
 rec e14 (IntKind.wrap .i64 (e15 + (1 : Int))) r0 r1 r2 r3 r4 r5 r6 r7 r8 s0 s1 s2 s3 s4 s5 s6 s7 s8 t0 t1 t2 t3 t4 t5 t6 t7 t8) v14 v15 p0 p1 p2 p3 p4 p5 p6 p7 p8 q0 q1 q2 q3 q4 q5 q6 q7 q8 c0 c1 c2 c3 c4 c5 c6 c7 c8
 else
 bif v14 == (1 : Int) then
 bif !(c8 == (IntKind.wrap .i64 (0 - c1))) then
 kr false p0 p1 p2 p3 p4 p5 p6 p7 p8 q0 q1 q2 q3 q4 q5 q6 q7 q8 c0 c1 c2 c3 c4 c5 c6 c7 c8
 else
 F.law03_DecOrders.C31 n
 (fun e2 r0 r1 r2 r3 r4 r5 r6 r7 r8 s0 s1 s2 s3 s4 s5 s6 s7 s8 t0 t1 t2 t3 t4 t5 t6 t7 t8 =>
 kr e2 r0 r1 r2 r3 r4 r5 r6 r7 r8 s0 s1 s2 s3 s4 s5 s6 s7 s8 t0 t1 t2 t3 t4 t5 t6 t7 t8)
 (fun e14 e15 r0 r1 r2 r3 r4 r5 r6 r7 r8 s0 s1 s2 s3 s4 s5 s6 s7 s8 t0 t1 t2 t3 t4 t5 t6 t7 t8 =>
 rec e14 (IntKind.wrap .i64 (e15 + (1 : Int))) r0 r1 r2 r3 r4 r5 r6 r7 r8 s0 s1 s2 s3 s4 s5 s6 s7 s8 t0 t1 t2 t3 t4 t5 t6 t7 t8) v14 v15 p0 p1 p2 p3 p4 p5 p6 p7 p8 q0 q1 q2 q3 q4 q5 q6 q7 q8 c0 c1 c2 c3 c4 c5 c6 c7 c8
 else
 bif v14 == (2 : Int) then
 bif !(c8 == (IntKind.wrap .i64 (0 - c2))) then
 kr false p0 p1 p2 p3 p4 p5 p6 p7 p8 q0 q1 q2 q3 q4 q5 q6 q7 q8 c0 c1 c2 c3 c4 c5 c6 c7 c8
 else
 F.law03_DecOrders.C31 n
 (fun e2 r0 r1 r2 r3 r4 r5 r6 r7 r8 s0 s1 s2 s3 s4 s5 s6 s7 s8 t0 t1 t2 t3 t4 t5 t6 t7 t8 =>
 kr e2 r0 r1 r2 r3 r4 r5 r6 r7 r8 s0 s1 s2 s3 s4 s5 s6 s7 s8 t0 t1 t2 t3 t4 t5 t6 t7 t8)
 (fun e14 e15 r0 r1 r2 r3 r4 r5 r6 r7 r8 s0 s1 s2 s3 s4 s5 s6 s7 s8 t0 t1 t2 t3 t4 t5 t6 t7 t8 =>
 rec e14 (IntKind.wrap .i64 (e15 + (1 : Int))) r0 r1 r2 r3 r4 r5 r6 r7 r8 s0 s1 s2 s3 s4 s5 s6 s7 s8 t0 t1 t2 t3 t4 t5 t6 t7 t8) v14 v15 p0 p1 p2 p3 p4 p5 p6 p7 p8 q0 q1 q2 q3 q4 q5 q6 q7 q8 c0 c1 c2 c3 c4 c5 c6 c7 c8
 else
 none
 else
 bif v15 == (1 : Int) then
 bif v14 == (0 : Int) then
 bif !(c8 == (IntKind.wrap .i64 (0 - c3))) then
 kr false p0 p1 p2 p3 p4 p5 p6 p7 p8 q0 q1 q2 q3 q4 q5 q6 q7 q8 c0 c1 c2 c3 c4 c5 c6 c7 c8
 else
 F.law03_DecOrders.C31 n
 (fun e2 r0 r1 r2 r3 r4 r5 r6 r7 r8 s0 s1 s2 s3 s4 s5 s6 s7 s8 t0 t1 t2 t3 t4 t5 t6 t7 t8 =>
 kr e2 r0 r1 r2 r3 r4 r5 r6 r7 r8 s0 s1 s2 s3 s4 s5 s6 s7 s8 t0 t1 t2 t3 t4 t5 t6 t7 t8)
 (fun e14 e15 r0 r1 r2 r3 r4 r5 r6 r7 r8 s0 s1 s2 s3 s4 s5 s6 s7 s8 t0 t1 t2 t3 t4 t5 t6 t7 t8 =>
 rec e14 (IntKind.wrap .i64 (e15 + (1 : Int))) r0 r1 r2 r3 r4 r5 r6 r7 r8 s0 s1 s2 s3 s4 s5 s6 s7 s8 t0 t1 t2 t3 t4 t5 t6 t7 t8) v14 v15 p0 p1 p2 p3 p4 p5 p6 p7 p8 q0 q1 q2 q3 q4 q5 q6 q7 q8 c0 c1 c2 c3 c4 c5 c6 c7 c8
 else
 bif v14 == (1 : Int) then
 bif !(c8 == (IntKind.wrap .i64 (0 - c4))) then
 kr false p0 p1 p2 p3 p4 p5 p6 p7 p8 q0 q1 q2 q3 q4 q5 q6 q7 q8 c0 c1 c2 c3 c4 c5 c6 c7 c8
 else
 F.law03_DecOrders.C31 n
 (fun e2 r0 r1 r2 r3 r4 r5 r6 r7 r8 s0 s1 s2 s3 s4 s5 s6 s7 s8 t0 t1 t2 t3 t4 t5 t6 t7 t8 =>
 kr e2 r0 r1 r2 r3 r4 r5 r6 r7 r8 s0 s1 s2 s3 s4 s5 s6 s7 s8 t0 t1 t2 t3 t4 t5 t6 t7 t8)
 (fun e14 e15 r0 r1 r2 r3 r4 r5 r6 r7 r8 s0 s1 s2 s3 s4 s5 s6 s7 s8 t0 t1 t2 t3 t4 t5 t6 t7 t8 =>
 rec e14 (IntKind.wrap .i64 (e15 + (1 : Int))) r0 r1 r2 r3 r4 r5 r6 r7 r8 s0 s1 s2 s3 s4 s5 s6 s7 s8 t0 t1 t2 t3 t4 t5 t6 t7 t8) v14 v15 p0 p1 p2 p3 p4 p5 p6 p7 p8 q0 q1 q2 q3 q4 q5 q6 q7 q8 c0 c1 c2 c3 c4 c5 c6 c7 c8
 else
 bif v14 == (2 : Int) then
 bif !(c8 == (IntKind.wrap .i64 (0 - c5))) then
 kr false p0 p1 p2 p3 p4 p5 p6 p7 p8 q0 q1 q2 q3 q4 q5 q6 q7 q8 c0 c1 c2 c3 c4 c5 c6 c7 c8
 else
 F.law03_DecOrders.C31 n
 (fun e2 r0 r1 r2 r3 r4 r5 r6 r7 r8 s0 s1 s2 s3 s4 s5 s6 s7 s8 t0 t1 t2 t3 t4 t5 t6 t7 t8 =>
 kr e2 r0 r1 r2 r3 r4 r5 r6 r7 r8 s0 s1 s2 s3 s4 s5 s6 s7 s8 t0 t1 t2 t3 t4 t5 t6 t7 t8)
 (fun e14 e15 r0 r1 r2 r3 r4 r5 r6 r7 r8 s0 s1 s2 s3 s4 s5 s6 s7 s8 t0 t1 t2 t3 t4 t5 t6 t7 t8 =>
 rec e14 (IntKind.wrap .i64 (e15 + (1 : Int))) r0 r1 r2 r3 r4 r5 r6 r7 r8 s0 s1 s2 s3 s4 s5 s6 s7 s8 t0 t1 t2 t3 t4 t5 t6 t7 t8) v14 v15 p0 p1 p2 p3 p4 p5 p6 p7 p8 q0 q1 q2 q3 q4 q5 q6 q7 q8 c0 c1 c2 c3 c4 c5 c6 c7 c8
 else
 none
 else
 bif v15 == (2 : Int) then
 bif v14 == (0 : Int) then
 bif !(c8 == (IntKind.wrap .i64 (0 - c6))) then
 kr false p0 p1 p2 p3 p4 p5 p6 p7 p8 q0 q1 q2 q3 q4 q5 q6 q7 q8 c0 c1 c2 c3 c4 c5 c6 c7 c8
 else
 F.law03_DecOrders.C31 n
 (fun e2 r0 r1 r2 r3 r4 r5 r6 r7 r8 s0 s1 s2 s3 s4 s5 s6 s7 s8 t0 t1 t2 t3 t4 t5 t6 t7 t8 =>
 kr e2 r0 r1 r2 r3 r4 r5 r6 r7 r8 s0 s1 s2 s3 s4 s5 s6 s7 s8 t0 t1 t2 t3 t4 t5 t6 t7 t8)
 (fun e14 e15 r0 r1 r2 r3 r4 r5 r6 r7 r8 s0 s1 s2 s3 s4 s5 s6 s7 s8 t0 t1 t2 t3 t4 t5 t6 t7 t8 =>
 rec e14 (IntKind.wrap .i64 (e15 + (1 : Int))) r0 r1 r2 r3 r4 r5 r6 r7 r8 s0 s1 s2 s3 s4 s5 s6 s7 s8 t0 t1 t2 t3 t4 t5 t6 t7 t8) v14 v15 p0 p1 p2 p3 p4 p5 p6 p7 p8 q0 q1 q2 q3 q4 q5 q6 q7 q8 c0 c1 c2 c3 c4 c5 c6 c7 c8
 else
 bif v14 == (1 : Int) then
 bif !(c8 == (IntKind.wrap .i64 (0 - c7))) then
 kr false p0 p1 p2 p3 p4 p5 p6 p7 p8 q0 q1 q2 q3 q4 q5 q6 q7 q8 c0 c1 c2 c3 c4 c5 c6 c7 c8
 else
 F.law03_DecOrders.C31 n
 (fun e2 r0 r1 r2 r3 r4 r5 r6 r7 r8 s0 s1 s2 s3 s4 s5 s6 s7 s8 t0 t1 t2 t3 t4 t5 t6 t7 t8 =>
 kr e2 r0 r1 r2 r3 r4 r5 r6 r7 r8 s0 s1 s2 s3 s4 s5 s6 s7 s8 t0 t1 t2 t3 t4 t5 t6 t7 t8)
 (fun e14 e15 r0 r1 r2 r3 r4 r5 r6 r7 r8 s0 s1 s2 s3 s4 s5 s6 s7 s8 t0 t1 t2 t3 t4 t5 t6 t7 t8 =>
 rec e14 (IntKind.wrap .i64 (e15 + (1 : Int))) r0 r1 r2 r3 r4 r5 r6 r7 r8 s0 s1 s2 s3 s4 s5 s6 s7 s8 t0 t1 t2 t3 t4 t5 t6 t7 t8) v14 v15 p0 p1 p2 p3 p4 p5 p6 p7 p8 q0 q1 q2 q3 q4 q5 q6 q7 q8 c0 c1 c2 c3 c4 c5 c6 c7 c8
 else
 bif v14 == (2 : Int) then
 bif !(c8 == (IntKind.wrap .i64 (0 - c8))) then
 kr false p0 p1 p2 p3 p4 p5 p6 p7 p8 q0 q1 q2 q3 q4 q5 q6 q7 q8 c0 c1 c2 c3 c4 c5 c6 c7 c8
 else
 F.law03_DecOrders.C31 n
 (fun e2 r0 r1 r2 r3 r4 r5 r6 r7 r8 s0 s1 s2 s3 s4 s5 s6 s7 s8 t0 t1 t2 t3 t4 t5 t6 t7 t8 =>
 kr e2 r0 r1 r2 r3 r4 r5 r6 r7 r8 s0 s1 s2 s3 s4 s5 s6 s7 s8 t0 t1 t2 t3 t4 t5 t6 t7 t8)
 (fun e14 e15 r0 r1 r2 r3 r4 r5 r6 r7 r8 s0 s1 s2 s3 s4 s5 s6 s7 s8 t0 t1 t2 t3 t4 t5 t6 t7 t8 =>
 rec e14 (IntKind.wrap .i64 (e15 + (1 : Int))) r0 r1 r2 r3 r4 r5 r6 r7 r8 s0 s1 s2 s3 s4 s5 s6 s7 s8 t0 t1 t2 t3 t4 t5 t6 t7 t8) v14 v15 p0 p1 p2 p3 p4 p5 p6 p7 p8 q0 q1 q2 q3 q4 q5 q6 q7 q8 c0 c1 c2 c3 c4 c5 c6 c7 c8
 else
 none
 else
 none
 else
 none
 else
 none
 else
 k8 v14 p0 p1 p2 p3 p4 p5 p6 p7 p8 q0 q1 q2 q3 q4 q5 q6 q7 q8 c0 c1 c2 c3 c4 c5 c6 c7 c8
noncomputable def F.law03_DecOrders.L27 {X : Type} (n : Nat) (k8 : Int → Bool → Int → Int → Bool → Int → Int → Bool → Int → Int → Bool → Int → Int → Bool → Int → Int → Bool → Int → Int → Int → Int → Int → Int → Int → Int → Int → Int → Int → Option X) (kr : Bool → Bool → Int → Int → Bool → Int → Int → Bool → Int → Int → Bool → Int → Int → Bool → Int → Int → Bool → Int → Int → Int → Int → Int → Int → Int → Int → Int → Int → Int → Option X) : Nat → Int → Int → Bool → Int → Int → Bool → Int → Int → Bool → Int → Int → Bool → Int → Int → Bool → Int → Int → Bool → Int → Int → Int → Int → Int → Int → Int → Int → Int → Int → Int → Option X
 | 0 => fun _ _ _ _ _ _ _ _ _ _ _ _ _ _ _ _ _ _ _ _ _ _ _ _ _ _ _ _ _ => none
 | m + 1 => fun v14 v15 p0 p1 p2 p3 p4 p5 p6 p7 p8 q0 q1 q2 q3 q4 q5 q6 q7 q8 c0 c1 c2 c3 c4 c5 c6 c7 c8 => F.law03_DecOrders.L27.step n (F.law03_DecOrders.L27 n k8 kr m) k8 kr v14 v15 p0 p1 p2 p3 p4 p5 p6 p7 p8 q0 q1 q2 q3 q4 q5 q6 q7 q8 c0 c1 c2 c3 c4 c5 c6 c7 c8
noncomputable def F.law03_DecOrders.L24.step {X : Type} (n : Nat) (rec : Int → Bool → Int → Int → Bool → Int → Int → Bool → Int → Int → Bool → Int → Int → Bool → Int → Int → Bool → Int → Int → Int → Int → Int → Int → Int → Int → Int → Int → Int → Option X) (k6 : Bool → Int → Int → Bool → Int → Int → Bool → Int → Int → Bool → Int → Int → Bool → Int → Int → Bool → Int → Int → Int → Int → Int → Int → Int → Int → Int → Int → Int → Option X) (kr : Bool → Bool → Int → Int → Bool → Int → Int → Bool → Int → Int → Bool → Int → Int → Bool → Int → Int → Bool → Int → Int → Int → Int → Int → Int → Int → Int → Int → Int → Int → Option X) (v14 : Int) (p0 : Bool) (p1 : Int) (p2 : Int) (p3 : Bool) (p4 : Int) (p5 : Int) (p6 : Bool) (p7 : Int) (p8 : Int) (q0 : Bool) (q1 : Int) (q2 : Int) (q3 : Bool) (q4 : Int) (q5 : Int) (q6 : Bool) (q7 : Int) (q8 : Int) (c0 : Int) (c1 : Int) (c2 : Int) (c3 : Int) (c4 : Int) (c5 : Int) (c6 : Int) (c7 : Int) (c8 : Int) : Option X :=
 bif decide (v14 < (3 : Int)) then
 F.law03_DecOrders.L27 n
 (fun e14 r0 r1 r2 r3 r4 r5 r6 r7 r8 s0 s1 s2 s3 s4 s5 s6 s7 s8 t0 t1 t2 t3 t4 t5 t6 t7 t8 =>
 rec (IntKind.wrap .i64 (e14 + (1 : Int))) r0 r1 r2 r3 r4 r5 r6 r7 r8 s0 s1 s2 s3 s4 s5 s6 s7 s8 t0 t1 t2 t3 t4 t5 t6 t7 t8)
 (fun e2 r0 r1 r2 r3 r4 r5 r6 r7 r8 s0 s1 s2 s3 s4 s5 s6 s7 s8 t0 t1 t2 t3 t4 t5 t6 t7 t8 =>
 kr e2 r0 r1 r2 r3 r4 r5 r6 r7 r8 s0 s1 s2 s3 s4 s5 s6 s7 s8 t0 t1 t2 t3 t4 t5 t6 t7 t8) n v14 (0 : Int) p0 p1 p2 p3 p4 p5 p6 p7 p8 q0 q1 q2 q3 q4 q5 q6 q7 q8 c0 c1 c2 c3 c4 c5 c6 c7 c8
 else
 k6 p0 p1 p2 p3 p4 p5 p6 p7 p8 q0 q1 q2 q3 q4 q5 q6 q7 q8 c0 c1 c2 c3 c4 c5 c6 c7 c8
noncomputable def F.law03_DecOrders.L24 {X : Type} (n : Nat) (k6 : Bool → Int → Int → Bool → Int → Int → Bool → Int → Int → Bool → Int → Int → Bool → Int → Int → Bool → Int → Int → Int → Int → Int → Int → Int → Int → Int → Int → Int → Option X) (kr : Bool → Bool → Int → Int → Bool → Int → Int → Bool → Int → Int → Bool → Int → Int → Bool → Int → Int → Bool → Int → Int → Int → Int → Int → Int → Int → Int → Int → Int → Int → Option X) : Nat → Int → Bool → Int → Int → Bool → Int → Int → Bool → Int → Int → Bool → Int → Int → Bool → Int → Int → Bool → Int → Int → Int → Int → Int → Int → Int → Int → Int → Int → Int → Option X
 | 0 => fun _ _ _ _ _ _ _ _ _ _ _ _ _ _ _ _ _ _ _ _ _ _ _ _ _ _ _ _ => none
 | m + 1 => fun v14 p0 p1 p2 p3 p4 p5 p6 p7 p8 q0 q1 q2 q3 q4 q5 q6 q7 q8 c0 c1 c2 c3 c4 c5 c6 c7 c8 => F.law03_DecOrders.L24.step n (F.law03_DecOrders.L24 n k6 kr m) k6 kr v14 p0 p1 p2 p3 p4 p5 p6 p7 p8 q0 q1 q2 q3 q4 q5 q6 q7 q8 c0 c1 c2 c3 c4 c5 c6 c7 c8
noncomputable def F.law03_DecOrders (n : Nat) (a0 : (Bool) × (Int) × (Int) × (Bool) × (Int) × (Int) × (Bool) × (Int) × (Int) × Unit) : Option (Bool) :=
 F.law03_DecOrders.L3 n
 (fun r0 r1 r2 r3 r4 r5 r6 r7 r8 s0 s1 s2 s3 s4 s5 s6 s7 s8 =>
 F.law03_DecOrders.L11 n
 (fun r0 r1 r2 r3 r4 r5 r6 r7 r8 s0 s1 s2 s3 s4 s5 s6 s7 s8 t0 t1 t2 t3 t4 t5 t6 t7 t8 =>
 F.law03_DecOrders.L24 n
 (fun r0 r1 r2 r3 r4 r5 r6 r7 r8 s0 s1 s2 s3 s4 s5 s6 s7 s8 t0 t1 t2 t3 t4 t5 t6 t7 t8 =>
 (F.law03_awake n ).bind fun y326 =>
 some (y326))
 (fun e2 r0 r1 r2 r3 r4 r5 r6 r7 r8 s0 s1 s2 s3 s4 s5 s6 s7 s8 t0 t1 t2 t3 t4 t5 t6 t7 t8 =>
 some (e2)) n (0 : Int) r0 r1 r2 r3 r4 r5 r6 r7 r8 s0 s1 s2 s3 s4 s5 s6 s7 s8 t0 t1 t2 t3 t4 t5 t6 t7 t8)
 (fun e2 r0 r1 r2 r3 r4 r5 r6 r7 r8 s0 s1 s2 s3 s4 s5 s6 s7 s8 t0 t1 t2 t3 t4 t5 t6 t7 t8 =>
 some (e2)) n (0 : Int) r0 r1 r2 r3 r4 r5 r6 r7 r8 s0 s1 s2 s3 s4 s5 s6 s7 s8 (0 : Int) (0 : Int) (0 : Int) (0 : Int) (0 : Int) (0 : Int) (0 : Int) (0 : Int) (0 : Int))
 (fun e2 r0 r1 r2 r3 r4 r5 r6 r7 r8 s0 s1 s2 s3 s4 s5 s6 s7 s8 =>
 some (e2)) n (0 : Int) a0.1 a0.2.1 a0.2.2.1 a0.2.2.2.1 a0.2.2.2.2.1 a0.2.2.2.2.2.1 a0.2.2.2.2.2.2.1 a0.2.2.2.2.2.2.2.1 a0.2.2.2.2.2.2.2.2.1 false (0 : Int) (0 : Int) false (0 : Int) (0 : Int) false (0 : Int) (0 : Int)
end Go.AM
namespace Go.Proofs
open Go.Shelf
def Tryd.lays161_ren : Go.Shelf.Ren := ⟨fun | 161 => 19 | 231 => 31 | 227 => 28 | 233 => 32 | 235 => 33 | 228 => 43 | 197 => 46 | 151 => 45 | 260 => 61 | 152 => 60 | 137 => 71 | 119 => 72 | 224 => 57 | 225 => 56 | 217 => 55 | 266 => 69 | n => n, fun | 9 => 9 | 4 => 4 | 3 => 3 | 5 => 5 | 117 => 64 | 116 => 63 | 0 => 0 | 124 => 67 | 105 => 82 | 21 => 21 | 119 => 108 | 46 => 59 | 139 => 111 | 138 => 110 | n => n, fun | 3 => 2 | 4 => 3 | n => n⟩
theorem Tryd.lays161 : Go.Proofs.Lays.n161 Tryd.prog Tryd.lays161_ren := {
  mixed := by kernel_rfl
  f119 := Tryd.func72.trans (congrArg some (by kernel_rfl))
  f137 := Tryd.func71.trans (congrArg some (by kernel_rfl))
  f151 := Tryd.func45.trans (congrArg some (by kernel_rfl))
  f152 := Tryd.func60.trans (congrArg some (by kernel_rfl))
  f161 := Tryd.func19.trans (congrArg some (by kernel_rfl))
  f197 := Tryd.func46.trans (congrArg some (by kernel_rfl))
  f217 := Tryd.func55.trans (congrArg some (by kernel_rfl))
  f224 := Tryd.func57.trans (congrArg some (by kernel_rfl))
  f225 := Tryd.func56.trans (congrArg some (by kernel_rfl))
  f227 := Tryd.func28.trans (congrArg some (by kernel_rfl))
  f228 := Tryd.func43.trans (congrArg some (by kernel_rfl))
  f231 := Tryd.func31.trans (congrArg some (by kernel_rfl))
  f233 := Tryd.func32.trans (congrArg some (by kernel_rfl))
  f235 := Tryd.func33.trans (congrArg some (by kernel_rfl))
  f260 := Tryd.func61.trans (congrArg some (by kernel_rfl))
  f266 := Tryd.func69.trans (congrArg some (by kernel_rfl))
  t0 := Tryd.underlying0
  a0 := Tryd.isAgg0
  z0 := Tryd.sizeOf0
  v0 := Tryd.zeroValue0
  t3 := Tryd.underlying3
  a3 := Tryd.isAgg3
  z3 := Tryd.sizeOf3
  v3 := Tryd.zeroValue3
  t4 := Tryd.underlying4
  a4 := Tryd.isAgg4
  z4 := Tryd.sizeOf4
  v4 := Tryd.zeroValue4
  t5 := Tryd.underlying5
  a5 := Tryd.isAgg5
  z5 := Tryd.sizeOf5
  v5 := Tryd.zeroValue5
  t9 := Tryd.underlying9
  a9 := Tryd.isAgg9
  z9 := Tryd.sizeOf9
  v9 := Tryd.zeroValue9
  t21 := Tryd.underlying21
  a21 := Tryd.isAgg21
  z21 := Tryd.sizeOf21
  v21 := Tryd.zeroValue21
  t46 := Tryd.underlying59
  a46 := Tryd.isAgg59
  z46 := Tryd.sizeOf59
  v46 := Tryd.zeroValue59
  t105 := Tryd.underlying82
  a105 := Tryd.isAgg82
  z105 := Tryd.sizeOf82
  v105 := Tryd.zeroValue82
  t116 := Tryd.underlying63
  a116 := Tryd.isAgg63
  z116 := Tryd.sizeOf63
  t117 := Tryd.underlying64
  a117 := Tryd.isAgg64
  z117 := Tryd.sizeOf64
  v117 := Tryd.zeroValue64
  t119 := Tryd.underlying108
  a119 := Tryd.isAgg108
  z119 := Tryd.sizeOf108
  t124 := Tryd.underlying67
  a124 := Tryd.isAgg67
  z124 := Tryd.sizeOf67
  v124 := Tryd.zeroValue67
  t138 := Tryd.underlying110
  a138 := Tryd.isAgg110
  z138 := Tryd.sizeOf110
  v138 := Tryd.zeroValue110
  t139 := Tryd.underlying111
  a139 := Tryd.isAgg111
  z139 := Tryd.sizeOf111
  v139 := Tryd.zeroValue111
  g3 := by kernel_rfl
  g4 := by kernel_rfl }
open Go.RowKit in
theorem Tryd.strings_TrimLeft_one (s : ByteArray) (c : UInt8) (hc : c.toNat < 128) (w : World) :
    Calls Tryd.prog 19 #[.string s, .string ⟨#[c]⟩] w fun e w' => e = .returned (.string ⟨(Lib.trimLeftB s.data.toList c).toArray⟩) ∧ w' = w := Any.strings_TrimLeft_one Tryd.lays161 s c hc w
def Tryd.lays162_ren : Go.Shelf.Ren := ⟨fun | 162 => 18 | 232 => 27 | 227 => 28 | 234 => 29 | 236 => 30 | 228 => 43 | 271 => 44 | 151 => 45 | 120 => 59 | 197 => 46 | 152 => 60 | 260 => 61 | 137 => 71 | 119 => 72 | 224 => 57 | 225 => 56 | 217 => 55 | 266 => 69 | n => n, fun | 9 => 9 | 4 => 4 | 3 => 3 | 5 => 5 | 117 => 64 | 116 => 63 | 0 => 0 | 124 => 67 | 21 => 21 | 105 => 82 | 46 => 59 | 119 => 108 | 139 => 111 | 138 => 110 | n => n, fun | 3 => 2 | 4 => 3 | n => n⟩
theorem Tryd.lays162 : Go.Proofs.Lays.n162 Tryd.prog Tryd.lays162_ren := {
  mixed := by kernel_rfl
  f119 := Tryd.func72.trans (congrArg some (by kernel_rfl))
  f120 := Tryd.func59.trans (congrArg some (by kernel_rfl))
  f137 := Tryd.func71.trans (congrArg some (by kernel_rfl))
  f151 := Tryd.func45.trans (congrArg some (by kernel_rfl))
  f152 := Tryd.func60.trans (congrArg some (by kernel_rfl))
  f162 := Tryd.func18.trans (congrArg some (by kernel_rfl))
  f197 := Tryd.func46.trans (congrArg some (by kernel_rfl))
  f217 := Tryd.func55.trans (congrArg some (by kernel_rfl))
  f224 := Tryd.func57.trans (congrArg some (by kernel_rfl))
  f225 := Tryd.func56.trans (congrArg some (by kernel_rfl))
  f227 := Tryd.func28.trans (congrArg some (by kernel_rfl))
  f228 := Tryd.func43.trans (congrArg some (by kernel_rfl))
  f232 := Tryd.func27.trans (congrArg some (by kernel_rfl))
  f234 := Tryd.func29.trans (congrArg some (by kernel_rfl))
  f236 := Tryd.func30.trans (congrArg some (by kernel_rfl))
  f260 := Tryd.func61.trans (congrArg some (by kernel_rfl))
  f266 := Tryd.func69.trans (congrArg some (by kernel_rfl))
  f271 := Tryd.func44.trans (congrArg some (by kernel_rfl))
  t0 := Tryd.underlying0
  a0 := Tryd.isAgg0
  z0 := Tryd.sizeOf0
  v0 := Tryd.zeroValue0
  t3 := Tryd.underlying3
  a3 := Tryd.isAgg3
  z3 := Tryd.sizeOf3
  v3 := Tryd.zeroValue3
  t4 := Tryd.underlying4
  a4 := Tryd.isAgg4
  z4 := Tryd.sizeOf4
  v4 := Tryd.zeroValue4
  t5 := Tryd.underlying5
  a5 := Tryd.isAgg5
  z5 := Tryd.sizeOf5
  v5 := Tryd.zeroValue5
  t9 := Tryd.underlying9
  a9 := Tryd.isAgg9
  z9 := Tryd.sizeOf9
  v9 := Tryd.zeroValue9
  t21 := Tryd.underlying21
  a21 := Tryd.isAgg21
  z21 := Tryd.sizeOf21
  v21 := Tryd.zeroValue21
  t46 := Tryd.underlying59
  a46 := Tryd.isAgg59
  z46 := Tryd.sizeOf59
  v46 := Tryd.zeroValue59
  t105 := Tryd.underlying82
  a105 := Tryd.isAgg82
  z105 := Tryd.sizeOf82
  v105 := Tryd.zeroValue82
  t116 := Tryd.underlying63
  a116 := Tryd.isAgg63
  z116 := Tryd.sizeOf63
  t117 := Tryd.underlying64
  a117 := Tryd.isAgg64
  z117 := Tryd.sizeOf64
  v117 := Tryd.zeroValue64
  t119 := Tryd.underlying108
  a119 := Tryd.isAgg108
  z119 := Tryd.sizeOf108
  t124 := Tryd.underlying67
  a124 := Tryd.isAgg67
  z124 := Tryd.sizeOf67
  v124 := Tryd.zeroValue67
  t138 := Tryd.underlying110
  a138 := Tryd.isAgg110
  z138 := Tryd.sizeOf110
  v138 := Tryd.zeroValue110
  t139 := Tryd.underlying111
  a139 := Tryd.isAgg111
  z139 := Tryd.sizeOf111
  v139 := Tryd.zeroValue111
  g3 := by kernel_rfl
  g4 := by kernel_rfl }
open Go.RowKit in
theorem Tryd.strings_TrimRight_one (s : ByteArray) (c : UInt8) (hc : c.toNat < 128) (w : World) (hs : s.size ≤ 9223372036854775807) :
    Calls Tryd.prog 18 #[.string s, .string ⟨#[c]⟩] w fun e w' => e = .returned (.string ⟨(Lib.trimRightB s.data.toList c).toArray⟩) ∧ w' = w := Any.strings_TrimRight_one Tryd.lays162 s c hc w hs
def Tryd.lays106_ren : Go.Shelf.Ren := ⟨fun | 106 => 22 | 213 => 40 | 265 => 54 | n => n, fun | 9 => 9 | 3 => 3 | n => n, fun | n => n⟩
theorem Tryd.lays106 : Go.Proofs.Lays.n106 Tryd.prog Tryd.lays106_ren := {
  mixed := by kernel_rfl
  f106 := Tryd.func22.trans (congrArg some (by kernel_rfl))
  f213 := Tryd.func40.trans (congrArg some (by kernel_rfl))
  f265 := Tryd.func54.trans (congrArg some (by kernel_rfl))
  t3 := Tryd.underlying3
  a3 := Tryd.isAgg3
  z3 := Tryd.sizeOf3
  v3 := Tryd.zeroValue3
  t9 := Tryd.underlying9
  a9 := Tryd.isAgg9
  z9 := Tryd.sizeOf9
  v9 := Tryd.zeroValue9 }
open Go.RowKit in
theorem Tryd.strings_Compare (a b : ByteArray) (w : World) :
    Calls Tryd.prog 22 #[.string a, .string b] w fun e w' => e = .returned (.int .i64 (Lib.compareBytes a.data.toList b.data.toList)) ∧ w' = w := Any.strings_Compare Tryd.lays106 a b w
def Tryd.lays283_ren : Go.Shelf.Ren := ⟨fun | 283 => 47 | n => n, fun | 3 => 3 | 9 => 9 | 4 => 4 | n => n, fun | n => n⟩
theorem Tryd.lays283 : Go.Proofs.Lays.n283 Tryd.prog Tryd.lays283_ren := {
  mixed := by kernel_rfl
  f283 := Tryd.func47.trans (congrArg some (by kernel_rfl))
  t3 := Tryd.underlying3
  a3 := Tryd.isAgg3
  z3 := Tryd.sizeOf3
  v3 := Tryd.zeroValue3
  t4 := Tryd.underlying4
  a4 := Tryd.isAgg4
  z4 := Tryd.sizeOf4
  v4 := Tryd.zeroValue4
  t9 := Tryd.underlying9
  a9 := Tryd.isAgg9
  z9 := Tryd.sizeOf9
  v9 := Tryd.zeroValue9 }
open Go.Lib in
theorem Tryd.internal_strconv_small (i : Nat) (h : i < 100) (w : World) :
    Calls Tryd.prog 47 #[.int .i64 i] w fun e w' => e = .returned (.string ⟨(Lib.decDigits i).toArray⟩) ∧ w' = w := Any.internal_strconv_small Tryd.lays283 i h w
def Tryd.laysM284_ren : Go.Shelf.Ren := ⟨fun | 284 => 48 | 129 => 63 | 317 => 62 | 318 => 64 | n => n, fun | 53 => 22 | 3 => 3 | 212 => 99 | 0 => 0 | 4 => 4 | 46 => 59 | 5 => 5 | 9 => 9 | n => n, fun | 17 => 1 | n => n⟩
theorem Tryd.laysM284 : Go.Proofs.LaysM.n284 Tryd.prog Tryd.laysM284_ren := {
  mixed := by kernel_rfl
  f129 := Tryd.func63.trans (congrArg some (by kernel_rfl))
  f284 := Tryd.func48.trans (congrArg some (by kernel_rfl))
  f317 := Tryd.func62.trans (congrArg some (by kernel_rfl))
  f318 := Tryd.func64.trans (congrArg some (by kernel_rfl))
  t0 := Tryd.underlying0
  a0 := Tryd.isAgg0
  z0 := Tryd.sizeOf0
  v0 := Tryd.zeroValue0
  t3 := Tryd.underlying3
  a3 := Tryd.isAgg3
  z3 := Tryd.sizeOf3
  v3 := Tryd.zeroValue3
  t4 := Tryd.underlying4
  a4 := Tryd.isAgg4
  z4 := Tryd.sizeOf4
  v4 := Tryd.zeroValue4
  t5 := Tryd.underlying5
  a5 := Tryd.isAgg5
  z5 := Tryd.sizeOf5
  v5 := Tryd.zeroValue5
  t9 := Tryd.underlying9
  a9 := Tryd.isAgg9
  z9 := Tryd.sizeOf9
  v9 := Tryd.zeroValue9
  t46 := Tryd.underlying59
  a46 := Tryd.isAgg59
  z46 := Tryd.sizeOf59
  v46 := Tryd.zeroValue59
  t53 := Tryd.underlying22
  a53 := Tryd.isAgg22
  z53 := Tryd.sizeOf22
  v53 := Tryd.zeroValue22
  t212 := Tryd.underlying99
  a212 := Tryd.isAgg99
  z212 := Tryd.sizeOf99
  v212 := Tryd.zeroValue99
  g17 := by kernel_rfl
  i0 := by kernel_rfl
  i3 := by kernel_rfl
  i4 := by kernel_rfl
  i5 := by kernel_rfl
  i9 := by kernel_rfl
  i46 := by kernel_rfl
  i53 := by kernel_rfl
  i212 := by kernel_rfl
  m17 := by kernel_rfl }
open Go.Lib in
theorem Tryd.internal_strconv_numDigits (u : Nat) (h1 : 1 ≤ u) (h2 : u < 18446744073709551616) (w : World) (htab : Lib.TabIs Tryd.prog w "internal/strconv.uint64pow10" .u64 Lib.pow10Tab) :
    Calls Tryd.prog 48 #[.int .u64 u] w fun e w' => e = .returned (.int .i64 (Lib.nDigits u)) ∧ w' = w := Any.internal_strconv_numDigits Tryd.laysM284 u h1 h2 w htab
def Tryd.lays285_ren : Go.Shelf.Ren := ⟨fun | 285 => 49 | n => n, fun | 37 => 71 | 53 => 22 | 3 => 3 | 4 => 4 | 51 => 91 | 9 => 9 | 5 => 5 | 0 => 0 | n => n, fun | n => n⟩
theorem Tryd.lays285 : Go.Proofs.Lays.n285 Tryd.prog Tryd.lays285_ren := {
  mixed := by kernel_rfl
  f285 := Tryd.func49.trans (congrArg some (by kernel_rfl))
  t0 := Tryd.underlying0
  a0 := Tryd.isAgg0
  z0 := Tryd.sizeOf0
  v0 := Tryd.zeroValue0
  t3 := Tryd.underlying3
  a3 := Tryd.isAgg3
  z3 := Tryd.sizeOf3
  v3 := Tryd.zeroValue3
  t4 := Tryd.underlying4
  a4 := Tryd.isAgg4
  z4 := Tryd.sizeOf4
  v4 := Tryd.zeroValue4
  t5 := Tryd.underlying5
  a5 := Tryd.isAgg5
  z5 := Tryd.sizeOf5
  v5 := Tryd.zeroValue5
  t9 := Tryd.underlying9
  a9 := Tryd.isAgg9
  z9 := Tryd.sizeOf9
  v9 := Tryd.zeroValue9
  t37 := Tryd.underlying71
  a37 := Tryd.isAgg71
  z37 := Tryd.sizeOf71
  v37 := Tryd.zeroValue71
  t51 := Tryd.underlying91
  a51 := Tryd.isAgg91
  z51 := Tryd.sizeOf91
  v51 := Tryd.zeroValue91
  t53 := Tryd.underlying22
  a53 := Tryd.isAgg22
  z53 := Tryd.sizeOf22
  v53 := Tryd.zeroValue22 }
open Go.RowKit Go.Sort Go.Lib in
theorem Tryd.internal_strconv_formatBase10 (blk off cap : Nat) (u : Nat) (d : Array UInt8) (w : World) (hH : Holds (fun (b : UInt8) => Value.int .u8 (b.toNat : Int)) w blk off d) (hu : u < 10 ^ d.size) (hu64 : u < 18446744073709551616) (hsz : d.size < 4611686018427387904) :
    Calls Tryd.prog 49 #[.slice (some ⟨blk, off, none⟩) d.size cap, .int .u64 u] w fun e w' =>
      e = .returned (.tuple #[]) ∧ ∃ (n v' : Nat) (dk : Array UInt8), w' = (putRow (fun (b : UInt8) => Value.int .u8 (b.toNat : Int)) w blk off dk).drewN n ∧ FmtInv d.size u 0 v' dk := Any.internal_strconv_formatBase10 Tryd.lays285 blk off cap u d w hH hu hu64 hsz
def Tryd.lays219_ren : Go.Shelf.Ren := ⟨fun | 219 => 42 | 217 => 55 | 225 => 56 | 224 => 57 | 267 => 58 | 266 => 69 | 314 => 70 | n => n, fun | 9 => 9 | 3 => 3 | 4 => 4 | 5 => 5 | 46 => 59 | 146 => 92 | 51 => 91 | n => n, fun | 1 => 0 | n => n⟩
theorem Tryd.lays219 : Go.Proofs.Lays.n219 Tryd.prog Tryd.lays219_ren := {
  mixed := by kernel_rfl
  f217 := Tryd.func55.trans (congrArg some (by kernel_rfl))
  f219 := Tryd.func42.trans (congrArg some (by kernel_rfl))
  f224 := Tryd.func57.trans (congrArg some (by kernel_rfl))
  f225 := Tryd.func56.trans (congrArg some (by kernel_rfl))
  f266 := Tryd.func69.trans (congrArg some (by kernel_rfl))
  f267 := Tryd.func58.trans (congrArg some (by kernel_rfl))
  f314 := Tryd.func70.trans (congrArg some (by kernel_rfl))
  t3 := Tryd.underlying3
  a3 := Tryd.isAgg3
  z3 := Tryd.sizeOf3
  v3 := Tryd.zeroValue3
  t4 := Tryd.underlying4
  a4 := Tryd.isAgg4
  z4 := Tryd.sizeOf4
  v4 := Tryd.zeroValue4
  t5 := Tryd.underlying5
  a5 := Tryd.isAgg5
  z5 := Tryd.sizeOf5
  v5 := Tryd.zeroValue5
  t9 := Tryd.underlying9
  a9 := Tryd.isAgg9
  z9 := Tryd.sizeOf9
  v9 := Tryd.zeroValue9
  t46 := Tryd.underlying59
  a46 := Tryd.isAgg59
  z46 := Tryd.sizeOf59
  v46 := Tryd.zeroValue59
  t51 := Tryd.underlying91
  a51 := Tryd.isAgg91
  z51 := Tryd.sizeOf91
  v51 := Tryd.zeroValue91
  t146 := Tryd.underlying92
  a146 := Tryd.isAgg92
  z146 := Tryd.sizeOf92
  v146 := Tryd.zeroValue92
  g1 := by kernel_rfl }
open Go.RowKit Go.Lib in
theorem Tryd.stringslite_Index_one (s : ByteArray) (c : UInt8) (w : World) :
    Calls Tryd.prog 42 #[.string s, .string ⟨#[c]⟩] w fun e w' => e = .returned (.int .i64 (Lib.indexByte s.data.toList c)) ∧ w' = w := Any.stringslite_Index_one Tryd.lays219 s c w
def Tryd.lays264_ren : Go.Shelf.Ren := ⟨fun | 264 => 13 | n => n, fun | 53 => 22 | 46 => 59 | n => n, fun | n => n⟩
theorem Tryd.lays264 : Go.Proofs.Lays.n264 Tryd.prog Tryd.lays264_ren := {
  mixed := by kernel_rfl
  f264 := Tryd.func13.trans (congrArg some (by kernel_rfl))
  t46 := Tryd.underlying59
  a46 := Tryd.isAgg59
  z46 := Tryd.sizeOf59
  v46 := Tryd.zeroValue59
  t53 := Tryd.underlying22
  a53 := Tryd.isAgg22
  z53 := Tryd.sizeOf22
  v53 := Tryd.zeroValue22 }
open Go.RowKit Go.Lib in
theorem Tryd.bits_Mul64 (x y : Nat) (hx : x < 18446744073709551616) (hy : y < 18446744073709551616) (w : World) :
    Calls Tryd.prog 13 #[.int .u64 x, .int .u64 y] w fun e w' => e = .returned (.tuple #[.int .u64 ((x * y / 18446744073709551616 : Nat) : Int), .int .u64 ((x * y % 18446744073709551616 : Nat) : Int)]) ∧ w' = w := Any.bits_Mul64 Tryd.lays264 x y hx hy w
def Tryd.lays105_ren : Go.Shelf.Ren := ⟨fun | 105 => 21 | 212 => 35 | 99 => 24 | 165 => 36 | 166 => 37 | 170 => 38 | 169 => 39 | 263 => 51 | 264 => 13 | 206 => 41 | 240 => 52 | 241 => 53 | 276 => 67 | 277 => 68 | n => n, fun | 9 => 9 | 3 => 3 | 4 => 4 | 20 => 20 | 0 => 0 | 46 => 59 | 109 => 68 | 5 => 5 | 72 => 73 | 76 => 77 | 51 => 91 | 146 => 92 | 53 => 22 | 148 => 47 | 70 => 70 | 37 => 71 | 75 => 76 | 127 => 94 | 164 => 103 | 80 => 80 | n => n, fun | n => n⟩
theorem Tryd.lays105 : Go.Proofs.Lays.n105 Tryd.prog Tryd.lays105_ren := {
  mixed := by kernel_rfl
  f99 := Tryd.func24.trans (congrArg some (by kernel_rfl))
  f105 := Tryd.func21.trans (congrArg some (by kernel_rfl))
  f165 := Tryd.func36.trans (congrArg some (by kernel_rfl))
  f166 := Tryd.func37.trans (congrArg some (by kernel_rfl))
  f169 := Tryd.func39.trans (congrArg some (by kernel_rfl))
  f170 := Tryd.func38.trans (congrArg some (by kernel_rfl))
  f206 := Tryd.func41.trans (congrArg some (by kernel_rfl))
  f212 := Tryd.func35.trans (congrArg some (by kernel_rfl))
  f240 := Tryd.func52.trans (congrArg some (by kernel_rfl))
  f241 := Tryd.func53.trans (congrArg some (by kernel_rfl))
  f263 := Tryd.func51.trans (congrArg some (by kernel_rfl))
  f264 := Tryd.func13.trans (congrArg some (by kernel_rfl))
  f276 := Tryd.func67.trans (congrArg some (by kernel_rfl))
  f277 := Tryd.func68.trans (congrArg some (by kernel_rfl))
  t0 := Tryd.underlying0
  a0 := Tryd.isAgg0
  z0 := Tryd.sizeOf0
  v0 := Tryd.zeroValue0
  t3 := Tryd.underlying3
  a3 := Tryd.isAgg3
  z3 := Tryd.sizeOf3
  v3 := Tryd.zeroValue3
  t4 := Tryd.underlying4
  a4 := Tryd.isAgg4
  z4 := Tryd.sizeOf4
  v4 := Tryd.zeroValue4
  t5 := Tryd.underlying5
  a5 := Tryd.isAgg5
  z5 := Tryd.sizeOf5
  v5 := Tryd.zeroValue5
  t9 := Tryd.underlying9
  a9 := Tryd.isAgg9
  z9 := Tryd.sizeOf9
  v9 := Tryd.zeroValue9
  t20 := Tryd.underlying20
  a20 := Tryd.isAgg20
  z20 := Tryd.sizeOf20
  v20 := Tryd.zeroValue20
  t37 := Tryd.underlying71
  a37 := Tryd.isAgg71
  z37 := Tryd.sizeOf71
  v37 := Tryd.zeroValue71
  t46 := Tryd.underlying59
  a46 := Tryd.isAgg59
  z46 := Tryd.sizeOf59
  v46 := Tryd.zeroValue59
  t51 := Tryd.underlying91
  a51 := Tryd.isAgg91
  z51 := Tryd.sizeOf91
  v51 := Tryd.zeroValue91
  t53 := Tryd.underlying22
  a53 := Tryd.isAgg22
  z53 := Tryd.sizeOf22
  v53 := Tryd.zeroValue22
  t70 := Tryd.underlying70
  a70 := Tryd.isAgg70
  z70 := Tryd.sizeOf70
  v70 := Tryd.zeroValue70
  t72 := Tryd.underlying73
  a72 := Tryd.isAgg73
  z72 := Tryd.sizeOf73
  v72 := Tryd.zeroValue73
  t75 := Tryd.underlying76
  a75 := Tryd.isAgg76
  z75 := Tryd.sizeOf76
  v75 := Tryd.zeroValue76
  t76 := Tryd.underlying77
  a76 := Tryd.isAgg77
  z76 := Tryd.sizeOf77
  v76 := Tryd.zeroValue77
  t109 := Tryd.underlying68
  a109 := Tryd.isAgg68
  z109 := Tryd.sizeOf68
  v109 := Tryd.zeroValue68
  t127 := Tryd.underlying94
  a127 := Tryd.isAgg94
  z127 := Tryd.sizeOf94
  v127 := Tryd.zeroValue94
  t146 := Tryd.underlying92
  a146 := Tryd.isAgg92
  z146 := Tryd.sizeOf92
  v146 := Tryd.zeroValue92
  t148 := Tryd.underlying47
  a148 := Tryd.isAgg47
  z148 := Tryd.sizeOf47
  v148 := Tryd.zeroValue47
  t164 := Tryd.underlying103
  a164 := Tryd.isAgg103
  z164 := Tryd.sizeOf103
  v164 := Tryd.zeroValue103 }
theorem Tryd.Builder_Extra_105 : Builder.Extra Tryd.prog Tryd.lays105_ren := {
  sizeBuilder := by kernel_rfl
  liesBuilder := by kernel_rfl
  t5 := Tryd.underlying5
  a5 := Tryd.isAgg5
  z5 := Tryd.sizeOf5
  v5 := Tryd.zeroValue5
  infoByte := by kernel_rfl
  cellsByte := by kernel_rfl
  sizeByte := by kernel_rfl
  neB5 := by decide }
open Go.RowKit Go.Lib in
theorem Tryd.strings_Repeat (s : ByteArray) (c : Nat) (w : World) (hc : c ≤ 9223372036854775807) (hlen : s.size * c ≤ 140737488355328) :
    Calls Tryd.prog 21 #[.string s, .int .i64 c] w fun e w' => e = .returned (.string ⟨(Lib.repeatL s.data.toList c).toArray⟩) ∧ Below w.heap.size w w' := Any.strings_Repeat Tryd.lays105 Tryd.Builder_Extra_105 s c w hc hlen
end Go.Proofs
set_option linter.unusedVariables false
set_option linter.unusedSimpArgs false
namespace Go.Proofs
open Go.RowKit Go.Sort Go.Lib
set_option maxHeartbeats 6400000 in
set_option maxRecDepth 100000 in
theorem Tryd.internal_strconv_FormatUint_10 (u : Nat) (hu64 : u < 18446744073709551616) (w : World) (htab : Lib.TabIs Tryd.prog w "internal/strconv.uint64pow10" .u64 Lib.pow10Tab) :
    Calls Tryd.prog 34 #[.int .u64 u, .int .i64 10] w fun e w' => e = .returned (.string ⟨(Lib.decDigits u).toArray⟩) ∧ ∃ k os, w' = grow (w.drewN k) os := by
  have mixed : Tryd.prog.follows .mixedOrders := by kernel_rfl
  have e283 : ∀ args w, (callFunc 47 args).run Tryd.prog w = .ok (.enter 47 args) w := enters_of Tryd.func47 (by kernel_rfl) rfl
  have e284 : ∀ args w, (callFunc 48 args).run Tryd.prog w = .ok (.enter 48 args) w := enters_of Tryd.func48 (by kernel_rfl) rfl
  have e285 : ∀ args w, (callFunc 49 args).run Tryd.prog w = .ok (.enter 49 args) w := enters_of Tryd.func49 (by kernel_rfl) rfl
  by_cases hs : u < 100
  · have hcv : IntKind.wrap .i64 (u : Int) = u := by rw [IntKind.wrap_i64]; omega
    go_enter Tryd.func34, Tryd.ntmps34
    go_wp2_with (go_at_fn 47; refine (Tryd.internal_strconv_small u hs _).mono ?_; rintro e w' ⟨rfl, rfl⟩)
    go_ret
    exact ⟨rfl, 0, #[], by simp [World.drewN_zero]⟩
  · have hu1 : 1 ≤ u := by omega
    have hnd20 : Lib.nDigits u ≤ 20 := by have := Lib.numDigits_eq u hu1 hu64; split at this <;> omega
    have hb3 : Lib.nDigits u ≤ 24 := by omega
    have hal : Tryd.prog.arrayLen 86 = 24 := by simp [Program.arrayLen, Tryd.underlying86]
    have hsl1 : ∀ W, (Instr.sliceAt 86 (.pointer (some ⟨w.heap.size, 0, none⟩)) none (some (.int .i64 (Lib.nDigits u : Int))) none).run Tryd.prog W = .ok (.slice (some ⟨w.heap.size, 0, none⟩) (Lib.nDigits u) 24) W := fun W => by
      rw [run_sliceAt_array_h W 86 ⟨w.heap.size, 0, none⟩ (by simp [Program.arrayLen, Program.elem, Tryd.underlying86]) .i64 (Lib.nDigits u : Int) (by omega) (by rw [hal]; omega)]
      go_simp
      all_goals omega
    have hH0 := Lib.holds_zero0 w 86 (Lib.nDigits u) (by omega)
    have hfmt := Tryd.internal_strconv_formatBase10 w.heap.size 0 24 u (Array.replicate (Lib.nDigits u) 0) (w.alloc (.cells Lib.zeros24 86)) hH0 (by rw [Array.size_replicate]; exact Lib.lt_pow_nDigits u) hu64 (by rw [Array.size_replicate]; omega)
    rw [Array.size_replicate] at hfmt
    have HH0 := Lib.hid hH0
    clear hH0 hal
    go_enter Tryd.func34, Tryd.ntmps34
    go_wp2_with (first
      | (go_at_fn 48; refine (Tryd.internal_strconv_numDigits u hu1 hu64 _ (Lib.tabIs_alloc htab _)).mono ?_; rintro e w' ⟨rfl, rfl⟩))
    go_at_fn 49
    refine hfmt.mono ?_
    rintro e w' ⟨rfl, k, v', dk, rfl, hF⟩
    have hcv : (convert 71 9 (.slice (some ⟨w.heap.size, 0, none⟩) (Lib.nDigits u) 24)).run Tryd.prog ((putRow (fun (b : UInt8) => Value.int .u8 (b.toNat : Int)) (w.alloc (.cells Lib.zeros24 86)) w.heap.size 0 dk).drewN k) = .ok (.string ⟨(Lib.decDigits u).toArray⟩) ((putRow (fun (b : UInt8) => Value.int .u8 (b.toNat : Int)) (w.alloc (.cells Lib.zeros24 86)) w.heap.size 0 dk).drewN k) := by
      have h := run_convert_bytes_back (P := Tryd.prog) ((putRow (fun (b : UInt8) => Value.int .u8 (b.toNat : Int)) (w.alloc (.cells Lib.zeros24 86)) w.heap.size 0 dk).drewN k) 71 9 5 ⟨w.heap.size, 0, none⟩ 24 (Lib.decDigits u) Tryd.underlying71 Tryd.underlying5 Tryd.underlying9 (fun j hj => by
        rw [Lib.row_is_numeral hF j hj, Lib.add_plain, World.cell?_drewN]
        exact cell?_putRow (fun (b : UInt8) => Value.int .u8 (b.toNat : Int)) _ w.heap.size 0 _ dk HH0.out (by rw [hF.size, Array.size_replicate]) j (by rw [hF.size]; rw [Lib.decDigits_length] at hj; exact hj))
      rw [Lib.decDigits_length] at h
      exact h
    go_wp2
    go_ret
    obtain ⟨os, eo⟩ := Lib.fin_at w (.cells Lib.zeros24 86) dk k 0
    exact ⟨rfl, k, os, eo⟩
set_option maxRecDepth 100000 in
theorem Tryd.strconv_FormatUint_10 (u : Nat) (hu64 : u < 18446744073709551616) (w : World) (htab : Lib.TabIs Tryd.prog w "internal/strconv.uint64pow10" .u64 Lib.pow10Tab) :
    Calls Tryd.prog 20 #[.int .u64 u, .int .i64 10] w fun e w' => e = .returned (.string ⟨(Lib.decDigits u).toArray⟩) ∧ ∃ k os, w' = grow (w.drewN k) os := by
  have e51 : ∀ args w, (callFunc 34 args).run Tryd.prog w = .ok (.enter 34 args) w := enters_of Tryd.func34 (by kernel_rfl) rfl
  go_enter Tryd.func20, Tryd.ntmps20
  go_wp2_with (go_at_fn 34; refine (Tryd.internal_strconv_FormatUint_10 u hu64 _ htab).mono ?_; rintro e w' ⟨rfl, k, os, rfl⟩)
  go_ret
  exact ⟨rfl, k, os, rfl⟩
end Go.Proofs
set_option linter.unusedVariables false
set_option maxRecDepth 100000
namespace Go.AM
open Go.Proofs Go.RowKit
open Go.Proofs.YtpnaofiiekopcaaDoor
def SI : World → Prop := LaidI Tryd.prog Rows.decOrdersRow.laid
def SW : World → Prop := WOf SI
theorem swTab {w : World} (h : SW w) : Lib.TabIs Tryd.prog w (Rows.decOrdersRow.laid.getD 2 ("", .nil)).1 .u64 Lib.pow10Tab := by
  obtain ⟨w0, h1, h2, h3⟩ := h
  exact tab_on (laid_tab h1 (by kernel_rfl) 2 (by kernel_rfl) (g := 1) (by kernel_rfl) (by kernel_rfl) Tryd.underlying99 Tryd.underlying22 (by kernel_rfl) (by kernel_rfl)) h2 h3
theorem mixed : Tryd.prog.follows .mixedOrders = true := by kernel_rfl
def tab : Tree TI := .node 30 (.node 24 (.node 5 (.node 4 (.one 3 ⟨.int .i64, 1, 8, false, [(.int .i64 (0 : Int))], some (.int .i64), false⟩) (.one 4 ⟨.bool, 1, 1, false, [(.bool false)], some .bool, false⟩)) (.node 9 (.one 5 ⟨.int .u8, 1, 1, false, [(.int .u8 (0 : Int))], some .u8, false⟩) (.node 22 (.one 9 ⟨.str, 1, 16, false, [(.str [])], some .str, false⟩) (.one 22 ⟨.int .u64, 1, 8, false, [(.int .u64 (0 : Int))], some (.int .u64), false⟩)))) (.node 26 (.node 25 (.one 24 ⟨.struct [(0, 4), (1, 22), (2, 3)], 3, 24, true, [(.bool false), (.int .u64 (0 : Int)), (.int .i64 (0 : Int))], some (.agg [.bool, (.int .u64), (.int .i64)]), true⟩) (.one 25 ⟨.arr 3 24, 9, 72, true, [(.bool false), (.int .u64 (0 : Int)), (.int .i64 (0 : Int)), (.bool false), (.int .u64 (0 : Int)), (.int .i64 (0 : Int)), (.bool false), (.int .u64 (0 : Int)), (.int .i64 (0 : Int))], some (.agg [(.agg [.bool, (.int .u64), (.int .i64)]), (.agg [.bool, (.int .u64), (.int .i64)]), (.agg [.bool, (.int .u64), (.int .i64)])]), false⟩)) (.node 27 (.one 26 ⟨.int .i64, 1, 8, false, [(.int .i64 (0 : Int))], some (.int .i64), false⟩) (.node 29 (.one 27 ⟨.other, 1, 0, false, [.any], none, false⟩) (.one 29 ⟨.func, 1, 8, false, [.nilfn], none, false⟩))))) (.node 40 (.node 32 (.node 31 (.one 30 ⟨.arr 3 3, 3, 24, true, [(.int .i64 (0 : Int)), (.int .i64 (0 : Int)), (.int .i64 (0 : Int))], some (.agg [(.int .i64), (.int .i64), (.int .i64)]), false⟩) (.one 31 ⟨.arr 3 30, 9, 72, true, [(.int .i64 (0 : Int)), (.int .i64 (0 : Int)), (.int .i64 (0 : Int)), (.int .i64 (0 : Int)), (.int .i64 (0 : Int)), (.int .i64 (0 : Int)), (.int .i64 (0 : Int)), (.int .i64 (0 : Int)), (.int .i64 (0 : Int))], some (.agg [(.agg [(.int .i64), (.int .i64), (.int .i64)]), (.agg [(.int .i64), (.int .i64), (.int .i64)]), (.agg [(.int .i64), (.int .i64), (.int .i64)])]), false⟩)) (.node 36 (.one 32 ⟨.other, 1, 0, false, [.any], none, false⟩) (.node 39 (.one 36 ⟨.other, 1, 0, false, [.any], none, false⟩) (.one 39 ⟨.struct [(0, 26), (1, 3)], 2, 16, true, [(.int .i64 (0 : Int)), (.int .i64 (0 : Int))], some (.agg [(.int .i64), (.int .i64)]), true⟩)))) (.node 47 (.node 42 (.one 40 ⟨.other, 1, 0, false, [.any], none, false⟩) (.node 44 (.one 42 ⟨.other, 1, 0, false, [.any], none, false⟩) (.one 44 ⟨.arr 2 24, 6, 48, true, [(.bool false), (.int .u64 (0 : Int)), (.int .i64 (0 : Int)), (.bool false), (.int .u64 (0 : Int)), (.int .i64 (0 : Int))], some (.agg [(.agg [.bool, (.int .u64), (.int .i64)]), (.agg [.bool, (.int .u64), (.int .i64)])]), false⟩))) (.node 51 (.one 47 ⟨.other, 1, 0, false, [.any], none, false⟩) (.node 53 (.one 51 ⟨.other, 1, 0, false, [.any], none, false⟩) (.one 53 ⟨.other, 1, 0, false, [.any], none, false⟩)))))
theorem tab_ok : tab.all (tiOK Tryd.prog) = true := by kernel_rfl
theorem ok13 (n : Nat) : FnOK Tryd.prog SW 13 [(.int .u64), (.int .u64)] (.many [(.int .u64), (.int .u64)]) (fun x => O.mul64 n x.1 x.2.1) := mul64_ok (enters Tryd.func13 (by kernel_rfl) (by decide)) Tryd.bits_Mul64 n
theorem ok14 (n : Nat) : FnOK Tryd.prog SW 14 [(.int .u64), (.int .u64), (.int .u64)] (.many [(.int .u64), (.int .u64)]) (fun x => O.add64 n x.1 x.2.1 x.2.2.1) := add64_ok (fun x y c hx hy hc w => by rw [run_callFunc_extern Tryd.func14 (by kernel_rfl) (by kernel_rfl) (by kernel_rfl) (e := Go.add64Entry) (by kernel_rfl), Go.run_add64 x y c (by omega) (by omega) (by omega) (by omega)]; simp only [Result.andThen]; congr 5 <;> omega) n
noncomputable def cx8 (X : Type) (n : Nat) : Cx X := mkCx tab.get [(8, Tryd.f8)] [(13, orcOf [(.int .u64), (.int .u64)] (.many [(.int .u64), (.int .u64)]) (fun x => O.mul64 n x.1 x.2.1)), (14, orcOf [(.int .u64), (.int .u64), (.int .u64)] (.many [(.int .u64), (.int .u64)]) (fun x => O.add64 n x.1 x.2.1 x.2.2.1))] [] [] [] []
theorem cx8_ok (X : Type) (n : Nat) : CxOK Tryd.prog SW (cx8 X n) := mkCx_ok mixed (tabOK tab_ok) ⟨⟨Tryd.func8, by decide⟩, trivial⟩ ⟨orcOf_ok (ok13 n),
  orcOf_ok (ok14 n), trivial⟩ ⟨okC_mk (fun _ => rfl) (by kernel_rfl) (castP (by kernel_rfl) (show True from trivial)) (castP (by kernel_rfl) (show True from trivial)), trivial⟩ trivial
theorem ok8 (n : Nat) : FnOK Tryd.prog SW 8 [(.int .u64), (.int .u64)] (.many [(.int .u64), .bool]) (fun x => F.dec_times n x.1 x.2.1) := fnOK_of WOf.st (cx8_ok _ n) (d := 8) (fun x => by kernel_rfl)
def F.dec_Normal.L3.head : Shape := ⟨[(1, (.const (.ref 0 0))), (2, (.const (.ref 1 0)))], [[.bool, (.int .u64), (.int .i64)], [.bool, (.int .u64), (.int .i64)]], [], [], [], 2, 0, 0⟩
def F.dec_Normal.L3.e0 : Shape := ⟨[(1, (.const (.ref 0 0))), (2, (.const (.ref 1 0)))], [[.bool, (.int .u64), (.int .i64)], [.bool, (.int .u64), (.int .i64)]], [], [], [], 2, 0, 0⟩
noncomputable def F.dec_Normal.L3.f {X : Type} (n m : Nat) (ks : Ks X) (s : F.dec_Normal.L3.head.den) : Option X := F.dec_Normal.L3 n (fun qb0_0 qb0_1 qb0_2 qb1_0 qb1_1 qb1_2 => ks.ex 0 (F.dec_Normal.L3.e0.e (((), (), ()), ((qb0_0, qb0_1, qb0_2, ()), (qb1_0, qb1_1, qb1_2, ()), ()), (), ())) (F.dec_Normal.L3.e0.h (((), (), ()), ((qb0_0, qb0_1, qb0_2, ()), (qb1_0, qb1_1, qb1_2, ()), ()), (), ()))) m s.2.1.1.1 s.2.1.1.2.1 s.2.1.1.2.2.1 s.2.1.2.1.1 s.2.1.2.1.2.1 s.2.1.2.1.2.2.1
noncomputable def F.dec_Normal.L3.li (X : Type) (n : Nat) : LoopI X := ⟨8, ⟨0, 0, 0⟩, F.dec_Normal.L3.head, [(0, F.dec_Normal.L3.e0)], none, F.dec_Normal.L3.f n n⟩
def F.dec_Normal.L5.head : Shape := ⟨[(1, (.const (.ref 0 0))), (2, (.const (.ref 1 0)))], [[.bool, (.int .u64), (.int .i64)], [.bool, (.int .u64), (.int .i64)]], [], [], [], 2, 0, 0⟩
def F.dec_Normal.L5.e2 : Shape := ⟨[(1, (.const (.ref 0 0))), (2, (.const (.ref 1 0)))], [[.bool, (.int .u64), (.int .i64)], [.bool, (.int .u64), (.int .i64)]], [], [], [], 2, 0, 0⟩
def F.dec_Normal.L5.er : Shape := ⟨[(2, (.const (.ref 1 0))), (3, (.int .i64))], [[.bool, (.int .u64), (.int .i64)], [.bool, (.int .u64), (.int .i64)]], [], [], [], 2, 0, 0⟩
noncomputable def F.dec_Normal.L5.f {X : Type} (n m : Nat) (ks : Ks X) (s : F.dec_Normal.L5.head.den) : Option X := F.dec_Normal.L5 n (fun qb0_0 qb0_1 qb0_2 qb1_0 qb1_1 qb1_2 => ks.ex 2 (F.dec_Normal.L5.e2.e (((), (), ()), ((qb0_0, qb0_1, qb0_2, ()), (qb1_0, qb1_1, qb1_2, ()), ()), (), ())) (F.dec_Normal.L5.e2.h (((), (), ()), ((qb0_0, qb0_1, qb0_2, ()), (qb1_0, qb1_1, qb1_2, ()), ()), (), ()))) (fun q3 qb0_0 qb0_1 qb0_2 qb1_0 qb1_1 qb1_2 => ks.ret (F.dec_Normal.L5.er.e (((), q3, ()), ((qb0_0, qb0_1, qb0_2, ()), (qb1_0, qb1_1, qb1_2, ()), ()), (), ())) (F.dec_Normal.L5.er.h (((), q3, ()), ((qb0_0, qb0_1, qb0_2, ()), (qb1_0, qb1_1, qb1_2, ()), ()), (), ()))) m s.2.1.1.1 s.2.1.1.2.1 s.2.1.1.2.2.1 s.2.1.2.1.1 s.2.1.2.1.2.1 s.2.1.2.1.2.2.1
noncomputable def F.dec_Normal.L5.li (X : Type) (n : Nat) : LoopI X := ⟨8, ⟨0, 0, 0⟩, F.dec_Normal.L5.head, [(2, F.dec_Normal.L5.e2)], some F.dec_Normal.L5.er, F.dec_Normal.L5.f n n⟩
noncomputable def cx4 (X : Type) (n : Nat) : Cx X := mkCx tab.get [(4, Tryd.f4)] [(8, orcOf [(.int .u64), (.int .u64)] (.many [(.int .u64), .bool]) (fun x => F.dec_times n x.1 x.2.1))] [(4, 3, [F.dec_Normal.L3.li X n]), (4, 5, [F.dec_Normal.L5.li X n])] [] [] []
theorem F.dec_Normal.L3.ok (X : Type) (n : Nat) : LoopOK (cx4 X n) 4 Tryd.f4.ntmps (loopNo Tryd.f4 0) (F.dec_Normal.L3.li X n) :=
  ⟨F.dec_Normal.L3.f n, n, fun _ _ => rfl, fun _ _ => rfl, fun m ks s => by kernel_rfl⟩
theorem F.dec_Normal.L5.ok (X : Type) (n : Nat) : LoopOK (cx4 X n) 4 Tryd.f4.ntmps (loopNo Tryd.f4 1) (F.dec_Normal.L5.li X n) :=
  ⟨F.dec_Normal.L5.f n, n, fun _ _ => rfl, fun _ _ => rfl, fun m ks s => by kernel_rfl⟩
theorem cx4_ok (X : Type) (n : Nat) : CxOK Tryd.prog SW (cx4 X n) := mkCx_ok mixed (tabOK tab_ok) ⟨⟨Tryd.func4, by decide⟩, trivial⟩ ⟨orcOf_ok (ok8 n), trivial⟩ ⟨okC_mk (fun _ => rfl) (by kernel_rfl) (castP (by kernel_rfl) (show (LoopOK (cx4 X n) 4 Tryd.f4.ntmps (loopNo Tryd.f4 0) (F.dec_Normal.L3.li X n) ∧ True) ∧ (LoopOK (cx4 X n) 4 Tryd.f4.ntmps (loopNo Tryd.f4 1) (F.dec_Normal.L5.li X n) ∧ True) ∧ True from ⟨⟨F.dec_Normal.L3.ok X n, trivial⟩, ⟨F.dec_Normal.L5.ok X n, trivial⟩, trivial⟩)) (castP (by kernel_rfl) (show True from trivial)), trivial⟩ trivial
theorem ok4 (n : Nat) : FnOK Tryd.prog SW 4 [(.agg [.bool, (.int .u64), (.int .i64)])] (.many [(.agg [.bool, (.int .u64), (.int .i64)]), (.int .i64)]) (fun x => F.dec_Normal n x.1) := fnOK_of WOf.st (cx4_ok _ n) (d := 8) (fun x => by kernel_rfl)
noncomputable def cx41 (X : Type) (n : Nat) : Cx X := mkCx tab.get [(41, Tryd.f41)] [] [] [] [] []
theorem cx41_ok (X : Type) (n : Nat) : CxOK Tryd.prog SW (cx41 X n) := mkCx_ok mixed (tabOK tab_ok) ⟨⟨Tryd.func41, by decide⟩, trivial⟩ trivial ⟨okC_mk (fun _ => rfl) (by kernel_rfl) (castP (by kernel_rfl) (show True from trivial)) (castP (by kernel_rfl) (show True from trivial)), trivial⟩ trivial
theorem ok41 (n : Nat) : FnOK Tryd.prog SW 41 [.str, .str] (.one .bool) (fun x => F.stringslite_HasPrefix n x.1 x.2.1) := fnOK_of WOf.st (cx41_ok _ n) (d := 8) (fun x => by kernel_rfl)
noncomputable def cx24 (X : Type) (n : Nat) : Cx X := mkCx tab.get [(24, Tryd.f24)] [(41, orcOf [.str, .str] (.one .bool) (fun x => F.stringslite_HasPrefix n x.1 x.2.1))] [] [] [] []
theorem cx24_ok (X : Type) (n : Nat) : CxOK Tryd.prog SW (cx24 X n) := mkCx_ok mixed (tabOK tab_ok) ⟨⟨Tryd.func24, by decide⟩, trivial⟩ ⟨orcOf_ok (ok41 n), trivial⟩ ⟨okC_mk (fun _ => rfl) (by kernel_rfl) (castP (by kernel_rfl) (show True from trivial)) (castP (by kernel_rfl) (show True from trivial)), trivial⟩ trivial
theorem ok24 (n : Nat) : FnOK Tryd.prog SW 24 [.str, .str] (.one .bool) (fun x => F.strings_HasPrefix n x.1 x.2.1) := fnOK_of WOf.st (cx24_ok _ n) (d := 8) (fun x => by kernel_rfl)
def F.dec_look.L2_dec_look_1.head : Shape := ⟨[(0, (.const (.ref 2 0))), (1, (.const (.ref 0 0))), (3, (.int .i64))], [[.str], [(.int .i64), (.int .i64)], [(.int .i64)]], [], [], [], 3, 0, 0⟩
def F.dec_look.L2_dec_look_1.e0 : Shape := ⟨[(0, (.const (.ref 2 0))), (3, (.int .i64))], [[.str], [(.int .i64), (.int .i64)], [(.int .i64)]], [], [], [], 3, 0, 0⟩
noncomputable def F.dec_look.L2_dec_look_1.f {X : Type} (n m : Nat) (ks : Ks X) (s : F.dec_look.L2_dec_look_1.head.den) : Option X := F.dec_look.L2_dec_look_1 n (fun q3 qb0_0 qb1_0 qb1_1 qb2_0 => ks.ex 0 (F.dec_look.L2_dec_look_1.e0.e (((), q3, ()), ((qb0_0, ()), (qb1_0, qb1_1, ()), (qb2_0, ()), ()), (), ())) (F.dec_look.L2_dec_look_1.e0.h (((), q3, ()), ((qb0_0, ()), (qb1_0, qb1_1, ()), (qb2_0, ()), ()), (), ()))) m s.1.2.2.1 s.2.1.1.1 s.2.1.2.1.1 s.2.1.2.1.2.1 s.2.1.2.2.1.1
noncomputable def F.dec_look.L2_dec_look_1.li (X : Type) (n : Nat) : LoopI X := ⟨7, ⟨3, 0, 0⟩, F.dec_look.L2_dec_look_1.head, [(0, F.dec_look.L2_dec_look_1.e0)], none, F.dec_look.L2_dec_look_1.f n n⟩
noncomputable def cx15 (X : Type) (n : Nat) : Cx X := mkCx tab.get [(15, Tryd.f15), (23, Tryd.f23)] [(24, orcOf [.str, .str] (.one .bool) (fun x => F.strings_HasPrefix n x.1 x.2.1))] [(23, 2, [F.dec_look.L2_dec_look_1.li X n])] [] [] []
theorem F.dec_look.L2_dec_look_1.ok (X : Type) (n : Nat) : LoopOK (cx15 X n) 23 Tryd.f23.ntmps (loopNo Tryd.f23 0) (F.dec_look.L2_dec_look_1.li X n) :=
  ⟨F.dec_look.L2_dec_look_1.f n, n, fun _ _ => rfl, fun _ _ => rfl, fun m ks s => by kernel_rfl⟩
theorem cx15_ok (X : Type) (n : Nat) : CxOK Tryd.prog SW (cx15 X n) := mkCx_ok mixed (tabOK tab_ok) ⟨⟨Tryd.func15, by decide⟩,
  ⟨Tryd.func23, by decide⟩, trivial⟩ ⟨orcOf_ok (ok24 n), trivial⟩ ⟨okC_mk (fun _ => rfl) (by kernel_rfl) (castP (by kernel_rfl) (show True from trivial)) (castP (by kernel_rfl) (show True from trivial)),
  okC_mk (fun _ => rfl) (by kernel_rfl) (castP (by kernel_rfl) (show (LoopOK (cx15 X n) 23 Tryd.f23.ntmps (loopNo Tryd.f23 0) (F.dec_look.L2_dec_look_1.li X n) ∧ True) ∧ True from ⟨⟨F.dec_look.L2_dec_look_1.ok X n, trivial⟩, trivial⟩)) (castP (by kernel_rfl) (show True from trivial)), trivial⟩ trivial
theorem ok15 (n : Nat) : FnOK Tryd.prog SW 15 [.str] (.one (.agg [(.int .i64), (.int .i64)])) (fun x => F.dec_look n x.1) := fnOK_of WOf.st (cx15_ok _ n) (d := 8) (fun x => by kernel_rfl)
noncomputable def cx25 (X : Type) (n : Nat) : Cx X := mkCx tab.get [(25, Tryd.f25)] [(41, orcOf [.str, .str] (.one .bool) (fun x => F.stringslite_HasPrefix n x.1 x.2.1))] [] [] [] []
theorem cx25_ok (X : Type) (n : Nat) : CxOK Tryd.prog SW (cx25 X n) := mkCx_ok mixed (tabOK tab_ok) ⟨⟨Tryd.func25, by decide⟩, trivial⟩ ⟨orcOf_ok (ok41 n), trivial⟩ ⟨okC_mk (fun _ => rfl) (by kernel_rfl) (castP (by kernel_rfl) (show True from trivial)) (castP (by kernel_rfl) (show True from trivial)), trivial⟩ trivial
theorem ok25 (n : Nat) : FnOK Tryd.prog SW 25 [.str, .str] (.many [.str, .bool]) (fun x => F.stringslite_CutPrefix n x.1 x.2.1) := fnOK_of WOf.st (cx25_ok _ n) (d := 8) (fun x => by kernel_rfl)
noncomputable def cx16 (X : Type) (n : Nat) : Cx X := mkCx tab.get [(16, Tryd.f16)] [(25, orcOf [.str, .str] (.many [.str, .bool]) (fun x => F.stringslite_CutPrefix n x.1 x.2.1))] [] [] [] []
theorem cx16_ok (X : Type) (n : Nat) : CxOK Tryd.prog SW (cx16 X n) := mkCx_ok mixed (tabOK tab_ok) ⟨⟨Tryd.func16, by decide⟩, trivial⟩ ⟨orcOf_ok (ok25 n), trivial⟩ ⟨okC_mk (fun _ => rfl) (by kernel_rfl) (castP (by kernel_rfl) (show True from trivial)) (castP (by kernel_rfl) (show True from trivial)), trivial⟩ trivial
theorem ok16 (n : Nat) : FnOK Tryd.prog SW 16 [.str, .str] (.many [.str, .bool]) (fun x => F.strings_CutPrefix n x.1 x.2.1) := fnOK_of WOf.st (cx16_ok _ n) (d := 8) (fun x => by kernel_rfl)
theorem ok42 (n : Nat) : FnOK Tryd.prog SW 42 [.str, .str] (.one (.int .i64)) (fun x => O.index1 n x.1 x.2.1) := index1_ok (enters Tryd.func42 (by kernel_rfl) (by decide)) Tryd.stringslite_Index_one n
noncomputable def cx26 (X : Type) (n : Nat) : Cx X := mkCx tab.get [(26, Tryd.f26)] [(42, orcOf [.str, .str] (.one (.int .i64)) (fun x => O.index1 n x.1 x.2.1))] [] [] [] []
theorem cx26_ok (X : Type) (n : Nat) : CxOK Tryd.prog SW (cx26 X n) := mkCx_ok mixed (tabOK tab_ok) ⟨⟨Tryd.func26, by decide⟩, trivial⟩ ⟨orcOf_ok (ok42 n), trivial⟩ ⟨okC_mk (fun _ => rfl) (by kernel_rfl) (castP (by kernel_rfl) (show True from trivial)) (castP (by kernel_rfl) (show True from trivial)), trivial⟩ trivial
theorem ok26 (n : Nat) : FnOK Tryd.prog SW 26 [.str, .str] (.many [.str, .str, .bool]) (fun x => F.stringslite_Cut n x.1 x.2.1) := fnOK_of WOf.st (cx26_ok _ n) (d := 8) (fun x => by kernel_rfl)
noncomputable def cx17 (X : Type) (n : Nat) : Cx X := mkCx tab.get [(17, Tryd.f17)] [(26, orcOf [.str, .str] (.many [.str, .str, .bool]) (fun x => F.stringslite_Cut n x.1 x.2.1))] [] [] [] []
theorem cx17_ok (X : Type) (n : Nat) : CxOK Tryd.prog SW (cx17 X n) := mkCx_ok mixed (tabOK tab_ok) ⟨⟨Tryd.func17, by decide⟩, trivial⟩ ⟨orcOf_ok (ok26 n), trivial⟩ ⟨okC_mk (fun _ => rfl) (by kernel_rfl) (castP (by kernel_rfl) (show True from trivial)) (castP (by kernel_rfl) (show True from trivial)), trivial⟩ trivial
theorem ok17 (n : Nat) : FnOK Tryd.prog SW 17 [.str, .str] (.many [.str, .str, .bool]) (fun x => F.strings_Cut n x.1 x.2.1) := fnOK_of WOf.st (cx17_ok _ n) (d := 8) (fun x => by kernel_rfl)
theorem ok18 (n : Nat) : FnOK Tryd.prog SW 18 [.str, .str] (.one .str) (fun x => O.trimR n x.1 x.2.1) := trimR_ok (enters Tryd.func18 (by kernel_rfl) (by decide)) Tryd.strings_TrimRight_one n
theorem ok19 (n : Nat) : FnOK Tryd.prog SW 19 [.str, .str] (.one .str) (fun x => O.trimL n x.1 x.2.1) := trimL_ok (enters Tryd.func19 (by kernel_rfl) (by decide)) Tryd.strings_TrimLeft_one n
def F.dec_Parse.L14.head : Shape := ⟨[(2, (.const (.ref 0 0))), (3, (.const (.ref 1 0))), (10, .str), (11, (.const (.ref 3 0))), (66, (.int .i64)), (67, (.int .i64))], [[.bool, (.int .u64), (.int .i64)], [(.int .i64), (.int .i64)], [(.int .i64), (.int .i64)], [.bool, (.int .u64), (.int .i64)]], [], [], [], 4, 0, 0⟩
def F.dec_Parse.L14.e0 : Shape := ⟨[(2, (.const (.ref 0 0))), (3, (.const (.ref 1 0))), (11, (.const (.ref 3 0)))], [[.bool, (.int .u64), (.int .i64)], [(.int .i64), (.int .i64)], [(.int .i64), (.int .i64)], [.bool, (.int .u64), (.int .i64)]], [], [], [], 4, 0, 0⟩
noncomputable def F.dec_Parse.L14.f {X : Type} (n m : Nat) (ks : Ks X) (s : F.dec_Parse.L14.head.den) : Option X := F.dec_Parse.L14 n (fun qb0_0 qb0_1 qb0_2 qb1_0 qb1_1 qb2_0 qb2_1 qb3_0 qb3_1 qb3_2 => ks.ex 0 (F.dec_Parse.L14.e0.e (((), (), (), ()), ((qb0_0, qb0_1, qb0_2, ()), (qb1_0, qb1_1, ()), (qb2_0, qb2_1, ()), (qb3_0, qb3_1, qb3_2, ()), ()), (), ())) (F.dec_Parse.L14.e0.h (((), (), (), ()), ((qb0_0, qb0_1, qb0_2, ()), (qb1_0, qb1_1, ()), (qb2_0, qb2_1, ()), (qb3_0, qb3_1, qb3_2, ()), ()), (), ()))) m s.1.2.2.1 s.1.2.2.2.2.1 s.1.2.2.2.2.2.1 s.2.1.1.1 s.2.1.1.2.1 s.2.1.1.2.2.1 s.2.1.2.1.1 s.2.1.2.1.2.1 s.2.1.2.2.1.1 s.2.1.2.2.1.2.1 s.2.1.2.2.2.1.1 s.2.1.2.2.2.1.2.1 s.2.1.2.2.2.1.2.2.1
noncomputable def F.dec_Parse.L14.li (X : Type) (n : Nat) : LoopI X := ⟨8, ⟨0, 0, 0⟩, F.dec_Parse.L14.head, [(0, F.dec_Parse.L14.e0)], none, F.dec_Parse.L14.f n n⟩
noncomputable def cx9 (X : Type) (n : Nat) : Cx X := mkCx tab.get [(9, Tryd.f9)] [(4, orcOf [(.agg [.bool, (.int .u64), (.int .i64)])] (.many [(.agg [.bool, (.int .u64), (.int .i64)]), (.int .i64)]) (fun x => F.dec_Normal n x.1)), (8, orcOf [(.int .u64), (.int .u64)] (.many [(.int .u64), .bool]) (fun x => F.dec_times n x.1 x.2.1)), (15, orcOf [.str] (.one (.agg [(.int .i64), (.int .i64)])) (fun x => F.dec_look n x.1)), (16, orcOf [.str, .str] (.many [.str, .bool]) (fun x => F.strings_CutPrefix n x.1 x.2.1)), (17, orcOf [.str, .str] (.many [.str, .str, .bool]) (fun x => F.strings_Cut n x.1 x.2.1)), (18, orcOf [.str, .str] (.one .str) (fun x => O.trimR n x.1 x.2.1)), (19, orcOf [.str, .str] (.one .str) (fun x => O.trimL n x.1 x.2.1))] [(9, 14, [F.dec_Parse.L14.li X n])] [] [(9, 3, [(1, 2)])] []
theorem F.dec_Parse.L14.ok (X : Type) (n : Nat) : LoopOK (cx9 X n) 9 Tryd.f9.ntmps (loopNo Tryd.f9 0) (F.dec_Parse.L14.li X n) :=
  ⟨F.dec_Parse.L14.f n, n, fun _ _ => rfl, fun _ _ => rfl, fun m ks s => by kernel_rfl⟩
theorem cx9_ok (X : Type) (n : Nat) : CxOK Tryd.prog SW (cx9 X n) := mkCx_ok mixed (tabOK tab_ok) ⟨⟨Tryd.func9, by decide⟩, trivial⟩ ⟨orcOf_ok (ok4 n),
  orcOf_ok (ok8 n),
  orcOf_ok (ok15 n),
  orcOf_ok (ok16 n),
  orcOf_ok (ok17 n),
  orcOf_ok (ok18 n),
  orcOf_ok (ok19 n), trivial⟩ ⟨okC_mk (fun _ => rfl) (by kernel_rfl) (castP (by kernel_rfl) (show (LoopOK (cx9 X n) 9 Tryd.f9.ntmps (loopNo Tryd.f9 0) (F.dec_Parse.L14.li X n) ∧ True) ∧ True from ⟨⟨F.dec_Parse.L14.ok X n, trivial⟩, trivial⟩)) (castP (by kernel_rfl) (show True from trivial)), trivial⟩ trivial
theorem ok9 (n : Nat) : FnOK Tryd.prog SW 9 [.str] (.many [(.agg [.bool, (.int .u64), (.int .i64)]), (.agg [(.int .i64), (.int .i64)])]) (fun x => F.dec_Parse n x.1) := fnOK_of WOf.st (cx9_ok _ n) (d := 8) (fun x => by kernel_rfl)
noncomputable def cx11 (X : Type) (n : Nat) : Cx X := mkCx tab.get [(11, Tryd.f11)] [(4, orcOf [(.agg [.bool, (.int .u64), (.int .i64)])] (.many [(.agg [.bool, (.int .u64), (.int .i64)]), (.int .i64)]) (fun x => F.dec_Normal n x.1))] [] [] [] []
theorem cx11_ok (X : Type) (n : Nat) : CxOK Tryd.prog SW (cx11 X n) := mkCx_ok mixed (tabOK tab_ok) ⟨⟨Tryd.func11, by decide⟩, trivial⟩ ⟨orcOf_ok (ok4 n), trivial⟩ ⟨okC_mk (fun _ => rfl) (by kernel_rfl) (castP (by kernel_rfl) (show True from trivial)) (castP (by kernel_rfl) (show True from trivial)), trivial⟩ trivial
theorem ok11 (n : Nat) : FnOK Tryd.prog SW 11 [(.agg [.bool, (.int .u64), (.int .i64)])] (.one (.int .i64)) (fun x => F.dec_Check n x.1) := fnOK_of WOf.st (cx11_ok _ n) (d := 8) (fun x => by kernel_rfl)
theorem ok20 (n : Nat) : FnOK Tryd.prog SW 20 [(.int .u64), (.int .i64)] (.one .str) (fun x => O.futoa n x.1 x.2.1) := futoa_ok (enters Tryd.func20 (by kernel_rfl) (by decide)) (fun k hk w hw => (Tryd.strconv_FormatUint_10 k hk w (swTab hw)).mono fun e w' ⟨a, q, os, b⟩ => ⟨a, b ▸ below_grow q os⟩) n
theorem ok21 (n : Nat) : FnOK Tryd.prog SW 21 [.str, (.int .i64)] (.one .str) (fun x => O.repeat' n x.1 x.2.1) := repeat_ok (enters Tryd.func21 (by kernel_rfl) (by decide)) Tryd.strings_Repeat n
noncomputable def cx10 (X : Type) (n : Nat) : Cx X := mkCx tab.get [(10, Tryd.f10)] [(11, orcOf [(.agg [.bool, (.int .u64), (.int .i64)])] (.one (.int .i64)) (fun x => F.dec_Check n x.1)), (20, orcOf [(.int .u64), (.int .i64)] (.one .str) (fun x => O.futoa n x.1 x.2.1)), (21, orcOf [.str, (.int .i64)] (.one .str) (fun x => O.repeat' n x.1 x.2.1))] [] [] [] []
theorem cx10_ok (X : Type) (n : Nat) : CxOK Tryd.prog SW (cx10 X n) := mkCx_ok mixed (tabOK tab_ok) ⟨⟨Tryd.func10, by decide⟩, trivial⟩ ⟨orcOf_ok (ok11 n),
  orcOf_ok (ok20 n),
  orcOf_ok (ok21 n), trivial⟩ ⟨okC_mk (fun _ => rfl) (by kernel_rfl) (castP (by kernel_rfl) (show True from trivial)) (castP (by kernel_rfl) (show True from trivial)), trivial⟩ trivial
theorem ok10 (n : Nat) : FnOK Tryd.prog SW 10 [(.agg [.bool, (.int .u64), (.int .i64)])] (.many [.str, (.int .i64)]) (fun x => F.dec_Text n x.1) := fnOK_of WOf.st (cx10_ok _ n) (d := 8) (fun x => by kernel_rfl)
noncomputable def cx5 (X : Type) (n : Nat) : Cx X := mkCx tab.get [(5, Tryd.f5)] [(9, orcOf [.str] (.many [(.agg [.bool, (.int .u64), (.int .i64)]), (.agg [(.int .i64), (.int .i64)])]) (fun x => F.dec_Parse n x.1)), (10, orcOf [(.agg [.bool, (.int .u64), (.int .i64)])] (.many [.str, (.int .i64)]) (fun x => F.dec_Text n x.1))] [] [] [] []
theorem cx5_ok (X : Type) (n : Nat) : CxOK Tryd.prog SW (cx5 X n) := mkCx_ok mixed (tabOK tab_ok) ⟨⟨Tryd.func5, by decide⟩, trivial⟩ ⟨orcOf_ok (ok9 n),
  orcOf_ok (ok10 n), trivial⟩ ⟨okC_mk (fun _ => rfl) (by kernel_rfl) (castP (by kernel_rfl) (show True from trivial)) (castP (by kernel_rfl) (show True from trivial)), trivial⟩ trivial
theorem ok5 (n : Nat) : FnOK Tryd.prog SW 5 [] (.one .bool) (fun x => F.law03_awake n ) := fnOK_of WOf.st (cx5_ok _ n) (d := 8) (fun x => by kernel_rfl)
theorem ok22 (n : Nat) : FnOK Tryd.prog SW 22 [.str, .str] (.one (.int .i64)) (fun x => O.compare n x.1 x.2.1) := compare_ok (enters Tryd.func22 (by kernel_rfl) (by decide)) Tryd.strings_Compare n
noncomputable def cx12 (X : Type) (n : Nat) : Cx X := mkCx tab.get [(12, Tryd.f12)] [(20, orcOf [(.int .u64), (.int .i64)] (.one .str) (fun x => O.futoa n x.1 x.2.1)), (21, orcOf [.str, (.int .i64)] (.one .str) (fun x => O.repeat' n x.1 x.2.1)), (22, orcOf [.str, .str] (.one (.int .i64)) (fun x => O.compare n x.1 x.2.1))] [] [] [] []
theorem cx12_ok (X : Type) (n : Nat) : CxOK Tryd.prog SW (cx12 X n) := mkCx_ok mixed (tabOK tab_ok) ⟨⟨Tryd.func12, by decide⟩, trivial⟩ ⟨orcOf_ok (ok20 n),
  orcOf_ok (ok21 n),
  orcOf_ok (ok22 n), trivial⟩ ⟨okC_mk (fun _ => rfl) (by kernel_rfl) (castP (by kernel_rfl) (show True from trivial)) (castP (by kernel_rfl) (show True from trivial)), trivial⟩ trivial
theorem ok12 (n : Nat) : FnOK Tryd.prog SW 12 [(.agg [.bool, (.int .u64), (.int .i64)]), (.agg [.bool, (.int .u64), (.int .i64)])] (.one (.int .i64)) (fun x => F.dec_size n x.1 x.2.1) := fnOK_of WOf.st (cx12_ok _ n) (d := 8) (fun x => by kernel_rfl)
def F.dec_Compare.L2.head : Shape := ⟨[(2, (.const (.ref 0 0))), (3, (.const (.ref 1 0))), (11, (.agg [.bool, (.int .u64), (.int .i64), .bool, (.int .u64), (.int .i64)])), (12, (.int .i64))], [[.bool, (.int .u64), (.int .i64)], [.bool, (.int .u64), (.int .i64)]], [], [], [], 2, 0, 0⟩
def F.dec_Compare.L2.e0 : Shape := ⟨[(2, (.const (.ref 0 0))), (3, (.const (.ref 1 0)))], [[.bool, (.int .u64), (.int .i64)], [.bool, (.int .u64), (.int .i64)]], [], [], [], 2, 0, 0⟩
def F.dec_Compare.L2.er : Shape := ⟨[(4, (.int .i64)), (5, (.int .i64))], [[.bool, (.int .u64), (.int .i64)], [.bool, (.int .u64), (.int .i64)]], [], [], [], 2, 0, 0⟩
noncomputable def F.dec_Compare.L2.f {X : Type} (n m : Nat) (ks : Ks X) (s : F.dec_Compare.L2.head.den) : Option X := F.dec_Compare.L2 n (fun qb0_0 qb0_1 qb0_2 qb1_0 qb1_1 qb1_2 => ks.ex 0 (F.dec_Compare.L2.e0.e (((), (), ()), ((qb0_0, qb0_1, qb0_2, ()), (qb1_0, qb1_1, qb1_2, ()), ()), (), ())) (F.dec_Compare.L2.e0.h (((), (), ()), ((qb0_0, qb0_1, qb0_2, ()), (qb1_0, qb1_1, qb1_2, ()), ()), (), ()))) (fun q4 q5 qb0_0 qb0_1 qb0_2 qb1_0 qb1_1 qb1_2 => ks.ret (F.dec_Compare.L2.er.e ((q4, q5, ()), ((qb0_0, qb0_1, qb0_2, ()), (qb1_0, qb1_1, qb1_2, ()), ()), (), ())) (F.dec_Compare.L2.er.h ((q4, q5, ()), ((qb0_0, qb0_1, qb0_2, ()), (qb1_0, qb1_1, qb1_2, ()), ()), (), ()))) m s.1.2.2.1 s.1.2.2.2.1 s.2.1.1.1 s.2.1.1.2.1 s.2.1.1.2.2.1 s.2.1.2.1.1 s.2.1.2.1.2.1 s.2.1.2.1.2.2.1
noncomputable def F.dec_Compare.L2.li (X : Type) (n : Nat) : LoopI X := ⟨8, ⟨0, 0, 0⟩, F.dec_Compare.L2.head, [(0, F.dec_Compare.L2.e0)], some F.dec_Compare.L2.er, F.dec_Compare.L2.f n n⟩
noncomputable def cx6 (X : Type) (n : Nat) : Cx X := mkCx tab.get [(6, Tryd.f6)] [(11, orcOf [(.agg [.bool, (.int .u64), (.int .i64)])] (.one (.int .i64)) (fun x => F.dec_Check n x.1)), (12, orcOf [(.agg [.bool, (.int .u64), (.int .i64)]), (.agg [.bool, (.int .u64), (.int .i64)])] (.one (.int .i64)) (fun x => F.dec_size n x.1 x.2.1))] [(6, 2, [F.dec_Compare.L2.li X n])] [] [] []
theorem F.dec_Compare.L2.ok (X : Type) (n : Nat) : LoopOK (cx6 X n) 6 Tryd.f6.ntmps (loopNo Tryd.f6 0) (F.dec_Compare.L2.li X n) :=
  ⟨F.dec_Compare.L2.f n, n, fun _ _ => rfl, fun _ _ => rfl, fun m ks s => by kernel_rfl⟩
theorem cx6_ok (X : Type) (n : Nat) : CxOK Tryd.prog SW (cx6 X n) := mkCx_ok mixed (tabOK tab_ok) ⟨⟨Tryd.func6, by decide⟩, trivial⟩ ⟨orcOf_ok (ok11 n),
  orcOf_ok (ok12 n), trivial⟩ ⟨okC_mk (fun _ => rfl) (by kernel_rfl) (castP (by kernel_rfl) (show (LoopOK (cx6 X n) 6 Tryd.f6.ntmps (loopNo Tryd.f6 0) (F.dec_Compare.L2.li X n) ∧ True) ∧ True from ⟨⟨F.dec_Compare.L2.ok X n, trivial⟩, trivial⟩)) (castP (by kernel_rfl) (show True from trivial)), trivial⟩ trivial
theorem ok6 (n : Nat) : FnOK Tryd.prog SW 6 [(.agg [.bool, (.int .u64), (.int .i64)]), (.agg [.bool, (.int .u64), (.int .i64)])] (.many [(.int .i64), (.int .i64)]) (fun x => F.dec_Compare n x.1 x.2.1) := fnOK_of WOf.st (cx6_ok _ n) (d := 8) (fun x => by kernel_rfl)
noncomputable def cx7 (X : Type) (n : Nat) : Cx X := mkCx tab.get [(7, Tryd.f7)] [] [] [] [] []
theorem cx7_ok (X : Type) (n : Nat) : CxOK Tryd.prog SW (cx7 X n) := mkCx_ok mixed (tabOK tab_ok) ⟨⟨Tryd.func7, by decide⟩, trivial⟩ trivial ⟨okC_mk (fun _ => rfl) (by kernel_rfl) (castP (by kernel_rfl) (show True from trivial)) (castP (by kernel_rfl) (show True from trivial)), trivial⟩ trivial
theorem ok7 (n : Nat) : FnOK Tryd.prog SW 7 [(.agg [.bool, (.int .u64), (.int .i64)])] (.one (.agg [.bool, (.int .u64), (.int .i64)])) (fun x => F.law03_less n x.1) := fnOK_of WOf.st (cx7_ok _ n) (d := 8) (fun x => by kernel_rfl)
def F.law03_DecOrders.C6.head : Shape := ⟨[(1, (.const (.ref 0 0))), (3, (.const (.ref 1 0))), (4, (.int .i64)), (5, (.const (.ref 2 0))), (6, (.int .i64))], [[.bool, (.int .u64), (.int .i64), .bool, (.int .u64), (.int .i64), .bool, (.int .u64), (.int .i64)], [.bool, (.int .u64), (.int .i64), .bool, (.int .u64), (.int .i64), .bool, (.int .u64), (.int .i64)], [.bool, (.int .u64), (.int .i64)]], [], [], [], 3, 0, 0⟩
def F.law03_DecOrders.C6.er : Shape := ⟨[(2, .bool)], [[.bool, (.int .u64), (.int .i64), .bool, (.int .u64), (.int .i64), .bool, (.int .u64), (.int .i64)], [.bool, (.int .u64), (.int .i64), .bool, (.int .u64), (.int .i64), .bool, (.int .u64), (.int .i64)]], [], [], [], 2, 0, 0⟩
def F.law03_DecOrders.C6.en : Shape := ⟨[(1, (.const (.ref 0 0))), (3, (.const (.ref 1 0))), (4, (.int .i64))], [[.bool, (.int .u64), (.int .i64), .bool, (.int .u64), (.int .i64), .bool, (.int .u64), (.int .i64)], [.bool, (.int .u64), (.int .i64), .bool, (.int .u64), (.int .i64), .bool, (.int .u64), (.int .i64)]], [], [], [], 2, 0, 0⟩
noncomputable def F.law03_DecOrders.C6.f {X : Type} (n : Nat) (ks : Ks X) (s : F.law03_DecOrders.C6.head.den) : Option X := F.law03_DecOrders.C6 n (fun q2 qb0_0 qb0_1 qb0_2 qb0_3 qb0_4 qb0_5 qb0_6 qb0_7 qb0_8 qb1_0 qb1_1 qb1_2 qb1_3 qb1_4 qb1_5 qb1_6 qb1_7 qb1_8 => ks.ret (F.law03_DecOrders.C6.er.e ((q2, ()), ((qb0_0, qb0_1, qb0_2, qb0_3, qb0_4, qb0_5, qb0_6, qb0_7, qb0_8, ()), (qb1_0, qb1_1, qb1_2, qb1_3, qb1_4, qb1_5, qb1_6, qb1_7, qb1_8, ()), ()), (), ())) (F.law03_DecOrders.C6.er.h ((q2, ()), ((qb0_0, qb0_1, qb0_2, qb0_3, qb0_4, qb0_5, qb0_6, qb0_7, qb0_8, ()), (qb1_0, qb1_1, qb1_2, qb1_3, qb1_4, qb1_5, qb1_6, qb1_7, qb1_8, ()), ()), (), ()))) (fun q4 qb0_0 qb0_1 qb0_2 qb0_3 qb0_4 qb0_5 qb0_6 qb0_7 qb0_8 qb1_0 qb1_1 qb1_2 qb1_3 qb1_4 qb1_5 qb1_6 qb1_7 qb1_8 => ks.nxt (F.law03_DecOrders.C6.en.e (((), (), q4, ()), ((qb0_0, qb0_1, qb0_2, qb0_3, qb0_4, qb0_5, qb0_6, qb0_7, qb0_8, ()), (qb1_0, qb1_1, qb1_2, qb1_3, qb1_4, qb1_5, qb1_6, qb1_7, qb1_8, ()), ()), (), ())) (F.law03_DecOrders.C6.en.h (((), (), q4, ()), ((qb0_0, qb0_1, qb0_2, qb0_3, qb0_4, qb0_5, qb0_6, qb0_7, qb0_8, ()), (qb1_0, qb1_1, qb1_2, qb1_3, qb1_4, qb1_5, qb1_6, qb1_7, qb1_8, ()), ()), (), ()))) s.1.2.2.1 s.1.2.2.2.2.1 s.2.1.1.1 s.2.1.1.2.1 s.2.1.1.2.2.1 s.2.1.1.2.2.2.1 s.2.1.1.2.2.2.2.1 s.2.1.1.2.2.2.2.2.1 s.2.1.1.2.2.2.2.2.2.1 s.2.1.1.2.2.2.2.2.2.2.1 s.2.1.1.2.2.2.2.2.2.2.2.1 s.2.1.2.1.1 s.2.1.2.1.2.1 s.2.1.2.1.2.2.1 s.2.1.2.1.2.2.2.1 s.2.1.2.1.2.2.2.2.1 s.2.1.2.1.2.2.2.2.2.1 s.2.1.2.1.2.2.2.2.2.2.1 s.2.1.2.1.2.2.2.2.2.2.2.1 s.2.1.2.1.2.2.2.2.2.2.2.2.1 s.2.1.2.2.1.1 s.2.1.2.2.1.2.1 s.2.1.2.2.1.2.2.1
noncomputable def F.law03_DecOrders.C6.ci (X : Type) (n : Nat) : CutI X := ⟨8, ⟨0, 0, 0⟩, F.law03_DecOrders.C6.head, some F.law03_DecOrders.C6.en, [], some F.law03_DecOrders.C6.er, F.law03_DecOrders.C6.f n⟩
def F.law03_DecOrders.L3.head : Shape := ⟨[(1, (.const (.ref 0 0))), (3, (.const (.ref 1 0))), (4, (.int .i64))], [[.bool, (.int .u64), (.int .i64), .bool, (.int .u64), (.int .i64), .bool, (.int .u64), (.int .i64)], [.bool, (.int .u64), (.int .i64), .bool, (.int .u64), (.int .i64), .bool, (.int .u64), (.int .i64)]], [], [], [], 2, 0, 0⟩
def F.law03_DecOrders.L3.e0 : Shape := ⟨[(3, (.const (.ref 1 0)))], [[.bool, (.int .u64), (.int .i64), .bool, (.int .u64), (.int .i64), .bool, (.int .u64), (.int .i64)], [.bool, (.int .u64), (.int .i64), .bool, (.int .u64), (.int .i64), .bool, (.int .u64), (.int .i64)]], [], [], [], 2, 0, 0⟩
def F.law03_DecOrders.L3.er : Shape := ⟨[(2, .bool)], [[.bool, (.int .u64), (.int .i64), .bool, (.int .u64), (.int .i64), .bool, (.int .u64), (.int .i64)], [.bool, (.int .u64), (.int .i64), .bool, (.int .u64), (.int .i64), .bool, (.int .u64), (.int .i64)]], [], [], [], 2, 0, 0⟩
noncomputable def F.law03_DecOrders.L3.f {X : Type} (n m : Nat) (ks : Ks X) (s : F.law03_DecOrders.L3.head.den) : Option X := F.law03_DecOrders.L3 n (fun qb0_0 qb0_1 qb0_2 qb0_3 qb0_4 qb0_5 qb0_6 qb0_7 qb0_8 qb1_0 qb1_1 qb1_2 qb1_3 qb1_4 qb1_5 qb1_6 qb1_7 qb1_8 => ks.ex 0 (F.law03_DecOrders.L3.e0.e (((), ()), ((qb0_0, qb0_1, qb0_2, qb0_3, qb0_4, qb0_5, qb0_6, qb0_7, qb0_8, ()), (qb1_0, qb1_1, qb1_2, qb1_3, qb1_4, qb1_5, qb1_6, qb1_7, qb1_8, ()), ()), (), ())) (F.law03_DecOrders.L3.e0.h (((), ()), ((qb0_0, qb0_1, qb0_2, qb0_3, qb0_4, qb0_5, qb0_6, qb0_7, qb0_8, ()), (qb1_0, qb1_1, qb1_2, qb1_3, qb1_4, qb1_5, qb1_6, qb1_7, qb1_8, ()), ()), (), ()))) (fun q2 qb0_0 qb0_1 qb0_2 qb0_3 qb0_4 qb0_5 qb0_6 qb0_7 qb0_8 qb1_0 qb1_1 qb1_2 qb1_3 qb1_4 qb1_5 qb1_6 qb1_7 qb1_8 => ks.ret (F.law03_DecOrders.L3.er.e ((q2, ()), ((qb0_0, qb0_1, qb0_2, qb0_3, qb0_4, qb0_5, qb0_6, qb0_7, qb0_8, ()), (qb1_0, qb1_1, qb1_2, qb1_3, qb1_4, qb1_5, qb1_6, qb1_7, qb1_8, ()), ()), (), ())) (F.law03_DecOrders.L3.er.h ((q2, ()), ((qb0_0, qb0_1, qb0_2, qb0_3, qb0_4, qb0_5, qb0_6, qb0_7, qb0_8, ()), (qb1_0, qb1_1, qb1_2, qb1_3, qb1_4, qb1_5, qb1_6, qb1_7, qb1_8, ()), ()), (), ()))) m s.1.2.2.1 s.2.1.1.1 s.2.1.1.2.1 s.2.1.1.2.2.1 s.2.1.1.2.2.2.1 s.2.1.1.2.2.2.2.1 s.2.1.1.2.2.2.2.2.1 s.2.1.1.2.2.2.2.2.2.1 s.2.1.1.2.2.2.2.2.2.2.1 s.2.1.1.2.2.2.2.2.2.2.2.1 s.2.1.2.1.1 s.2.1.2.1.2.1 s.2.1.2.1.2.2.1 s.2.1.2.1.2.2.2.1 s.2.1.2.1.2.2.2.2.1 s.2.1.2.1.2.2.2.2.2.1 s.2.1.2.1.2.2.2.2.2.2.1 s.2.1.2.1.2.2.2.2.2.2.2.1 s.2.1.2.1.2.2.2.2.2.2.2.2.1
noncomputable def F.law03_DecOrders.L3.li (X : Type) (n : Nat) : LoopI X := ⟨8, ⟨0, 0, 0⟩, F.law03_DecOrders.L3.head, [(0, F.law03_DecOrders.L3.e0)], some F.law03_DecOrders.L3.er, F.law03_DecOrders.L3.f n n⟩
def F.law03_DecOrders.C20.head : Shape := ⟨[(3, (.const (.ref 1 0))), (7, (.const (.ref 2 0))), (8, (.int .i64)), (9, (.int .i64)), (10, (.int .i64))], [[.bool, (.int .u64), (.int .i64), .bool, (.int .u64), (.int .i64), .bool, (.int .u64), (.int .i64)], [.bool, (.int .u64), (.int .i64), .bool, (.int .u64), (.int .i64), .bool, (.int .u64), (.int .i64)], [(.int .i64), (.int .i64), (.int .i64), (.int .i64), (.int .i64), (.int .i64), (.int .i64), (.int .i64), (.int .i64)]], [], [], [], 3, 0, 0⟩
def F.law03_DecOrders.C20.er : Shape := ⟨[(2, .bool)], [[.bool, (.int .u64), (.int .i64), .bool, (.int .u64), (.int .i64), .bool, (.int .u64), (.int .i64)], [.bool, (.int .u64), (.int .i64), .bool, (.int .u64), (.int .i64), .bool, (.int .u64), (.int .i64)], [(.int .i64), (.int .i64), (.int .i64), (.int .i64), (.int .i64), (.int .i64), (.int .i64), (.int .i64), (.int .i64)]], [], [], [], 3, 0, 0⟩
def F.law03_DecOrders.C20.en : Shape := ⟨[(3, (.const (.ref 1 0))), (7, (.const (.ref 2 0))), (8, (.int .i64)), (9, (.int .i64))], [[.bool, (.int .u64), (.int .i64), .bool, (.int .u64), (.int .i64), .bool, (.int .u64), (.int .i64)], [.bool, (.int .u64), (.int .i64), .bool, (.int .u64), (.int .i64), .bool, (.int .u64), (.int .i64)], [(.int .i64), (.int .i64), (.int .i64), (.int .i64), (.int .i64), (.int .i64), (.int .i64), (.int .i64), (.int .i64)]], [], [], [], 3, 0, 0⟩
noncomputable def F.law03_DecOrders.C20.f {X : Type} (n : Nat) (ks : Ks X) (s : F.law03_DecOrders.C20.head.den) : Option X := F.law03_DecOrders.C20 n (fun q2 qb0_0 qb0_1 qb0_2 qb0_3 qb0_4 qb0_5 qb0_6 qb0_7 qb0_8 qb1_0 qb1_1 qb1_2 qb1_3 qb1_4 qb1_5 qb1_6 qb1_7 qb1_8 qb2_0 qb2_1 qb2_2 qb2_3 qb2_4 qb2_5 qb2_6 qb2_7 qb2_8 => ks.ret (F.law03_DecOrders.C20.er.e ((q2, ()), ((qb0_0, qb0_1, qb0_2, qb0_3, qb0_4, qb0_5, qb0_6, qb0_7, qb0_8, ()), (qb1_0, qb1_1, qb1_2, qb1_3, qb1_4, qb1_5, qb1_6, qb1_7, qb1_8, ()), (qb2_0, qb2_1, qb2_2, qb2_3, qb2_4, qb2_5, qb2_6, qb2_7, qb2_8, ()), ()), (), ())) (F.law03_DecOrders.C20.er.h ((q2, ()), ((qb0_0, qb0_1, qb0_2, qb0_3, qb0_4, qb0_5, qb0_6, qb0_7, qb0_8, ()), (qb1_0, qb1_1, qb1_2, qb1_3, qb1_4, qb1_5, qb1_6, qb1_7, qb1_8, ()), (qb2_0, qb2_1, qb2_2, qb2_3, qb2_4, qb2_5, qb2_6, qb2_7, qb2_8, ()), ()), (), ()))) (fun q8 q9 qb0_0 qb0_1 qb0_2 qb0_3 qb0_4 qb0_5 qb0_6 qb0_7 qb0_8 qb1_0 qb1_1 qb1_2 qb1_3 qb1_4 qb1_5 qb1_6 qb1_7 qb1_8 qb2_0 qb2_1 qb2_2 qb2_3 qb2_4 qb2_5 qb2_6 qb2_7 qb2_8 => ks.nxt (F.law03_DecOrders.C20.en.e (((), (), q8, q9, ()), ((qb0_0, qb0_1, qb0_2, qb0_3, qb0_4, qb0_5, qb0_6, qb0_7, qb0_8, ()), (qb1_0, qb1_1, qb1_2, qb1_3, qb1_4, qb1_5, qb1_6, qb1_7, qb1_8, ()), (qb2_0, qb2_1, qb2_2, qb2_3, qb2_4, qb2_5, qb2_6, qb2_7, qb2_8, ()), ()), (), ())) (F.law03_DecOrders.C20.en.h (((), (), q8, q9, ()), ((qb0_0, qb0_1, qb0_2, qb0_3, qb0_4, qb0_5, qb0_6, qb0_7, qb0_8, ()), (qb1_0, qb1_1, qb1_2, qb1_3, qb1_4, qb1_5, qb1_6, qb1_7, qb1_8, ()), (qb2_0, qb2_1, qb2_2, qb2_3, qb2_4, qb2_5, qb2_6, qb2_7, qb2_8, ()), ()), (), ()))) s.1.2.2.1 s.1.2.2.2.1 s.1.2.2.2.2.1 s.2.1.1.1 s.2.1.1.2.1 s.2.1.1.2.2.1 s.2.1.1.2.2.2.1 s.2.1.1.2.2.2.2.1 s.2.1.1.2.2.2.2.2.1 s.2.1.1.2.2.2.2.2.2.1 s.2.1.1.2.2.2.2.2.2.2.1 s.2.1.1.2.2.2.2.2.2.2.2.1 s.2.1.2.1.1 s.2.1.2.1.2.1 s.2.1.2.1.2.2.1 s.2.1.2.1.2.2.2.1 s.2.1.2.1.2.2.2.2.1 s.2.1.2.1.2.2.2.2.2.1 s.2.1.2.1.2.2.2.2.2.2.1 s.2.1.2.1.2.2.2.2.2.2.2.1 s.2.1.2.1.2.2.2.2.2.2.2.2.1 s.2.1.2.2.1.1 s.2.1.2.2.1.2.1 s.2.1.2.2.1.2.2.1 s.2.1.2.2.1.2.2.2.1 s.2.1.2.2.1.2.2.2.2.1 s.2.1.2.2.1.2.2.2.2.2.1 s.2.1.2.2.1.2.2.2.2.2.2.1 s.2.1.2.2.1.2.2.2.2.2.2.2.1 s.2.1.2.2.1.2.2.2.2.2.2.2.2.1
noncomputable def F.law03_DecOrders.C20.ci (X : Type) (n : Nat) : CutI X := ⟨8, ⟨0, 0, 0⟩, F.law03_DecOrders.C20.head, some F.law03_DecOrders.C20.en, [], some F.law03_DecOrders.C20.er, F.law03_DecOrders.C20.f n⟩
def F.law03_DecOrders.C19.head : Shape := ⟨[(3, (.const (.ref 1 0))), (7, (.const (.ref 2 0))), (8, (.int .i64)), (9, (.int .i64)), (10, (.int .i64))], [[.bool, (.int .u64), (.int .i64), .bool, (.int .u64), (.int .i64), .bool, (.int .u64), (.int .i64)], [.bool, (.int .u64), (.int .i64), .bool, (.int .u64), (.int .i64), .bool, (.int .u64), (.int .i64)], [(.int .i64), (.int .i64), (.int .i64), (.int .i64), (.int .i64), (.int .i64), (.int .i64), (.int .i64), (.int .i64)]], [], [], [], 3, 0, 0⟩
def F.law03_DecOrders.C19.er : Shape := ⟨[(2, .bool)], [[.bool, (.int .u64), (.int .i64), .bool, (.int .u64), (.int .i64), .bool, (.int .u64), (.int .i64)], [.bool, (.int .u64), (.int .i64), .bool, (.int .u64), (.int .i64), .bool, (.int .u64), (.int .i64)], [(.int .i64), (.int .i64), (.int .i64), (.int .i64), (.int .i64), (.int .i64), (.int .i64), (.int .i64), (.int .i64)]], [], [], [], 3, 0, 0⟩
def F.law03_DecOrders.C19.en : Shape := ⟨[(3, (.const (.ref 1 0))), (7, (.const (.ref 2 0))), (8, (.int .i64)), (9, (.int .i64))], [[.bool, (.int .u64), (.int .i64), .bool, (.int .u64), (.int .i64), .bool, (.int .u64), (.int .i64)], [.bool, (.int .u64), (.int .i64), .bool, (.int .u64), (.int .i64), .bool, (.int .u64), (.int .i64)], [(.int .i64), (.int .i64), (.int .i64), (.int .i64), (.int .i64), (.int .i64), (.int .i64), (.int .i64), (.int .i64)]], [], [], [], 3, 0, 0⟩
noncomputable def F.law03_DecOrders.C19.f {X : Type} (n : Nat) (ks : Ks X) (s : F.law03_DecOrders.C19.head.den) : Option X := F.law03_DecOrders.C19 n (fun q2 qb0_0 qb0_1 qb0_2 qb0_3 qb0_4 qb0_5 qb0_6 qb0_7 qb0_8 qb1_0 qb1_1 qb1_2 qb1_3 qb1_4 qb1_5 qb1_6 qb1_7 qb1_8 qb2_0 qb2_1 qb2_2 qb2_3 qb2_4 qb2_5 qb2_6 qb2_7 qb2_8 => ks.ret (F.law03_DecOrders.C19.er.e ((q2, ()), ((qb0_0, qb0_1, qb0_2, qb0_3, qb0_4, qb0_5, qb0_6, qb0_7, qb0_8, ()), (qb1_0, qb1_1, qb1_2, qb1_3, qb1_4, qb1_5, qb1_6, qb1_7, qb1_8, ()), (qb2_0, qb2_1, qb2_2, qb2_3, qb2_4, qb2_5, qb2_6, qb2_7, qb2_8, ()), ()), (), ())) (F.law03_DecOrders.C19.er.h ((q2, ()), ((qb0_0, qb0_1, qb0_2, qb0_3, qb0_4, qb0_5, qb0_6, qb0_7, qb0_8, ()), (qb1_0, qb1_1, qb1_2, qb1_3, qb1_4, qb1_5, qb1_6, qb1_7, qb1_8, ()), (qb2_0, qb2_1, qb2_2, qb2_3, qb2_4, qb2_5, qb2_6, qb2_7, qb2_8, ()), ()), (), ()))) (fun q8 q9 qb0_0 qb0_1 qb0_2 qb0_3 qb0_4 qb0_5 qb0_6 qb0_7 qb0_8 qb1_0 qb1_1 qb1_2 qb1_3 qb1_4 qb1_5 qb1_6 qb1_7 qb1_8 qb2_0 qb2_1 qb2_2 qb2_3 qb2_4 qb2_5 qb2_6 qb2_7 qb2_8 => ks.nxt (F.law03_DecOrders.C19.en.e (((), (), q8, q9, ()), ((qb0_0, qb0_1, qb0_2, qb0_3, qb0_4, qb0_5, qb0_6, qb0_7, qb0_8, ()), (qb1_0, qb1_1, qb1_2, qb1_3, qb1_4, qb1_5, qb1_6, qb1_7, qb1_8, ()), (qb2_0, qb2_1, qb2_2, qb2_3, qb2_4, qb2_5, qb2_6, qb2_7, qb2_8, ()), ()), (), ())) (F.law03_DecOrders.C19.en.h (((), (), q8, q9, ()), ((qb0_0, qb0_1, qb0_2, qb0_3, qb0_4, qb0_5, qb0_6, qb0_7, qb0_8, ()), (qb1_0, qb1_1, qb1_2, qb1_3, qb1_4, qb1_5, qb1_6, qb1_7, qb1_8, ()), (qb2_0, qb2_1, qb2_2, qb2_3, qb2_4, qb2_5, qb2_6, qb2_7, qb2_8, ()), ()), (), ()))) s.1.2.2.1 s.1.2.2.2.1 s.1.2.2.2.2.1 s.2.1.1.1 s.2.1.1.2.1 s.2.1.1.2.2.1 s.2.1.1.2.2.2.1 s.2.1.1.2.2.2.2.1 s.2.1.1.2.2.2.2.2.1 s.2.1.1.2.2.2.2.2.2.1 s.2.1.1.2.2.2.2.2.2.2.1 s.2.1.1.2.2.2.2.2.2.2.2.1 s.2.1.2.1.1 s.2.1.2.1.2.1 s.2.1.2.1.2.2.1 s.2.1.2.1.2.2.2.1 s.2.1.2.1.2.2.2.2.1 s.2.1.2.1.2.2.2.2.2.1 s.2.1.2.1.2.2.2.2.2.2.1 s.2.1.2.1.2.2.2.2.2.2.2.1 s.2.1.2.1.2.2.2.2.2.2.2.2.1 s.2.1.2.2.1.1 s.2.1.2.2.1.2.1 s.2.1.2.2.1.2.2.1 s.2.1.2.2.1.2.2.2.1 s.2.1.2.2.1.2.2.2.2.1 s.2.1.2.2.1.2.2.2.2.2.1 s.2.1.2.2.1.2.2.2.2.2.2.1 s.2.1.2.2.1.2.2.2.2.2.2.2.1 s.2.1.2.2.1.2.2.2.2.2.2.2.2.1
noncomputable def F.law03_DecOrders.C19.ci (X : Type) (n : Nat) : CutI X := ⟨8, ⟨0, 0, 0⟩, F.law03_DecOrders.C19.head, some F.law03_DecOrders.C19.en, [], some F.law03_DecOrders.C19.er, F.law03_DecOrders.C19.f n⟩
def F.law03_DecOrders.C17.head : Shape := ⟨[(3, (.const (.ref 1 0))), (7, (.const (.ref 2 0))), (8, (.int .i64)), (9, (.int .i64)), (10, (.int .i64)), (11, (.int .i64))], [[.bool, (.int .u64), (.int .i64), .bool, (.int .u64), (.int .i64), .bool, (.int .u64), (.int .i64)], [.bool, (.int .u64), (.int .i64), .bool, (.int .u64), (.int .i64), .bool, (.int .u64), (.int .i64)], [(.int .i64), (.int .i64), (.int .i64), (.int .i64), (.int .i64), (.int .i64), (.int .i64), (.int .i64), (.int .i64)]], [], [], [], 3, 0, 0⟩
def F.law03_DecOrders.C17.er : Shape := ⟨[(2, .bool)], [[.bool, (.int .u64), (.int .i64), .bool, (.int .u64), (.int .i64), .bool, (.int .u64), (.int .i64)], [.bool, (.int .u64), (.int .i64), .bool, (.int .u64), (.int .i64), .bool, (.int .u64), (.int .i64)], [(.int .i64), (.int .i64), (.int .i64), (.int .i64), (.int .i64), (.int .i64), (.int .i64), (.int .i64), (.int .i64)]], [], [], [], 3, 0, 0⟩
def F.law03_DecOrders.C17.en : Shape := ⟨[(3, (.const (.ref 1 0))), (7, (.const (.ref 2 0))), (8, (.int .i64)), (9, (.int .i64))], [[.bool, (.int .u64), (.int .i64), .bool, (.int .u64), (.int .i64), .bool, (.int .u64), (.int .i64)], [.bool, (.int .u64), (.int .i64), .bool, (.int .u64), (.int .i64), .bool, (.int .u64), (.int .i64)], [(.int .i64), (.int .i64), (.int .i64), (.int .i64), (.int .i64), (.int .i64), (.int .i64), (.int .i64), (.int .i64)]], [], [], [], 3, 0, 0⟩
noncomputable def F.law03_DecOrders.C17.f {X : Type} (n : Nat) (ks : Ks X) (s : F.law03_DecOrders.C17.head.den) : Option X := F.law03_DecOrders.C17 n (fun q2 qb0_0 qb0_1 qb0_2 qb0_3 qb0_4 qb0_5 qb0_6 qb0_7 qb0_8 qb1_0 qb1_1 qb1_2 qb1_3 qb1_4 qb1_5 qb1_6 qb1_7 qb1_8 qb2_0 qb2_1 qb2_2 qb2_3 qb2_4 qb2_5 qb2_6 qb2_7 qb2_8 => ks.ret (F.law03_DecOrders.C17.er.e ((q2, ()), ((qb0_0, qb0_1, qb0_2, qb0_3, qb0_4, qb0_5, qb0_6, qb0_7, qb0_8, ()), (qb1_0, qb1_1, qb1_2, qb1_3, qb1_4, qb1_5, qb1_6, qb1_7, qb1_8, ()), (qb2_0, qb2_1, qb2_2, qb2_3, qb2_4, qb2_5, qb2_6, qb2_7, qb2_8, ()), ()), (), ())) (F.law03_DecOrders.C17.er.h ((q2, ()), ((qb0_0, qb0_1, qb0_2, qb0_3, qb0_4, qb0_5, qb0_6, qb0_7, qb0_8, ()), (qb1_0, qb1_1, qb1_2, qb1_3, qb1_4, qb1_5, qb1_6, qb1_7, qb1_8, ()), (qb2_0, qb2_1, qb2_2, qb2_3, qb2_4, qb2_5, qb2_6, qb2_7, qb2_8, ()), ()), (), ()))) (fun q8 q9 qb0_0 qb0_1 qb0_2 qb0_3 qb0_4 qb0_5 qb0_6 qb0_7 qb0_8 qb1_0 qb1_1 qb1_2 qb1_3 qb1_4 qb1_5 qb1_6 qb1_7 qb1_8 qb2_0 qb2_1 qb2_2 qb2_3 qb2_4 qb2_5 qb2_6 qb2_7 qb2_8 => ks.nxt (F.law03_DecOrders.C17.en.e (((), (), q8, q9, ()), ((qb0_0, qb0_1, qb0_2, qb0_3, qb0_4, qb0_5, qb0_6, qb0_7, qb0_8, ()), (qb1_0, qb1_1, qb1_2, qb1_3, qb1_4, qb1_5, qb1_6, qb1_7, qb1_8, ()), (qb2_0, qb2_1, qb2_2, qb2_3, qb2_4, qb2_5, qb2_6, qb2_7, qb2_8, ()), ()), (), ())) (F.law03_DecOrders.C17.en.h (((), (), q8, q9, ()), ((qb0_0, qb0_1, qb0_2, qb0_3, qb0_4, qb0_5, qb0_6, qb0_7, qb0_8, ()), (qb1_0, qb1_1, qb1_2, qb1_3, qb1_4, qb1_5, qb1_6, qb1_7, qb1_8, ()), (qb2_0, qb2_1, qb2_2, qb2_3, qb2_4, qb2_5, qb2_6, qb2_7, qb2_8, ()), ()), (), ()))) s.1.2.2.1 s.1.2.2.2.1 s.1.2.2.2.2.1 s.1.2.2.2.2.2.1 s.2.1.1.1 s.2.1.1.2.1 s.2.1.1.2.2.1 s.2.1.1.2.2.2.1 s.2.1.1.2.2.2.2.1 s.2.1.1.2.2.2.2.2.1 s.2.1.1.2.2.2.2.2.2.1 s.2.1.1.2.2.2.2.2.2.2.1 s.2.1.1.2.2.2.2.2.2.2.2.1 s.2.1.2.1.1 s.2.1.2.1.2.1 s.2.1.2.1.2.2.1 s.2.1.2.1.2.2.2.1 s.2.1.2.1.2.2.2.2.1 s.2.1.2.1.2.2.2.2.2.1 s.2.1.2.1.2.2.2.2.2.2.1 s.2.1.2.1.2.2.2.2.2.2.2.1 s.2.1.2.1.2.2.2.2.2.2.2.2.1 s.2.1.2.2.1.1 s.2.1.2.2.1.2.1 s.2.1.2.2.1.2.2.1 s.2.1.2.2.1.2.2.2.1 s.2.1.2.2.1.2.2.2.2.1 s.2.1.2.2.1.2.2.2.2.2.1 s.2.1.2.2.1.2.2.2.2.2.2.1 s.2.1.2.2.1.2.2.2.2.2.2.2.1 s.2.1.2.2.1.2.2.2.2.2.2.2.2.1
noncomputable def F.law03_DecOrders.C17.ci (X : Type) (n : Nat) : CutI X := ⟨8, ⟨0, 0, 0⟩, F.law03_DecOrders.C17.head, some F.law03_DecOrders.C17.en, [], some F.law03_DecOrders.C17.er, F.law03_DecOrders.C17.f n⟩
def F.law03_DecOrders.L14.head : Shape := ⟨[(3, (.const (.ref 1 0))), (7, (.const (.ref 2 0))), (8, (.int .i64)), (9, (.int .i64))], [[.bool, (.int .u64), (.int .i64), .bool, (.int .u64), (.int .i64), .bool, (.int .u64), (.int .i64)], [.bool, (.int .u64), (.int .i64), .bool, (.int .u64), (.int .i64), .bool, (.int .u64), (.int .i64)], [(.int .i64), (.int .i64), (.int .i64), (.int .i64), (.int .i64), (.int .i64), (.int .i64), (.int .i64), (.int .i64)]], [], [], [], 3, 0, 0⟩
def F.law03_DecOrders.L14.e4 : Shape := ⟨[(3, (.const (.ref 1 0))), (7, (.const (.ref 2 0))), (8, (.int .i64))], [[.bool, (.int .u64), (.int .i64), .bool, (.int .u64), (.int .i64), .bool, (.int .u64), (.int .i64)], [.bool, (.int .u64), (.int .i64), .bool, (.int .u64), (.int .i64), .bool, (.int .u64), (.int .i64)], [(.int .i64), (.int .i64), (.int .i64), (.int .i64), (.int .i64), (.int .i64), (.int .i64), (.int .i64), (.int .i64)]], [], [], [], 3, 0, 0⟩
def F.law03_DecOrders.L14.er : Shape := ⟨[(2, .bool)], [[.bool, (.int .u64), (.int .i64), .bool, (.int .u64), (.int .i64), .bool, (.int .u64), (.int .i64)], [.bool, (.int .u64), (.int .i64), .bool, (.int .u64), (.int .i64), .bool, (.int .u64), (.int .i64)], [(.int .i64), (.int .i64), (.int .i64), (.int .i64), (.int .i64), (.int .i64), (.int .i64), (.int .i64), (.int .i64)]], [], [], [], 3, 0, 0⟩
noncomputable def F.law03_DecOrders.L14.f {X : Type} (n m : Nat) (ks : Ks X) (s : F.law03_DecOrders.L14.head.den) : Option X := F.law03_DecOrders.L14 n (fun q8 qb0_0 qb0_1 qb0_2 qb0_3 qb0_4 qb0_5 qb0_6 qb0_7 qb0_8 qb1_0 qb1_1 qb1_2 qb1_3 qb1_4 qb1_5 qb1_6 qb1_7 qb1_8 qb2_0 qb2_1 qb2_2 qb2_3 qb2_4 qb2_5 qb2_6 qb2_7 qb2_8 => ks.ex 4 (F.law03_DecOrders.L14.e4.e (((), (), q8, ()), ((qb0_0, qb0_1, qb0_2, qb0_3, qb0_4, qb0_5, qb0_6, qb0_7, qb0_8, ()), (qb1_0, qb1_1, qb1_2, qb1_3, qb1_4, qb1_5, qb1_6, qb1_7, qb1_8, ()), (qb2_0, qb2_1, qb2_2, qb2_3, qb2_4, qb2_5, qb2_6, qb2_7, qb2_8, ()), ()), (), ())) (F.law03_DecOrders.L14.e4.h (((), (), q8, ()), ((qb0_0, qb0_1, qb0_2, qb0_3, qb0_4, qb0_5, qb0_6, qb0_7, qb0_8, ()), (qb1_0, qb1_1, qb1_2, qb1_3, qb1_4, qb1_5, qb1_6, qb1_7, qb1_8, ()), (qb2_0, qb2_1, qb2_2, qb2_3, qb2_4, qb2_5, qb2_6, qb2_7, qb2_8, ()), ()), (), ()))) (fun q2 qb0_0 qb0_1 qb0_2 qb0_3 qb0_4 qb0_5 qb0_6 qb0_7 qb0_8 qb1_0 qb1_1 qb1_2 qb1_3 qb1_4 qb1_5 qb1_6 qb1_7 qb1_8 qb2_0 qb2_1 qb2_2 qb2_3 qb2_4 qb2_5 qb2_6 qb2_7 qb2_8 => ks.ret (F.law03_DecOrders.L14.er.e ((q2, ()), ((qb0_0, qb0_1, qb0_2, qb0_3, qb0_4, qb0_5, qb0_6, qb0_7, qb0_8, ()), (qb1_0, qb1_1, qb1_2, qb1_3, qb1_4, qb1_5, qb1_6, qb1_7, qb1_8, ()), (qb2_0, qb2_1, qb2_2, qb2_3, qb2_4, qb2_5, qb2_6, qb2_7, qb2_8, ()), ()), (), ())) (F.law03_DecOrders.L14.er.h ((q2, ()), ((qb0_0, qb0_1, qb0_2, qb0_3, qb0_4, qb0_5, qb0_6, qb0_7, qb0_8, ()), (qb1_0, qb1_1, qb1_2, qb1_3, qb1_4, qb1_5, qb1_6, qb1_7, qb1_8, ()), (qb2_0, qb2_1, qb2_2, qb2_3, qb2_4, qb2_5, qb2_6, qb2_7, qb2_8, ()), ()), (), ()))) m s.1.2.2.1 s.1.2.2.2.1 s.2.1.1.1 s.2.1.1.2.1 s.2.1.1.2.2.1 s.2.1.1.2.2.2.1 s.2.1.1.2.2.2.2.1 s.2.1.1.2.2.2.2.2.1 s.2.1.1.2.2.2.2.2.2.1 s.2.1.1.2.2.2.2.2.2.2.1 s.2.1.1.2.2.2.2.2.2.2.2.1 s.2.1.2.1.1 s.2.1.2.1.2.1 s.2.1.2.1.2.2.1 s.2.1.2.1.2.2.2.1 s.2.1.2.1.2.2.2.2.1 s.2.1.2.1.2.2.2.2.2.1 s.2.1.2.1.2.2.2.2.2.2.1 s.2.1.2.1.2.2.2.2.2.2.2.1 s.2.1.2.1.2.2.2.2.2.2.2.2.1 s.2.1.2.2.1.1 s.2.1.2.2.1.2.1 s.2.1.2.2.1.2.2.1 s.2.1.2.2.1.2.2.2.1 s.2.1.2.2.1.2.2.2.2.1 s.2.1.2.2.1.2.2.2.2.2.1 s.2.1.2.2.1.2.2.2.2.2.2.1 s.2.1.2.2.1.2.2.2.2.2.2.2.1 s.2.1.2.2.1.2.2.2.2.2.2.2.2.1
noncomputable def F.law03_DecOrders.L14.li (X : Type) (n : Nat) : LoopI X := ⟨8, ⟨0, 0, 0⟩, F.law03_DecOrders.L14.head, [(4, F.law03_DecOrders.L14.e4)], some F.law03_DecOrders.L14.er, F.law03_DecOrders.L14.f n n⟩
def F.law03_DecOrders.L11.head : Shape := ⟨[(3, (.const (.ref 1 0))), (7, (.const (.ref 2 0))), (8, (.int .i64))], [[.bool, (.int .u64), (.int .i64), .bool, (.int .u64), (.int .i64), .bool, (.int .u64), (.int .i64)], [.bool, (.int .u64), (.int .i64), .bool, (.int .u64), (.int .i64), .bool, (.int .u64), (.int .i64)], [(.int .i64), (.int .i64), (.int .i64), (.int .i64), (.int .i64), (.int .i64), (.int .i64), (.int .i64), (.int .i64)]], [], [], [], 3, 0, 0⟩
def F.law03_DecOrders.L11.e2 : Shape := ⟨[(7, (.const (.ref 2 0)))], [[.bool, (.int .u64), (.int .i64), .bool, (.int .u64), (.int .i64), .bool, (.int .u64), (.int .i64)], [.bool, (.int .u64), (.int .i64), .bool, (.int .u64), (.int .i64), .bool, (.int .u64), (.int .i64)], [(.int .i64), (.int .i64), (.int .i64), (.int .i64), (.int .i64), (.int .i64), (.int .i64), (.int .i64), (.int .i64)]], [], [], [], 3, 0, 0⟩
def F.law03_DecOrders.L11.er : Shape := ⟨[(2, .bool)], [[.bool, (.int .u64), (.int .i64), .bool, (.int .u64), (.int .i64), .bool, (.int .u64), (.int .i64)], [.bool, (.int .u64), (.int .i64), .bool, (.int .u64), (.int .i64), .bool, (.int .u64), (.int .i64)], [(.int .i64), (.int .i64), (.int .i64), (.int .i64), (.int .i64), (.int .i64), (.int .i64), (.int .i64), (.int .i64)]], [], [], [], 3, 0, 0⟩
noncomputable def F.law03_DecOrders.L11.f {X : Type} (n m : Nat) (ks : Ks X) (s : F.law03_DecOrders.L11.head.den) : Option X := F.law03_DecOrders.L11 n (fun qb0_0 qb0_1 qb0_2 qb0_3 qb0_4 qb0_5 qb0_6 qb0_7 qb0_8 qb1_0 qb1_1 qb1_2 qb1_3 qb1_4 qb1_5 qb1_6 qb1_7 qb1_8 qb2_0 qb2_1 qb2_2 qb2_3 qb2_4 qb2_5 qb2_6 qb2_7 qb2_8 => ks.ex 2 (F.law03_DecOrders.L11.e2.e (((), ()), ((qb0_0, qb0_1, qb0_2, qb0_3, qb0_4, qb0_5, qb0_6, qb0_7, qb0_8, ()), (qb1_0, qb1_1, qb1_2, qb1_3, qb1_4, qb1_5, qb1_6, qb1_7, qb1_8, ()), (qb2_0, qb2_1, qb2_2, qb2_3, qb2_4, qb2_5, qb2_6, qb2_7, qb2_8, ()), ()), (), ())) (F.law03_DecOrders.L11.e2.h (((), ()), ((qb0_0, qb0_1, qb0_2, qb0_3, qb0_4, qb0_5, qb0_6, qb0_7, qb0_8, ()), (qb1_0, qb1_1, qb1_2, qb1_3, qb1_4, qb1_5, qb1_6, qb1_7, qb1_8, ()), (qb2_0, qb2_1, qb2_2, qb2_3, qb2_4, qb2_5, qb2_6, qb2_7, qb2_8, ()), ()), (), ()))) (fun q2 qb0_0 qb0_1 qb0_2 qb0_3 qb0_4 qb0_5 qb0_6 qb0_7 qb0_8 qb1_0 qb1_1 qb1_2 qb1_3 qb1_4 qb1_5 qb1_6 qb1_7 qb1_8 qb2_0 qb2_1 qb2_2 qb2_3 qb2_4 qb2_5 qb2_6 qb2_7 qb2_8 => ks.ret (F.law03_DecOrders.L11.er.e ((q2, ()), ((qb0_0, qb0_1, qb0_2, qb0_3, qb0_4, qb0_5, qb0_6, qb0_7, qb0_8, ()), (qb1_0, qb1_1, qb1_2, qb1_3, qb1_4, qb1_5, qb1_6, qb1_7, qb1_8, ()), (qb2_0, qb2_1, qb2_2, qb2_3, qb2_4, qb2_5, qb2_6, qb2_7, qb2_8, ()), ()), (), ())) (F.law03_DecOrders.L11.er.h ((q2, ()), ((qb0_0, qb0_1, qb0_2, qb0_3, qb0_4, qb0_5, qb0_6, qb0_7, qb0_8, ()), (qb1_0, qb1_1, qb1_2, qb1_3, qb1_4, qb1_5, qb1_6, qb1_7, qb1_8, ()), (qb2_0, qb2_1, qb2_2, qb2_3, qb2_4, qb2_5, qb2_6, qb2_7, qb2_8, ()), ()), (), ()))) m s.1.2.2.1 s.2.1.1.1 s.2.1.1.2.1 s.2.1.1.2.2.1 s.2.1.1.2.2.2.1 s.2.1.1.2.2.2.2.1 s.2.1.1.2.2.2.2.2.1 s.2.1.1.2.2.2.2.2.2.1 s.2.1.1.2.2.2.2.2.2.2.1 s.2.1.1.2.2.2.2.2.2.2.2.1 s.2.1.2.1.1 s.2.1.2.1.2.1 s.2.1.2.1.2.2.1 s.2.1.2.1.2.2.2.1 s.2.1.2.1.2.2.2.2.1 s.2.1.2.1.2.2.2.2.2.1 s.2.1.2.1.2.2.2.2.2.2.1 s.2.1.2.1.2.2.2.2.2.2.2.1 s.2.1.2.1.2.2.2.2.2.2.2.2.1 s.2.1.2.2.1.1 s.2.1.2.2.1.2.1 s.2.1.2.2.1.2.2.1 s.2.1.2.2.1.2.2.2.1 s.2.1.2.2.1.2.2.2.2.1 s.2.1.2.2.1.2.2.2.2.2.1 s.2.1.2.2.1.2.2.2.2.2.2.1 s.2.1.2.2.1.2.2.2.2.2.2.2.1 s.2.1.2.2.1.2.2.2.2.2.2.2.2.1
noncomputable def F.law03_DecOrders.L11.li (X : Type) (n : Nat) : LoopI X := ⟨8, ⟨0, 0, 0⟩, F.law03_DecOrders.L11.head, [(2, F.law03_DecOrders.L11.e2)], some F.law03_DecOrders.L11.er, F.law03_DecOrders.L11.f n n⟩
def F.law03_DecOrders.L32.head : Shape := ⟨[(7, (.const (.ref 2 0))), (14, (.int .i64)), (15, (.int .i64)), (16, (.int .i64))], [[.bool, (.int .u64), (.int .i64), .bool, (.int .u64), (.int .i64), .bool, (.int .u64), (.int .i64)], [.bool, (.int .u64), (.int .i64), .bool, (.int .u64), (.int .i64), .bool, (.int .u64), (.int .i64)], [(.int .i64), (.int .i64), (.int .i64), (.int .i64), (.int .i64), (.int .i64), (.int .i64), (.int .i64), (.int .i64)]], [], [], [], 3, 0, 0⟩
def F.law03_DecOrders.L32.e10 : Shape := ⟨[(7, (.const (.ref 2 0))), (14, (.int .i64)), (15, (.int .i64))], [[.bool, (.int .u64), (.int .i64), .bool, (.int .u64), (.int .i64), .bool, (.int .u64), (.int .i64)], [.bool, (.int .u64), (.int .i64), .bool, (.int .u64), (.int .i64), .bool, (.int .u64), (.int .i64)], [(.int .i64), (.int .i64), (.int .i64), (.int .i64), (.int .i64), (.int .i64), (.int .i64), (.int .i64), (.int .i64)]], [], [], [], 3, 0, 0⟩
def F.law03_DecOrders.L32.er : Shape := ⟨[(2, .bool)], [[.bool, (.int .u64), (.int .i64), .bool, (.int .u64), (.int .i64), .bool, (.int .u64), (.int .i64)], [.bool, (.int .u64), (.int .i64), .bool, (.int .u64), (.int .i64), .bool, (.int .u64), (.int .i64)], [(.int .i64), (.int .i64), (.int .i64), (.int .i64), (.int .i64), (.int .i64), (.int .i64), (.int .i64), (.int .i64)]], [], [], [], 3, 0, 0⟩
noncomputable def F.law03_DecOrders.L32.f {X : Type} (n m : Nat) (ks : Ks X) (s : F.law03_DecOrders.L32.head.den) : Option X := F.law03_DecOrders.L32 n (fun q14 q15 qb0_0 qb0_1 qb0_2 qb0_3 qb0_4 qb0_5 qb0_6 qb0_7 qb0_8 qb1_0 qb1_1 qb1_2 qb1_3 qb1_4 qb1_5 qb1_6 qb1_7 qb1_8 qb2_0 qb2_1 qb2_2 qb2_3 qb2_4 qb2_5 qb2_6 qb2_7 qb2_8 => ks.ex 10 (F.law03_DecOrders.L32.e10.e (((), q14, q15, ()), ((qb0_0, qb0_1, qb0_2, qb0_3, qb0_4, qb0_5, qb0_6, qb0_7, qb0_8, ()), (qb1_0, qb1_1, qb1_2, qb1_3, qb1_4, qb1_5, qb1_6, qb1_7, qb1_8, ()), (qb2_0, qb2_1, qb2_2, qb2_3, qb2_4, qb2_5, qb2_6, qb2_7, qb2_8, ()), ()), (), ())) (F.law03_DecOrders.L32.e10.h (((), q14, q15, ()), ((qb0_0, qb0_1, qb0_2, qb0_3, qb0_4, qb0_5, qb0_6, qb0_7, qb0_8, ()), (qb1_0, qb1_1, qb1_2, qb1_3, qb1_4, qb1_5, qb1_6, qb1_7, qb1_8, ()), (qb2_0, qb2_1, qb2_2, qb2_3, qb2_4, qb2_5, qb2_6, qb2_7, qb2_8, ()), ()), (), ()))) (fun q2 qb0_0 qb0_1 qb0_2 qb0_3 qb0_4 qb0_5 qb0_6 qb0_7 qb0_8 qb1_0 qb1_1 qb1_2 qb1_3 qb1_4 qb1_5 qb1_6 qb1_7 qb1_8 qb2_0 qb2_1 qb2_2 qb2_3 qb2_4 qb2_5 qb2_6 qb2_7 qb2_8 => ks.ret (F.law03_DecOrders.L32.er.e ((q2, ()), ((qb0_0, qb0_1, qb0_2, qb0_3, qb0_4, qb0_5, qb0_6, qb0_7, qb0_8, ()), (qb1_0, qb1_1, qb1_2, qb1_3, qb1_4, qb1_5, qb1_6, qb1_7, qb1_8, ()), (qb2_0, qb2_1, qb2_2, qb2_3, qb2_4, qb2_5, qb2_6, qb2_7, qb2_8, ()), ()), (), ())) (F.law03_DecOrders.L32.er.h ((q2, ()), ((qb0_0, qb0_1, qb0_2, qb0_3, qb0_4, qb0_5, qb0_6, qb0_7, qb0_8, ()), (qb1_0, qb1_1, qb1_2, qb1_3, qb1_4, qb1_5, qb1_6, qb1_7, qb1_8, ()), (qb2_0, qb2_1, qb2_2, qb2_3, qb2_4, qb2_5, qb2_6, qb2_7, qb2_8, ()), ()), (), ()))) m s.1.2.1 s.1.2.2.1 s.1.2.2.2.1 s.2.1.1.1 s.2.1.1.2.1 s.2.1.1.2.2.1 s.2.1.1.2.2.2.1 s.2.1.1.2.2.2.2.1 s.2.1.1.2.2.2.2.2.1 s.2.1.1.2.2.2.2.2.2.1 s.2.1.1.2.2.2.2.2.2.2.1 s.2.1.1.2.2.2.2.2.2.2.2.1 s.2.1.2.1.1 s.2.1.2.1.2.1 s.2.1.2.1.2.2.1 s.2.1.2.1.2.2.2.1 s.2.1.2.1.2.2.2.2.1 s.2.1.2.1.2.2.2.2.2.1 s.2.1.2.1.2.2.2.2.2.2.1 s.2.1.2.1.2.2.2.2.2.2.2.1 s.2.1.2.1.2.2.2.2.2.2.2.2.1 s.2.1.2.2.1.1 s.2.1.2.2.1.2.1 s.2.1.2.2.1.2.2.1 s.2.1.2.2.1.2.2.2.1 s.2.1.2.2.1.2.2.2.2.1 s.2.1.2.2.1.2.2.2.2.2.1 s.2.1.2.2.1.2.2.2.2.2.2.1 s.2.1.2.2.1.2.2.2.2.2.2.2.1 s.2.1.2.2.1.2.2.2.2.2.2.2.2.1
noncomputable def F.law03_DecOrders.L32.li (X : Type) (n : Nat) : LoopI X := ⟨8, ⟨0, 0, 0⟩, F.law03_DecOrders.L32.head, [(10, F.law03_DecOrders.L32.e10)], some F.law03_DecOrders.L32.er, F.law03_DecOrders.L32.f n n⟩
def F.law03_DecOrders.C31.head : Shape := ⟨[(7, (.const (.ref 2 0))), (14, (.int .i64)), (15, (.int .i64))], [[.bool, (.int .u64), (.int .i64), .bool, (.int .u64), (.int .i64), .bool, (.int .u64), (.int .i64)], [.bool, (.int .u64), (.int .i64), .bool, (.int .u64), (.int .i64), .bool, (.int .u64), (.int .i64)], [(.int .i64), (.int .i64), (.int .i64), (.int .i64), (.int .i64), (.int .i64), (.int .i64), (.int .i64), (.int .i64)]], [], [], [], 3, 0, 0⟩
def F.law03_DecOrders.C31.er : Shape := ⟨[(2, .bool)], [[.bool, (.int .u64), (.int .i64), .bool, (.int .u64), (.int .i64), .bool, (.int .u64), (.int .i64)], [.bool, (.int .u64), (.int .i64), .bool, (.int .u64), (.int .i64), .bool, (.int .u64), (.int .i64)], [(.int .i64), (.int .i64), (.int .i64), (.int .i64), (.int .i64), (.int .i64), (.int .i64), (.int .i64), (.int .i64)]], [], [], [], 3, 0, 0⟩
def F.law03_DecOrders.C31.en : Shape := ⟨[(7, (.const (.ref 2 0))), (14, (.int .i64)), (15, (.int .i64))], [[.bool, (.int .u64), (.int .i64), .bool, (.int .u64), (.int .i64), .bool, (.int .u64), (.int .i64)], [.bool, (.int .u64), (.int .i64), .bool, (.int .u64), (.int .i64), .bool, (.int .u64), (.int .i64)], [(.int .i64), (.int .i64), (.int .i64), (.int .i64), (.int .i64), (.int .i64), (.int .i64), (.int .i64), (.int .i64)]], [], [], [], 3, 0, 0⟩
noncomputable def F.law03_DecOrders.C31.f {X : Type} (n : Nat) (ks : Ks X) (s : F.law03_DecOrders.C31.head.den) : Option X := F.law03_DecOrders.C31 n (fun q2 qb0_0 qb0_1 qb0_2 qb0_3 qb0_4 qb0_5 qb0_6 qb0_7 qb0_8 qb1_0 qb1_1 qb1_2 qb1_3 qb1_4 qb1_5 qb1_6 qb1_7 qb1_8 qb2_0 qb2_1 qb2_2 qb2_3 qb2_4 qb2_5 qb2_6 qb2_7 qb2_8 => ks.ret (F.law03_DecOrders.C31.er.e ((q2, ()), ((qb0_0, qb0_1, qb0_2, qb0_3, qb0_4, qb0_5, qb0_6, qb0_7, qb0_8, ()), (qb1_0, qb1_1, qb1_2, qb1_3, qb1_4, qb1_5, qb1_6, qb1_7, qb1_8, ()), (qb2_0, qb2_1, qb2_2, qb2_3, qb2_4, qb2_5, qb2_6, qb2_7, qb2_8, ()), ()), (), ())) (F.law03_DecOrders.C31.er.h ((q2, ()), ((qb0_0, qb0_1, qb0_2, qb0_3, qb0_4, qb0_5, qb0_6, qb0_7, qb0_8, ()), (qb1_0, qb1_1, qb1_2, qb1_3, qb1_4, qb1_5, qb1_6, qb1_7, qb1_8, ()), (qb2_0, qb2_1, qb2_2, qb2_3, qb2_4, qb2_5, qb2_6, qb2_7, qb2_8, ()), ()), (), ()))) (fun q14 q15 qb0_0 qb0_1 qb0_2 qb0_3 qb0_4 qb0_5 qb0_6 qb0_7 qb0_8 qb1_0 qb1_1 qb1_2 qb1_3 qb1_4 qb1_5 qb1_6 qb1_7 qb1_8 qb2_0 qb2_1 qb2_2 qb2_3 qb2_4 qb2_5 qb2_6 qb2_7 qb2_8 => ks.nxt (F.law03_DecOrders.C31.en.e (((), q14, q15, ()), ((qb0_0, qb0_1, qb0_2, qb0_3, qb0_4, qb0_5, qb0_6, qb0_7, qb0_8, ()), (qb1_0, qb1_1, qb1_2, qb1_3, qb1_4, qb1_5, qb1_6, qb1_7, qb1_8, ()), (qb2_0, qb2_1, qb2_2, qb2_3, qb2_4, qb2_5, qb2_6, qb2_7, qb2_8, ()), ()), (), ())) (F.law03_DecOrders.C31.en.h (((), q14, q15, ()), ((qb0_0, qb0_1, qb0_2, qb0_3, qb0_4, qb0_5, qb0_6, qb0_7, qb0_8, ()), (qb1_0, qb1_1, qb1_2, qb1_3, qb1_4, qb1_5, qb1_6, qb1_7, qb1_8, ()), (qb2_0, qb2_1, qb2_2, qb2_3, qb2_4, qb2_5, qb2_6, qb2_7, qb2_8, ()), ()), (), ()))) s.1.2.1 s.1.2.2.1 s.2.1.1.1 s.2.1.1.2.1 s.2.1.1.2.2.1 s.2.1.1.2.2.2.1 s.2.1.1.2.2.2.2.1 s.2.1.1.2.2.2.2.2.1 s.2.1.1.2.2.2.2.2.2.1 s.2.1.1.2.2.2.2.2.2.2.1 s.2.1.1.2.2.2.2.2.2.2.2.1 s.2.1.2.1.1 s.2.1.2.1.2.1 s.2.1.2.1.2.2.1 s.2.1.2.1.2.2.2.1 s.2.1.2.1.2.2.2.2.1 s.2.1.2.1.2.2.2.2.2.1 s.2.1.2.1.2.2.2.2.2.2.1 s.2.1.2.1.2.2.2.2.2.2.2.1 s.2.1.2.1.2.2.2.2.2.2.2.2.1 s.2.1.2.2.1.1 s.2.1.2.2.1.2.1 s.2.1.2.2.1.2.2.1 s.2.1.2.2.1.2.2.2.1 s.2.1.2.2.1.2.2.2.2.1 s.2.1.2.2.1.2.2.2.2.2.1 s.2.1.2.2.1.2.2.2.2.2.2.1 s.2.1.2.2.1.2.2.2.2.2.2.2.1 s.2.1.2.2.1.2.2.2.2.2.2.2.2.1
noncomputable def F.law03_DecOrders.C31.ci (X : Type) (n : Nat) : CutI X := ⟨8, ⟨0, 0, 0⟩, F.law03_DecOrders.C31.head, some F.law03_DecOrders.C31.en, [], some F.law03_DecOrders.C31.er, F.law03_DecOrders.C31.f n⟩
def F.law03_DecOrders.L27.head : Shape := ⟨[(7, (.const (.ref 2 0))), (14, (.int .i64)), (15, (.int .i64))], [[.bool, (.int .u64), (.int .i64), .bool, (.int .u64), (.int .i64), .bool, (.int .u64), (.int .i64)], [.bool, (.int .u64), (.int .i64), .bool, (.int .u64), (.int .i64), .bool, (.int .u64), (.int .i64)], [(.int .i64), (.int .i64), (.int .i64), (.int .i64), (.int .i64), (.int .i64), (.int .i64), (.int .i64), (.int .i64)]], [], [], [], 3, 0, 0⟩
def F.law03_DecOrders.L27.e8 : Shape := ⟨[(7, (.const (.ref 2 0))), (14, (.int .i64))], [[.bool, (.int .u64), (.int .i64), .bool, (.int .u64), (.int .i64), .bool, (.int .u64), (.int .i64)], [.bool, (.int .u64), (.int .i64), .bool, (.int .u64), (.int .i64), .bool, (.int .u64), (.int .i64)], [(.int .i64), (.int .i64), (.int .i64), (.int .i64), (.int .i64), (.int .i64), (.int .i64), (.int .i64), (.int .i64)]], [], [], [], 3, 0, 0⟩
def F.law03_DecOrders.L27.er : Shape := ⟨[(2, .bool)], [[.bool, (.int .u64), (.int .i64), .bool, (.int .u64), (.int .i64), .bool, (.int .u64), (.int .i64)], [.bool, (.int .u64), (.int .i64), .bool, (.int .u64), (.int .i64), .bool, (.int .u64), (.int .i64)], [(.int .i64), (.int .i64), (.int .i64), (.int .i64), (.int .i64), (.int .i64), (.int .i64), (.int .i64), (.int .i64)]], [], [], [], 3, 0, 0⟩
noncomputable def F.law03_DecOrders.L27.f {X : Type} (n m : Nat) (ks : Ks X) (s : F.law03_DecOrders.L27.head.den) : Option X := F.law03_DecOrders.L27 n (fun q14 qb0_0 qb0_1 qb0_2 qb0_3 qb0_4 qb0_5 qb0_6 qb0_7 qb0_8 qb1_0 qb1_1 qb1_2 qb1_3 qb1_4 qb1_5 qb1_6 qb1_7 qb1_8 qb2_0 qb2_1 qb2_2 qb2_3 qb2_4 qb2_5 qb2_6 qb2_7 qb2_8 => ks.ex 8 (F.law03_DecOrders.L27.e8.e (((), q14, ()), ((qb0_0, qb0_1, qb0_2, qb0_3, qb0_4, qb0_5, qb0_6, qb0_7, qb0_8, ()), (qb1_0, qb1_1, qb1_2, qb1_3, qb1_4, qb1_5, qb1_6, qb1_7, qb1_8, ()), (qb2_0, qb2_1, qb2_2, qb2_3, qb2_4, qb2_5, qb2_6, qb2_7, qb2_8, ()), ()), (), ())) (F.law03_DecOrders.L27.e8.h (((), q14, ()), ((qb0_0, qb0_1, qb0_2, qb0_3, qb0_4, qb0_5, qb0_6, qb0_7, qb0_8, ()), (qb1_0, qb1_1, qb1_2, qb1_3, qb1_4, qb1_5, qb1_6, qb1_7, qb1_8, ()), (qb2_0, qb2_1, qb2_2, qb2_3, qb2_4, qb2_5, qb2_6, qb2_7, qb2_8, ()), ()), (), ()))) (fun q2 qb0_0 qb0_1 qb0_2 qb0_3 qb0_4 qb0_5 qb0_6 qb0_7 qb0_8 qb1_0 qb1_1 qb1_2 qb1_3 qb1_4 qb1_5 qb1_6 qb1_7 qb1_8 qb2_0 qb2_1 qb2_2 qb2_3 qb2_4 qb2_5 qb2_6 qb2_7 qb2_8 => ks.ret (F.law03_DecOrders.L27.er.e ((q2, ()), ((qb0_0, qb0_1, qb0_2, qb0_3, qb0_4, qb0_5, qb0_6, qb0_7, qb0_8, ()), (qb1_0, qb1_1, qb1_2, qb1_3, qb1_4, qb1_5, qb1_6, qb1_7, qb1_8, ()), (qb2_0, qb2_1, qb2_2, qb2_3, qb2_4, qb2_5, qb2_6, qb2_7, qb2_8, ()), ()), (), ())) (F.law03_DecOrders.L27.er.h ((q2, ()), ((qb0_0, qb0_1, qb0_2, qb0_3, qb0_4, qb0_5, qb0_6, qb0_7, qb0_8, ()), (qb1_0, qb1_1, qb1_2, qb1_3, qb1_4, qb1_5, qb1_6, qb1_7, qb1_8, ()), (qb2_0, qb2_1, qb2_2, qb2_3, qb2_4, qb2_5, qb2_6, qb2_7, qb2_8, ()), ()), (), ()))) m s.1.2.1 s.1.2.2.1 s.2.1.1.1 s.2.1.1.2.1 s.2.1.1.2.2.1 s.2.1.1.2.2.2.1 s.2.1.1.2.2.2.2.1 s.2.1.1.2.2.2.2.2.1 s.2.1.1.2.2.2.2.2.2.1 s.2.1.1.2.2.2.2.2.2.2.1 s.2.1.1.2.2.2.2.2.2.2.2.1 s.2.1.2.1.1 s.2.1.2.1.2.1 s.2.1.2.1.2.2.1 s.2.1.2.1.2.2.2.1 s.2.1.2.1.2.2.2.2.1 s.2.1.2.1.2.2.2.2.2.1 s.2.1.2.1.2.2.2.2.2.2.1 s.2.1.2.1.2.2.2.2.2.2.2.1 s.2.1.2.1.2.2.2.2.2.2.2.2.1 s.2.1.2.2.1.1 s.2.1.2.2.1.2.1 s.2.1.2.2.1.2.2.1 s.2.1.2.2.1.2.2.2.1 s.2.1.2.2.1.2.2.2.2.1 s.2.1.2.2.1.2.2.2.2.2.1 s.2.1.2.2.1.2.2.2.2.2.2.1 s.2.1.2.2.1.2.2.2.2.2.2.2.1 s.2.1.2.2.1.2.2.2.2.2.2.2.2.1
noncomputable def F.law03_DecOrders.L27.li (X : Type) (n : Nat) : LoopI X := ⟨8, ⟨0, 0, 0⟩, F.law03_DecOrders.L27.head, [(8, F.law03_DecOrders.L27.e8)], some F.law03_DecOrders.L27.er, F.law03_DecOrders.L27.f n n⟩
def F.law03_DecOrders.L24.head : Shape := ⟨[(7, (.const (.ref 2 0))), (14, (.int .i64))], [[.bool, (.int .u64), (.int .i64), .bool, (.int .u64), (.int .i64), .bool, (.int .u64), (.int .i64)], [.bool, (.int .u64), (.int .i64), .bool, (.int .u64), (.int .i64), .bool, (.int .u64), (.int .i64)], [(.int .i64), (.int .i64), (.int .i64), (.int .i64), (.int .i64), (.int .i64), (.int .i64), (.int .i64), (.int .i64)]], [], [], [], 3, 0, 0⟩
def F.law03_DecOrders.L24.e6 : Shape := ⟨[], [[.bool, (.int .u64), (.int .i64), .bool, (.int .u64), (.int .i64), .bool, (.int .u64), (.int .i64)], [.bool, (.int .u64), (.int .i64), .bool, (.int .u64), (.int .i64), .bool, (.int .u64), (.int .i64)], [(.int .i64), (.int .i64), (.int .i64), (.int .i64), (.int .i64), (.int .i64), (.int .i64), (.int .i64), (.int .i64)]], [], [], [], 3, 0, 0⟩
def F.law03_DecOrders.L24.er : Shape := ⟨[(2, .bool)], [[.bool, (.int .u64), (.int .i64), .bool, (.int .u64), (.int .i64), .bool, (.int .u64), (.int .i64)], [.bool, (.int .u64), (.int .i64), .bool, (.int .u64), (.int .i64), .bool, (.int .u64), (.int .i64)], [(.int .i64), (.int .i64), (.int .i64), (.int .i64), (.int .i64), (.int .i64), (.int .i64), (.int .i64), (.int .i64)]], [], [], [], 3, 0, 0⟩
noncomputable def F.law03_DecOrders.L24.f {X : Type} (n m : Nat) (ks : Ks X) (s : F.law03_DecOrders.L24.head.den) : Option X := F.law03_DecOrders.L24 n (fun qb0_0 qb0_1 qb0_2 qb0_3 qb0_4 qb0_5 qb0_6 qb0_7 qb0_8 qb1_0 qb1_1 qb1_2 qb1_3 qb1_4 qb1_5 qb1_6 qb1_7 qb1_8 qb2_0 qb2_1 qb2_2 qb2_3 qb2_4 qb2_5 qb2_6 qb2_7 qb2_8 => ks.ex 6 (F.law03_DecOrders.L24.e6.e ((), ((qb0_0, qb0_1, qb0_2, qb0_3, qb0_4, qb0_5, qb0_6, qb0_7, qb0_8, ()), (qb1_0, qb1_1, qb1_2, qb1_3, qb1_4, qb1_5, qb1_6, qb1_7, qb1_8, ()), (qb2_0, qb2_1, qb2_2, qb2_3, qb2_4, qb2_5, qb2_6, qb2_7, qb2_8, ()), ()), (), ())) (F.law03_DecOrders.L24.e6.h ((), ((qb0_0, qb0_1, qb0_2, qb0_3, qb0_4, qb0_5, qb0_6, qb0_7, qb0_8, ()), (qb1_0, qb1_1, qb1_2, qb1_3, qb1_4, qb1_5, qb1_6, qb1_7, qb1_8, ()), (qb2_0, qb2_1, qb2_2, qb2_3, qb2_4, qb2_5, qb2_6, qb2_7, qb2_8, ()), ()), (), ()))) (fun q2 qb0_0 qb0_1 qb0_2 qb0_3 qb0_4 qb0_5 qb0_6 qb0_7 qb0_8 qb1_0 qb1_1 qb1_2 qb1_3 qb1_4 qb1_5 qb1_6 qb1_7 qb1_8 qb2_0 qb2_1 qb2_2 qb2_3 qb2_4 qb2_5 qb2_6 qb2_7 qb2_8 => ks.ret (F.law03_DecOrders.L24.er.e ((q2, ()), ((qb0_0, qb0_1, qb0_2, qb0_3, qb0_4, qb0_5, qb0_6, qb0_7, qb0_8, ()), (qb1_0, qb1_1, qb1_2, qb1_3, qb1_4, qb1_5, qb1_6, qb1_7, qb1_8, ()), (qb2_0, qb2_1, qb2_2, qb2_3, qb2_4, qb2_5, qb2_6, qb2_7, qb2_8, ()), ()), (), ())) (F.law03_DecOrders.L24.er.h ((q2, ()), ((qb0_0, qb0_1, qb0_2, qb0_3, qb0_4, qb0_5, qb0_6, qb0_7, qb0_8, ()), (qb1_0, qb1_1, qb1_2, qb1_3, qb1_4, qb1_5, qb1_6, qb1_7, qb1_8, ()), (qb2_0, qb2_1, qb2_2, qb2_3, qb2_4, qb2_5, qb2_6, qb2_7, qb2_8, ()), ()), (), ()))) m s.1.2.1 s.2.1.1.1 s.2.1.1.2.1 s.2.1.1.2.2.1 s.2.1.1.2.2.2.1 s.2.1.1.2.2.2.2.1 s.2.1.1.2.2.2.2.2.1 s.2.1.1.2.2.2.2.2.2.1 s.2.1.1.2.2.2.2.2.2.2.1 s.2.1.1.2.2.2.2.2.2.2.2.1 s.2.1.2.1.1 s.2.1.2.1.2.1 s.2.1.2.1.2.2.1 s.2.1.2.1.2.2.2.1 s.2.1.2.1.2.2.2.2.1 s.2.1.2.1.2.2.2.2.2.1 s.2.1.2.1.2.2.2.2.2.2.1 s.2.1.2.1.2.2.2.2.2.2.2.1 s.2.1.2.1.2.2.2.2.2.2.2.2.1 s.2.1.2.2.1.1 s.2.1.2.2.1.2.1 s.2.1.2.2.1.2.2.1 s.2.1.2.2.1.2.2.2.1 s.2.1.2.2.1.2.2.2.2.1 s.2.1.2.2.1.2.2.2.2.2.1 s.2.1.2.2.1.2.2.2.2.2.2.1 s.2.1.2.2.1.2.2.2.2.2.2.2.1 s.2.1.2.2.1.2.2.2.2.2.2.2.2.1
noncomputable def F.law03_DecOrders.L24.li (X : Type) (n : Nat) : LoopI X := ⟨8, ⟨0, 0, 0⟩, F.law03_DecOrders.L24.head, [(6, F.law03_DecOrders.L24.e6)], some F.law03_DecOrders.L24.er, F.law03_DecOrders.L24.f n n⟩
noncomputable def cx3 (X : Type) (n : Nat) : Cx X := mkCx tab.get [(3, Tryd.f3)] [(4, orcOf [(.agg [.bool, (.int .u64), (.int .i64)])] (.many [(.agg [.bool, (.int .u64), (.int .i64)]), (.int .i64)]) (fun x => F.dec_Normal n x.1)), (5, orcOf [] (.one .bool) (fun x => F.law03_awake n )), (6, orcOf [(.agg [.bool, (.int .u64), (.int .i64)]), (.agg [.bool, (.int .u64), (.int .i64)])] (.many [(.int .i64), (.int .i64)]) (fun x => F.dec_Compare n x.1 x.2.1)), (7, orcOf [(.agg [.bool, (.int .u64), (.int .i64)])] (.one (.agg [.bool, (.int .u64), (.int .i64)])) (fun x => F.law03_less n x.1))] [(3, 3, [F.law03_DecOrders.L3.li X n]), (3, 11, [F.law03_DecOrders.L11.li X n]), (3, 14, [F.law03_DecOrders.L14.li X n]), (3, 24, [F.law03_DecOrders.L24.li X n]), (3, 27, [F.law03_DecOrders.L27.li X n]), (3, 32, [F.law03_DecOrders.L32.li X n])] [] [] [] [(3, 6, [F.law03_DecOrders.C6.ci X n]), (3, 17, [F.law03_DecOrders.C17.ci X n]), (3, 19, [F.law03_DecOrders.C19.ci X n]), (3, 20, [F.law03_DecOrders.C20.ci X n]), (3, 31, [F.law03_DecOrders.C31.ci X n])]
theorem F.law03_DecOrders.C6.ok (X : Type) (n : Nat) : CutOK (cx3 X n) 3 Tryd.f3.ntmps (cutNo Tryd.f3 7) (F.law03_DecOrders.C6.ci X n) :=
  fun ks s => by kernel_rfl
theorem F.law03_DecOrders.C20.ok (X : Type) (n : Nat) : CutOK (cx3 X n) 3 Tryd.f3.ntmps (cutNo Tryd.f3 25) (F.law03_DecOrders.C20.ci X n) :=
  fun ks s => by kernel_rfl
theorem F.law03_DecOrders.C19.ok (X : Type) (n : Nat) : CutOK (cx3 X n) 3 Tryd.f3.ntmps (cutNo Tryd.f3 22) (F.law03_DecOrders.C19.ci X n) :=
  fun ks s => by kernel_rfl
theorem F.law03_DecOrders.C17.ok (X : Type) (n : Nat) : CutOK (cx3 X n) 3 Tryd.f3.ntmps (cutNo Tryd.f3 21) (F.law03_DecOrders.C17.ci X n) :=
  fun ks s => by kernel_rfl
theorem F.law03_DecOrders.C31.ok (X : Type) (n : Nat) : CutOK (cx3 X n) 3 Tryd.f3.ntmps (cutNo Tryd.f3 38) (F.law03_DecOrders.C31.ci X n) :=
  fun ks s => by kernel_rfl
theorem F.law03_DecOrders.L3.ok (X : Type) (n : Nat) : LoopOK (cx3 X n) 3 Tryd.f3.ntmps (loopNo Tryd.f3 0) (F.law03_DecOrders.L3.li X n) :=
  ⟨F.law03_DecOrders.L3.f n, n, fun _ _ => rfl, fun _ _ => rfl, fun m ks s => by kernel_rfl⟩
theorem F.law03_DecOrders.L14.ok (X : Type) (n : Nat) : LoopOK (cx3 X n) 3 Tryd.f3.ntmps (loopNo Tryd.f3 2) (F.law03_DecOrders.L14.li X n) :=
  ⟨F.law03_DecOrders.L14.f n, n, fun _ _ => rfl, fun _ _ => rfl, fun m ks s => by kernel_rfl⟩
theorem F.law03_DecOrders.L11.ok (X : Type) (n : Nat) : LoopOK (cx3 X n) 3 Tryd.f3.ntmps (loopNo Tryd.f3 1) (F.law03_DecOrders.L11.li X n) :=
  ⟨F.law03_DecOrders.L11.f n, n, fun _ _ => rfl, fun _ _ => rfl, fun m ks s => by kernel_rfl⟩
theorem F.law03_DecOrders.L32.ok (X : Type) (n : Nat) : LoopOK (cx3 X n) 3 Tryd.f3.ntmps (loopNo Tryd.f3 5) (F.law03_DecOrders.L32.li X n) :=
  ⟨F.law03_DecOrders.L32.f n, n, fun _ _ => rfl, fun _ _ => rfl, fun m ks s => by kernel_rfl⟩
theorem F.law03_DecOrders.L27.ok (X : Type) (n : Nat) : LoopOK (cx3 X n) 3 Tryd.f3.ntmps (loopNo Tryd.f3 4) (F.law03_DecOrders.L27.li X n) :=
  ⟨F.law03_DecOrders.L27.f n, n, fun _ _ => rfl, fun _ _ => rfl, fun m ks s => by kernel_rfl⟩
theorem F.law03_DecOrders.L24.ok (X : Type) (n : Nat) : LoopOK (cx3 X n) 3 Tryd.f3.ntmps (loopNo Tryd.f3 3) (F.law03_DecOrders.L24.li X n) :=
  ⟨F.law03_DecOrders.L24.f n, n, fun _ _ => rfl, fun _ _ => rfl, fun m ks s => by kernel_rfl⟩
theorem cx3_ok (X : Type) (n : Nat) : CxOK Tryd.prog SW (cx3 X n) := mkCx_ok mixed (tabOK tab_ok) ⟨⟨Tryd.func3, by decide⟩, trivial⟩ ⟨orcOf_ok (ok4 n),
  orcOf_ok (ok5 n),
  orcOf_ok (ok6 n),
  orcOf_ok (ok7 n), trivial⟩ ⟨okC_mkc (castP (by kernel_rfl) (show (True) ∧ (True) ∧ (True) ∧ (True) ∧ (True) ∧ (True) ∧ (True) ∧ (CutOK (cx3 X n) 3 Tryd.f3.ntmps (cutNo Tryd.f3 7) (F.law03_DecOrders.C6.ci X n) ∧ True) ∧ (True) ∧ (True) ∧ (True) ∧ (True) ∧ (True) ∧ (True) ∧ (True) ∧ (True) ∧ (True) ∧ (True) ∧ (True) ∧ (True) ∧ (True) ∧ (CutOK (cx3 X n) 3 Tryd.f3.ntmps (cutNo Tryd.f3 21) (F.law03_DecOrders.C17.ci X n) ∧ True) ∧ (CutOK (cx3 X n) 3 Tryd.f3.ntmps (cutNo Tryd.f3 22) (F.law03_DecOrders.C19.ci X n) ∧ True) ∧ (True) ∧ (True) ∧ (CutOK (cx3 X n) 3 Tryd.f3.ntmps (cutNo Tryd.f3 25) (F.law03_DecOrders.C20.ci X n) ∧ True) ∧ (True) ∧ (True) ∧ (True) ∧ (True) ∧ (True) ∧ (True) ∧ (True) ∧ (True) ∧ (True) ∧ (True) ∧ (True) ∧ (True) ∧ (CutOK (cx3 X n) 3 Tryd.f3.ntmps (cutNo Tryd.f3 38) (F.law03_DecOrders.C31.ci X n) ∧ True) ∧ (True) ∧ (True) ∧ (True) ∧ (True) ∧ (True) ∧ (True) ∧ (True) ∧ (True) ∧ (True) ∧ True from ⟨trivial, trivial, trivial, trivial, trivial, trivial, trivial, ⟨F.law03_DecOrders.C6.ok X n, trivial⟩, trivial, trivial, trivial, trivial, trivial, trivial, trivial, trivial, trivial, trivial, trivial, trivial, trivial, ⟨F.law03_DecOrders.C17.ok X n, trivial⟩, ⟨F.law03_DecOrders.C19.ok X n, trivial⟩, trivial, trivial, ⟨F.law03_DecOrders.C20.ok X n, trivial⟩, trivial, trivial, trivial, trivial, trivial, trivial, trivial, trivial, trivial, trivial, trivial, trivial, ⟨F.law03_DecOrders.C31.ok X n, trivial⟩, trivial, trivial, trivial, trivial, trivial, trivial, trivial, trivial, trivial, trivial⟩)) (by kernel_rfl) (castP (by kernel_rfl) (show (LoopOK (cx3 X n) 3 Tryd.f3.ntmps (loopNo Tryd.f3 0) (F.law03_DecOrders.L3.li X n) ∧ True) ∧ (LoopOK (cx3 X n) 3 Tryd.f3.ntmps (loopNo Tryd.f3 1) (F.law03_DecOrders.L11.li X n) ∧ True) ∧ (LoopOK (cx3 X n) 3 Tryd.f3.ntmps (loopNo Tryd.f3 2) (F.law03_DecOrders.L14.li X n) ∧ True) ∧ (LoopOK (cx3 X n) 3 Tryd.f3.ntmps (loopNo Tryd.f3 3) (F.law03_DecOrders.L24.li X n) ∧ True) ∧ (LoopOK (cx3 X n) 3 Tryd.f3.ntmps (loopNo Tryd.f3 4) (F.law03_DecOrders.L27.li X n) ∧ True) ∧ (LoopOK (cx3 X n) 3 Tryd.f3.ntmps (loopNo Tryd.f3 5) (F.law03_DecOrders.L32.li X n) ∧ True) ∧ True from ⟨⟨F.law03_DecOrders.L3.ok X n, trivial⟩, ⟨F.law03_DecOrders.L11.ok X n, trivial⟩, ⟨F.law03_DecOrders.L14.ok X n, trivial⟩, ⟨F.law03_DecOrders.L24.ok X n, trivial⟩, ⟨F.law03_DecOrders.L27.ok X n, trivial⟩, ⟨F.law03_DecOrders.L32.ok X n, trivial⟩, trivial⟩)) (castP (by kernel_rfl) (show True from trivial)), trivial⟩ trivial
theorem ok3 (n : Nat) : FnOK Tryd.prog SW 3 [(.agg [.bool, (.int .u64), (.int .i64), .bool, (.int .u64), (.int .i64), .bool, (.int .u64), (.int .i64)])] (.one .bool) (fun x => F.law03_DecOrders n x.1) := fnOK_of WOf.st (cx3_ok _ n) (d := 8) (fun x => by kernel_rfl)
end Go.AM
set_option linter.unusedVariables false
set_option linter.unusedSimpArgs false
namespace Go.AM
def isDig (b : UInt8) : Bool := decide (48 ≤ b.toNat) && decide (b.toNat ≤ 57)
def dv (b : UInt8) : Nat := b.toNat - 48
def valF (a : Nat) (l : List UInt8) : Nat := l.foldl (fun a b => a * 10 + dv b) a
theorem valF_nil (a : Nat) : valF a [] = a := rfl
theorem valF_cons (a : Nat) (b : UInt8) (l : List UInt8) : valF a (b :: l) = valF (a * 10 + dv b) l := by unfold valF; rw [List.foldl_cons]
def val (l : List UInt8) : Nat := valF 0 l
def Digs (l : List UInt8) : Prop := l.all isDig = true
theorem isDig_iff {b : UInt8} : isDig b = true ↔ 48 ≤ b.toNat ∧ b.toNat ≤ 57 := by simp [isDig]
theorem digs_cons {b : UInt8} {l : List UInt8} : Digs (b :: l) ↔ isDig b = true ∧ Digs l := by simp [Digs]
theorem digs_nil : Digs [] := rfl
theorem digs_append {l m : List UInt8} : Digs (l ++ m) ↔ Digs l ∧ Digs m := by simp [Digs]
theorem digs_rep (k : Nat) : Digs (List.replicate k 48) := by
  unfold Digs
  rw [List.all_eq_true]
  intro x hx
  rw [List.eq_of_mem_replicate hx]
  rfl
theorem digs_drop {l : List UInt8} (k : Nat) (h : Digs l) : Digs (l.drop k) := by
  unfold Digs at h ⊢
  rw [List.all_eq_true] at h ⊢
  exact fun x hx => h x (List.mem_of_mem_drop hx)
theorem digs_take {l : List UInt8} (k : Nat) (h : Digs l) : Digs (l.take k) := by
  unfold Digs at h ⊢
  rw [List.all_eq_true] at h ⊢
  exact fun x hx => h x (List.mem_of_mem_take hx)
theorem dv_lt {b : UInt8} (h : isDig b = true) : dv b < 10 := by
  have := isDig_iff.1 h
  unfold dv
  omega
theorem u8_ext {a b : UInt8} (h : a.toNat = b.toNat) : a = b := UInt8.toNat_inj.1 h
theorem dv_inj {a b : UInt8} (ha : isDig a = true) (hb : isDig b = true) (h : dv a = dv b) : a = b := by
  have h1 := isDig_iff.1 ha
  have h2 := isDig_iff.1 hb
  unfold dv at h
  exact u8_ext (by omega)
theorem valF_eq (a : Nat) (l : List UInt8) : valF a l = a * 10 ^ l.length + val l := by
  unfold val
  induction l generalizing a with
  | nil => rw [valF_nil, valF_nil]; simp
  | cons b l ih =>
    simp only [valF_cons, List.length_cons]
    rw [ih (a * 10 + dv b), ih (0 * 10 + dv b), Nat.pow_succ, Nat.add_mul, Nat.zero_mul, Nat.zero_add, Nat.mul_assoc, Nat.mul_comm 10, Nat.add_assoc]
theorem val_nil : val [] = 0 := rfl
theorem val_cons (b : UInt8) (l : List UInt8) : val (b :: l) = dv b * 10 ^ l.length + val l := by
  show valF (0 * 10 + dv b) l = _
  rw [valF_eq, Nat.zero_mul, Nat.zero_add]
theorem val_append (l m : List UInt8) : val (l ++ m) = val l * 10 ^ m.length + val m := by
  induction l with
  | nil => simp [val_nil]
  | cons b l ih => rw [List.cons_append, val_cons, val_cons, ih, List.length_append, Nat.pow_add, Nat.add_mul, Nat.mul_assoc, Nat.add_assoc]
theorem val_snoc (l : List UInt8) (b : UInt8) : val (l ++ [b]) = val l * 10 + dv b := by rw [val_append, val_cons]; simp [val_nil]
theorem val_lt {l : List UInt8} (h : Digs l) : val l < 10 ^ l.length := by
  induction l with
  | nil => simp [val_nil]
  | cons b l ih =>
    obtain ⟨h1, h2⟩ := digs_cons.1 h
    have := ih h2
    have hd := dv_lt h1
    rw [val_cons, List.length_cons, Nat.pow_succ, Nat.mul_comm (10 ^ l.length)]
    have h3 : dv b * 10 ^ l.length ≤ 9 * 10 ^ l.length := Nat.mul_le_mul_right _ (by omega)
    omega
theorem dv_48 : dv 48 = 0 := rfl
theorem val_rep (k : Nat) : val (List.replicate k 48) = 0 := by
  induction k with
  | zero => rfl
  | succ k ih => rw [List.replicate_succ, val_cons, ih, dv_48]; simp
theorem val_zeros_left (k : Nat) (l : List UInt8) : val (List.replicate k 48 ++ l) = val l := by rw [val_append, val_rep]; simp
theorem val_zeros_right (k : Nat) (l : List UInt8) : val (l ++ List.replicate k 48) = val l * 10 ^ k := by rw [val_append, val_rep]; simp
theorem val_eq_zero {l : List UInt8} (hd : Digs l) (h : val l = 0) : l = List.replicate l.length 48 := by
  induction l with
  | nil => rfl
  | cons b l ih =>
    obtain ⟨h1, h2⟩ := digs_cons.1 hd
    rw [val_cons] at h
    have hp : 0 < 10 ^ l.length := Nat.pow_pos (by omega)
    have h3 : dv b = 0 := by
      cases hb : dv b with
      | zero => rfl
      | succ k => rw [hb, Nat.succ_mul] at h; omega
    rw [List.length_cons, List.replicate_succ, ← ih h2 (by omega)]
    rw [dv_inj (a := b) (b := 48) h1 rfl h3]
theorem val_inj {l m : List UInt8} (hl : Digs l) (hm : Digs m) (hlen : l.length = m.length) (h : val l = val m) : l = m := by
  induction l generalizing m with
  | nil => cases m with
    | nil => rfl
    | cons => simp at hlen
  | cons b l ih => cases m with
    | nil => simp at hlen
    | cons c m =>
      obtain ⟨h1, h2⟩ := digs_cons.1 hl
      obtain ⟨h3, h4⟩ := digs_cons.1 hm
      have hlen : l.length = m.length := by simpa using hlen
      rw [val_cons, val_cons, hlen] at h
      have b1 := val_lt h2
      have b2 := val_lt h4
      rw [hlen] at b1
      have hp : 0 < 10 ^ m.length := Nat.pow_pos (by omega)
      have e : dv b = dv c := by
        have q1 := congrArg (· / 10 ^ m.length) h
        simp only [Nat.mul_comm (dv b), Nat.mul_comm (dv c), Nat.mul_add_div hp, Nat.div_eq_of_lt b1, Nat.div_eq_of_lt b2] at q1
        omega
      rw [e] at h
      rw [dv_inj h1 h3 e, ih h2 h4 hlen (by omega)]
theorem dig_of (k : Nat) (h : k < 10) : (UInt8.ofNat (48 + k)).toNat = 48 + k := by simp [UInt8.toNat_ofNat']; omega
theorem isDig_of (k : Nat) (h : k < 10) : isDig (UInt8.ofNat (48 + k)) = true := by rw [isDig_iff, dig_of k h]; omega
theorem dv_of (k : Nat) (h : k < 10) : dv (UInt8.ofNat (48 + k)) = k := by unfold dv; rw [dig_of k h]; omega
theorem dd_small {u : Nat} (h : u < 10) : Lib.decDigits u = [UInt8.ofNat (48 + u)] := Lib.decDigits_one h
theorem dd_big {u : Nat} (h : ¬ u < 10) : Lib.decDigits u = Lib.decDigits (u / 10) ++ [UInt8.ofNat (48 + u % 10)] := by rw [Lib.decDigits, dif_neg h]
theorem dd_digs (u : Nat) : Digs (Lib.decDigits u) := by
  induction u using Nat.strongRecOn with
  | _ u ih =>
    by_cases h : u < 10
    · rw [dd_small h, digs_cons]; exact ⟨isDig_of u h, rfl⟩
    · rw [dd_big h, digs_append, digs_cons]
      exact ⟨ih _ (by omega), isDig_of _ (by omega), rfl⟩
theorem dd_val (u : Nat) : val (Lib.decDigits u) = u := by
  induction u using Nat.strongRecOn with
  | _ u ih =>
    by_cases h : u < 10
    · rw [dd_small h, val_cons, dv_of u h]; simp [val_nil]
    · rw [dd_big h, val_snoc, ih _ (by omega), dv_of _ (by omega)]; omega
theorem dd_ne (u : Nat) : Lib.decDigits u ≠ [] := by
  by_cases h : u < 10
  · rw [dd_small h]; simp
  · rw [dd_big h]; simp
theorem dd_length (u : Nat) : (Lib.decDigits u).length = Lib.nDigits u := Lib.decDigits_length u
theorem dd_length_le {u k : Nat} (hk : 0 < k) (h : u < 10 ^ k) : (Lib.decDigits u).length ≤ k := by
  rw [dd_length]
  induction k generalizing u with
  | zero => omega
  | succ k ih =>
    by_cases h1 : u < 10
    · rw [Lib.nDigits_small h1]; omega
    · rw [Lib.nDigits_big h1]
      cases k with
      | zero => simp at h; omega
      | succ k =>
        have := ih (u := u / 10) (by omega) (by rw [Nat.pow_succ] at h; omega)
        omega
theorem dd_length_ge {u k : Nat} (h : 10 ^ k ≤ u) : k < (Lib.decDigits u).length := by
  rw [dd_length]
  have := Lib.lt_pow_nDigits u
  exact (Nat.pow_lt_pow_iff_right (by omega)).1 (Nat.lt_of_le_of_lt h this)
def Norm (l : List UInt8) : Prop := l ≠ [] ∧ (l.head? = some 48 → l.length = 1)
theorem dd_head (u : Nat) : Norm (Lib.decDigits u) := by
  refine ⟨dd_ne u, ?_⟩
  induction u using Nat.strongRecOn with
  | _ u ih =>
    by_cases h : u < 10
    · rw [dd_small h]; simp
    · rw [dd_big h]
      intro hh
      have hn := dd_ne (u / 10)
      rw [List.head?_append, Option.or_of_isSome (by cases e : Lib.decDigits (u / 10) with | nil => exact absurd e hn | cons => rfl)] at hh
      have h1 := ih (u / 10) (by omega) hh
      have hv := dd_val (u / 10)
      cases e : Lib.decDigits (u / 10) with
      | nil => exact absurd e hn
      | cons b r =>
        rw [e] at h1 hh hv
        have hr : r = [] := by simpa using h1
        subst hr
        have hb : b = 48 := by simpa using hh
        subst hb
        rw [val_cons, dv_48] at hv
        simp [val_nil] at hv
        omega
theorem dd_inv {l : List UInt8} (hd : Digs l) (hn : Norm l) : Lib.decDigits (val l) = l := by
  have hv := dd_val (val l)
  have h1 := dd_digs (val l)
  have h2 := dd_head (val l)
  have hlen : (Lib.decDigits (val l)).length = l.length := by
    cases l with
    | nil => exact absurd rfl hn.1
    | cons b r =>
      have hle : (Lib.decDigits (val (b :: r))).length ≤ (b :: r).length := dd_length_le (by simp) (val_lt hd)
      by_cases hb : b = 48
      · have : r = [] := by simpa using hn.2 (by simp [hb])
        subst this
        have := List.length_pos_iff.2 (dd_ne (val [b]))
        simp at hle ⊢
        omega
      · have h3 : 10 ^ r.length ≤ val (b :: r) := by
          rw [val_cons]
          have : 1 ≤ dv b := by
            cases e : dv b with
            | zero => exact absurd (dv_inj (digs_cons.1 hd).1 (b := 48) rfl e) hb
            | succ k => omega
          have := Nat.mul_le_mul_right (10 ^ r.length) this
          omega
        have := dd_length_ge h3
        simp at hle ⊢
        omega
  exact val_inj h1 hd hlen hv
theorem dd_inj {u v : Nat} (h : Lib.decDigits u = Lib.decDigits v) : u = v := by rw [← dd_val u, h, dd_val]
theorem pu10 (acc : Nat) (l : List UInt8) (hd : Digs l) (ha : acc < 18446744073709551616) : Lib.parseUint10 acc l = if valF acc l < 18446744073709551616 then .ok (valF acc l) else .range := by
  induction l generalizing acc with
  | nil => rw [valF_nil, if_pos ha]; rfl
  | cons b l ih =>
    obtain ⟨h1, h2⟩ := digs_cons.1 hd
    have hb := isDig_iff.1 h1
    have hmono : ∀ x, x ≤ valF x l := fun x => by
      rw [valF_eq]
      have : 0 < 10 ^ l.length := Nat.pow_pos (by omega)
      have := Nat.le_mul_of_pos_right x this
      omega
    have hm := hmono (acc * 10 + dv b)
    simp only [Lib.parseUint10, hb, and_self, if_true]
    rw [valF_cons]
    generalize hV : valF (acc * 10 + dv b) l = V at hm ⊢
    unfold dv at hm
    by_cases h3 : 1844674407370955162 ≤ acc
    · rw [if_pos h3, if_neg (by omega)]
    · rw [if_neg h3]
      by_cases h4 : 18446744073709551616 ≤ acc * 10 + (b.toNat - 48)
      · rw [if_pos h4, if_neg (by omega)]
      · rw [if_neg h4, ih _ h2 (by omega)]
        have : valF (acc * 10 + (b.toNat - 48)) l = V := hV
        rw [this]
theorem atoi_digs {l : List UInt8} (hd : Digs l) (hn : l ≠ []) : Lib.atoiAll l = if val l < 9223372036854775808 then .ok (val l : Int) else .range := by
  cases l with
  | nil => exact absurd rfl hn
  | cons b r =>
    have hb := isDig_iff.1 (digs_cons.1 hd).1
    simp only [Lib.atoiAll]
    rw [if_neg (by omega)]
    unfold Lib.parseMag
    rw [if_neg (by simp), pu10 0 _ hd (by omega)]
    have e : valF 0 (b :: r) = val (b :: r) := rfl
    rw [e]
    by_cases h1 : val (b :: r) < 18446744073709551616
    · rw [if_pos h1]
      simp only []
      by_cases h2 : val (b :: r) < 9223372036854775808
      · rw [if_pos h2, if_neg (by omega), if_neg (by omega), if_neg (by omega)]
      · rw [if_neg h2, if_pos (by omega)]
    · rw [if_neg h1, if_neg (by omega)]
def trz : List UInt8 → List UInt8
  | [] => []
  | b :: l => if trz l = [] then (if b = 48 then [] else [b]) else b :: trz l
theorem trimR_rep (l : List UInt8) (c : UInt8) : ∃ k, l = Lib.trimRightB l c ++ List.replicate k c ∧ (∀ x, (Lib.trimRightB l c).getLast? = some x → x ≠ c) := by
  have h := List.takeWhile_append_dropWhile (p := fun b : UInt8 => b == c) (l := l.reverse)
  refine ⟨(l.reverse.takeWhile (· == c)).length, ?_, ?_⟩
  · unfold Lib.trimRightB
    have h2 := congrArg List.reverse h
    rw [List.reverse_append, List.reverse_reverse] at h2
    have h3 : (l.reverse.takeWhile (· == c)).reverse = List.replicate (l.reverse.takeWhile (· == c)).length c := by
      rw [List.eq_replicate_iff]
      refine ⟨by simp, fun b hb => ?_⟩
      have := List.all_eq_true.1 (List.all_takeWhile (p := fun b : UInt8 => b == c) (l := l.reverse)) b (List.mem_reverse.1 hb)
      simpa using this
    rw [h3] at h2
    exact h2.symm
  · intro x hx
    unfold Lib.trimRightB at hx
    rw [List.getLast?_reverse] at hx
    have := List.head?_dropWhile_not (p := fun b : UInt8 => b == c) (l := l.reverse)
    rw [hx] at this
    simpa using this
theorem trz_rep (l : List UInt8) : ∃ k, l = trz l ++ List.replicate k 48 ∧ (∀ x, (trz l).getLast? = some x → x ≠ 48) := by
  induction l with
  | nil => exact ⟨0, rfl, by simp [trz]⟩
  | cons b l ih =>
    obtain ⟨k, h1, h2⟩ := ih
    unfold trz
    by_cases h : trz l = []
    · rw [if_pos h]
      rw [h, List.nil_append] at h1
      by_cases hb : b = 48
      · rw [if_pos hb]
        exact ⟨k + 1, by rw [List.replicate_succ, ← h1, hb]; rfl, by simp⟩
      · rw [if_neg hb]
        exact ⟨k, by rw [← h1]; rfl, by simp [hb]⟩
    · rw [if_neg h]
      refine ⟨k, by rw [List.cons_append, ← h1], ?_⟩
      intro x hx
      rw [List.getLast?_cons] at hx
      cases e : (trz l).getLast? with
      | none => simp at e; exact absurd e h
      | some y =>
        rw [e] at hx
        have hy := h2 y e
        simp at hx
        rw [← hx]; exact hy
theorem rep_uniq {a b : List UInt8} {c : UInt8} {i j : Nat} (h : a ++ List.replicate i c = b ++ List.replicate j c) (ha : ∀ x, a.getLast? = some x → x ≠ c) (hb : ∀ x, b.getLast? = some x → x ≠ c) : a = b := by
  induction i generalizing j with
  | zero =>
    cases j with
    | zero => simpa using h
    | succ j =>
      rw [List.replicate_succ', ← List.append_assoc] at h
      simp only [List.replicate_zero, List.append_nil] at h
      exact absurd rfl (ha c (by rw [h]; simp))
  | succ i ih =>
    cases j with
    | zero =>
      rw [List.replicate_succ', ← List.append_assoc] at h
      simp only [List.replicate_zero, List.append_nil] at h
      exact absurd rfl (hb c (by rw [← h]; simp))
    | succ j =>
      rw [List.replicate_succ', List.replicate_succ', ← List.append_assoc, ← List.append_assoc] at h
      exact ih (List.append_inj_left' h rfl)
theorem trimR_trz (l : List UInt8) : Lib.trimRightB l 48 = trz l := by
  obtain ⟨i, h1, h2⟩ := trimR_rep l 48
  obtain ⟨j, h3, h4⟩ := trz_rep l
  exact rep_uniq (h1.symm.trans h3) h2 h4
theorem trz_zeros (l : List UInt8) (k : Nat) : trz (l ++ List.replicate k 48) = trz l := by
  obtain ⟨i, h1, h2⟩ := trz_rep (l ++ List.replicate k 48)
  obtain ⟨j, h3, h4⟩ := trz_rep l
  refine rep_uniq (i := i) (j := j + k) (c := 48) ?_ h2 h4
  rw [← h1]
  conv => lhs; rw [h3]
  rw [List.append_assoc, List.replicate_append_replicate]
theorem trz_self {l : List UInt8} (h : ∀ x, l.getLast? = some x → x ≠ 48) : trz l = l := by
  obtain ⟨j, h3, h4⟩ := trz_rep l
  exact (rep_uniq (i := 0) (j := j) (c := 48) (by rw [← h3]; simp) h h4).symm
theorem trz_le (l : List UInt8) : (trz l).length ≤ l.length := by
  obtain ⟨k, h1, _⟩ := trz_rep l
  have := congrArg List.length h1
  simp at this
  omega
theorem trz_digs {l : List UInt8} (h : Digs l) : Digs (trz l) := by
  obtain ⟨k, h1, _⟩ := trz_rep l
  rw [h1, digs_append] at h
  exact h.1
theorem trz_pad (l : List UInt8) : l = trz l ++ List.replicate (l.length - (trz l).length) 48 := by
  obtain ⟨k, h1, _⟩ := trz_rep l
  have := congrArg List.length h1
  simp at this
  rw [show l.length - (trz l).length = k from by omega]
  exact h1
theorem trz_last {l : List UInt8} {x : UInt8} (h : (trz l).getLast? = some x) : x ≠ 48 := by
  obtain ⟨k, _, h2⟩ := trz_rep l
  exact h2 x h
theorem trz_nil {l : List UInt8} (hd : Digs l) : trz l = [] ↔ val l = 0 := by
  constructor
  · intro h
    have := trz_pad l
    rw [h, List.nil_append] at this
    rw [this, val_rep]
  · intro h
    have := val_eq_zero hd h
    obtain ⟨k, h1, h2⟩ := trz_rep l
    rw [this] at h1 ⊢
    have := trz_zeros [] l.length
    simpa [trz] using this
theorem bl_cons (b c : UInt8) (l m : List UInt8) : Op.bytesLess (b :: l) (c :: m) = (decide (b.toNat < c.toNat) || (decide (b.toNat = c.toNat) && Op.bytesLess l m)) := by
  show (decide (b < c) || ((b == c) && Op.bytesLess l m)) = _
  congr 1
  congr 1
  by_cases h : b = c
  · simp [h]
  · have : ¬ b.toNat = c.toNat := fun hh => h (u8_ext hh)
    simp [h, this]
theorem bl_nil (l : List UInt8) : Op.bytesLess l [] = false := by cases l <;> rfl
theorem bl_nil' (l : List UInt8) : Op.bytesLess [] l = decide (l ≠ []) := by cases l <;> simp [Op.bytesLess]
theorem less_val {l m : List UInt8} (hl : Digs l) (hm : Digs m) (hlen : l.length = m.length) : Op.bytesLess l m = decide (val l < val m) := by
  induction l generalizing m with
  | nil => cases m with
    | nil => rfl
    | cons => simp at hlen
  | cons b l ih => cases m with
    | nil => simp at hlen
    | cons c m =>
      obtain ⟨h1, h2⟩ := digs_cons.1 hl
      obtain ⟨h3, h4⟩ := digs_cons.1 hm
      have hlen : l.length = m.length := by simpa using hlen
      have b1 := val_lt h2
      have b2 := val_lt h4
      rw [hlen] at b1
      have d1 := isDig_iff.1 h1
      have d2 := isDig_iff.1 h3
      rw [bl_cons, val_cons, val_cons, hlen]
      by_cases hn : b.toNat < c.toNat
      · have : (dv b + 1) * 10 ^ m.length ≤ dv c * 10 ^ m.length := Nat.mul_le_mul_right _ (by unfold dv; omega)
        rw [Nat.add_mul] at this
        have h5 : dv b * 10 ^ m.length + val l < dv c * 10 ^ m.length + val m := by omega
        simp [hn, h5]
      · by_cases hn' : c.toNat < b.toNat
        · have : (dv c + 1) * 10 ^ m.length ≤ dv b * 10 ^ m.length := Nat.mul_le_mul_right _ (by unfold dv; omega)
          rw [Nat.add_mul] at this
          have h5 : ¬ dv b * 10 ^ m.length + val l < dv c * 10 ^ m.length + val m := by omega
          have h6 : ¬ b.toNat = c.toNat := by omega
          simp [hn, h5, h6]
        · rw [ih h2 h4 hlen]
          have : b = c := u8_ext (by omega)
          subst this
          simp
theorem less_trz {l m : List UInt8} (hl : Digs l) (hm : Digs m) (hlen : l.length = m.length) : Op.bytesLess (trz l) (trz m) = Op.bytesLess l m := by
  induction l generalizing m with
  | nil => cases m with
    | nil => rfl
    | cons => simp at hlen
  | cons b l ih => cases m with
    | nil => simp at hlen
    | cons c m =>
      obtain ⟨h1, h2⟩ := digs_cons.1 hl
      obtain ⟨h3, h4⟩ := digs_cons.1 hm
      have hlen : l.length = m.length := by simpa using hlen
      have d1 := isDig_iff.1 h1
      have d2 := isDig_iff.1 h3
      have hi := ih h2 h4 hlen
      have e0 : ∀ x : UInt8, x = 48 ↔ x.toNat = 48 := fun x => ⟨fun h => by rw [h]; rfl, fun h => u8_ext h⟩
      rw [bl_cons, ← hi]
      simp only [trz]
      by_cases t1 : trz l = [] <;> by_cases t2 : trz m = [] <;> by_cases c1 : b.toNat = 48 <;> by_cases c2 : c.toNat = 48 <;>
        simp only [t1, t2, e0, c1, c2, if_true, if_false, bl_cons, bl_nil, bl_nil', Bool.and_false, Bool.or_false] <;> simp [t2] <;> omega
end Go.AM
set_option linter.unusedVariables false
set_option linter.unusedSimpArgs false
namespace Go.AM
abbrev DecD := Bool × Int × Int × Unit
abbrev DecR := DecD × Int × Unit
def two64 : Nat := 18446744073709551616
theorem two64_eq : two64 = 18446744073709551616 := rfl
def normR (neg : Bool) (c0 : Nat) (E : Int) : DecR :=
  if E < -18 then ((false, 0, 0, ()), 10, ()) else if c0 * 10 ^ (E - 18).toNat < two64 then ((neg, ((c0 * 10 ^ (E - 18).toNat : Nat) : Int), (if E ≤ 18 then E else 18), ()), 0, ()) else ((false, 0, 0, ()), 10, ())
def zeroD : DecR := ((false, 0, 0, ()), 0, ())
def valR (neg : Bool) (d : List UInt8) (e : Int) : DecR :=
  if val d = 0 then zeroD else normR neg (val (trz d)) (e + ((d.length - (trz d).length : Nat) : Int))
theorem val_trz (d : List UInt8) : val d = val (trz d) * 10 ^ (d.length - (trz d).length) := by
  have := congrArg val (trz_pad d)
  rw [val_zeros_right] at this
  exact this
theorem core_trz {d : List UInt8} (hd : Digs d) (h : val d ≠ 0) : val (trz d) % 10 ≠ 0 := by
  have hne : trz d ≠ [] := fun hh => h ((trz_nil hd).1 hh)
  obtain ⟨x, hx⟩ : ∃ x, (trz d).getLast? = some x := by
    cases e : (trz d).getLast? with
    | none => simp at e; exact absurd e hne
    | some x => exact ⟨x, rfl⟩
  have hx48 := trz_last hx
  obtain ⟨ys, hys⟩ := List.getLast?_eq_some_iff.1 hx
  have hdig := trz_digs hd
  rw [hys] at hdig ⊢
  obtain ⟨_, h2⟩ := digs_append.1 hdig
  obtain ⟨h3, _⟩ := digs_cons.1 h2
  rw [val_snoc]
  have := dv_lt h3
  have h0 : dv x ≠ 0 := fun h0 => hx48 (dv_inj h3 (b := 48) rfl h0)
  omega
theorem core_unique {a b i j : Nat} (ha : a % 10 ≠ 0) (hb : b % 10 ≠ 0) (h : a * 10 ^ i = b * 10 ^ j) : a = b ∧ i = j := by
  induction i generalizing j with
  | zero =>
    cases j with
    | zero => simpa using h
    | succ j => rw [Nat.pow_zero, Nat.mul_one, Nat.pow_succ, ← Nat.mul_assoc] at h; omega
  | succ i ih =>
    cases j with
    | zero => rw [Nat.pow_zero, Nat.mul_one, Nat.pow_succ, ← Nat.mul_assoc] at h; omega
    | succ j =>
      rw [Nat.pow_succ, Nat.pow_succ, ← Nat.mul_assoc, ← Nat.mul_assoc] at h
      obtain ⟨h1, h2⟩ := ih (Nat.eq_of_mul_eq_mul_right (by omega) h)
      exact ⟨h1, by omega⟩
theorem valR_core {d : List UInt8} (hd : Digs d) {c0 z : Nat} (h0 : c0 % 10 ≠ 0) (hv : val d = c0 * 10 ^ z) (neg : Bool) (e : Int) : valR neg d e = normR neg c0 (e + z) := by
  have hne : val d ≠ 0 := by
    rw [hv]
    have := Nat.mul_pos (show 0 < c0 by omega) (Nat.pow_pos (n := z) (show 0 < 10 by omega))
    omega
  unfold valR
  rw [if_neg hne]
  obtain ⟨h1, h2⟩ := core_unique (core_trz hd hne) h0 ((val_trz d).symm.trans hv)
  rw [h1, h2]
theorem ten_split (c : Nat) (h : 0 < c) : ∃ c0 z, c = c0 * 10 ^ z ∧ c0 % 10 ≠ 0 := by
  induction c using Nat.strongRecOn with
  | _ c ih =>
    by_cases h1 : c % 10 = 0
    · obtain ⟨c0, z, h2, h3⟩ := ih (c / 10) (by omega) (by omega)
      exact ⟨c0, z + 1, by rw [Nat.pow_succ, ← Nat.mul_assoc, ← h2]; omega, h3⟩
    · exact ⟨c, 0, by simp, h1⟩
theorem valR_zeros_left (neg : Bool) {d : List UInt8} (hd : Digs d) (k : Nat) (e : Int) : valR neg (List.replicate k 48 ++ d) e = valR neg d e := by
  have hD : Digs (List.replicate k 48 ++ d) := digs_append.2 ⟨digs_rep _, hd⟩
  by_cases h : val d = 0
  · have : val (List.replicate k 48 ++ d) = 0 := by rw [val_zeros_left, h]
    unfold valR
    rw [if_pos h, if_pos this]
  · obtain ⟨c0, z, h1, h2⟩ := ten_split (val d) (by omega)
    rw [valR_core hd h2 h1, valR_core hD h2 (by rw [val_zeros_left, h1])]
theorem valR_zeros_right (neg : Bool) {d : List UInt8} (hd : Digs d) (k : Nat) (e : Int) : valR neg (d ++ List.replicate k 48) e = valR neg d (e + k) := by
  have hD : Digs (d ++ List.replicate k 48) := digs_append.2 ⟨hd, digs_rep _⟩
  by_cases h : val d = 0
  · have : val (d ++ List.replicate k 48) = 0 := by rw [val_zeros_right, h]; simp
    unfold valR
    rw [if_pos h, if_pos this]
  · obtain ⟨c0, z, h1, h2⟩ := ten_split (val d) (by omega)
    rw [valR_core hd h2 h1, valR_core hD h2 (z := z + k) (by rw [val_zeros_right, h1, Nat.pow_add, Nat.mul_assoc])]
    congr 1
    omega
theorem times_eq (n : Nat) (c d : Nat) (hc : c < two64) (hd : d < two64) : F.dec_times n (c : Int) (d : Int) = some ((((c * 10 + d) % two64 : Nat) : Int), decide (c * 10 + d < two64), ()) := by
  unfold F.dec_times O.mul64
  rw [two64_eq] at *
  rw [bif_pos (by omega), some_bind']
  unfold O.add64
  rw [show (c : Int).toNat = c from rfl, show (10 : Int).toNat = 10 from rfl]
  dsimp only
  rw [bif_pos (by omega), some_bind']
  simp only [Int.toNat_natCast, show (0 : Int).toNat = 0 from rfl, Nat.add_zero]
  by_cases h : c * 10 < 18446744073709551616
  · have e1 : ((((c * 10 / 18446744073709551616 : Nat) : Int)) == 0) = true := by simp; omega
    rw [e1, cond_true]
    have e2 : c * 10 % 18446744073709551616 = c * 10 := Nat.mod_eq_of_lt h
    rw [e2]
    congr 2
    congr 1
    by_cases h2 : c * 10 + d < 18446744073709551616
    · have : (c * 10 + d) / 18446744073709551616 = 0 := Nat.div_eq_of_lt h2
      simp [h2, this]
    · have : ¬ (c * 10 + d) / 18446744073709551616 = 0 := by omega
      have e : ((((c * 10 + d) / 18446744073709551616 : Nat) : Int) == 0) = false := by simp; omega
      rw [e]; simp [h2]
  · have e1 : ((((c * 10 / 18446744073709551616 : Nat) : Int)) == 0) = false := by simp; omega
    rw [e1, cond_false]
    have : ¬ c * 10 + d < 18446744073709551616 := by omega
    simp only [this, decide_false]
    congr 2
    omega
theorem strip_norm (n : Nat) (X : Type) (k0 : Bool → Int → Int → Bool → Int → Int → Option X) (neg b : Bool) (x y : Int) (c0 : Nat) (h0 : c0 % 10 ≠ 0) : ∀ (z m : Nat) (e : Int), c0 * 10 ^ z < two64 → -9223372036854775808 ≤ e → e + z ≤ 9223372036854775807 → z < m →
    ∃ j, j ≤ z ∧ F.dec_Normal.L3 n k0 m neg ((c0 * 10 ^ z : Nat) : Int) e b x y = k0 neg ((c0 * 10 ^ j : Nat) : Int) (e + z - j) b x y ∧ (j = 0 ∨ 18 ≤ e + z - j) ∧ (e + z - j ≤ 18 ∨ j = z) := by
  intro z
  induction z with
  | zero =>
    intro m e hc he1 he2 hm
    obtain ⟨m, rfl⟩ : ∃ q, m = q + 1 := ⟨m - 1, by omega⟩
    refine ⟨0, Nat.le_refl _, ?_, Or.inl rfl, Or.inr rfl⟩
    show F.dec_Normal.L3.step n _ k0 _ _ _ _ _ _ = _
    unfold F.dec_Normal.L3.step
    have e1 : ((((c0 * 10 ^ 0 : Nat) : Int).tmod 10) == 0) = false := by
      rw [Nat.pow_zero, Nat.mul_one]
      have : ¬ ((c0 : Int).tmod 10) = 0 := by
        rw [show ((c0 : Int).tmod 10) = ((c0 % 10 : Nat) : Int) from rfl]; omega
      simpa using this
    rw [e1, cond_false]
    congr 1
    omega
  | succ z ih =>
    intro m e hc he1 he2 hm
    obtain ⟨m, rfl⟩ : ∃ q, m = q + 1 := ⟨m - 1, by omega⟩
    have hstep : F.dec_Normal.L3 n k0 (m + 1) neg ((c0 * 10 ^ (z + 1) : Nat) : Int) e b x y = F.dec_Normal.L3.step n (F.dec_Normal.L3 n k0 m) k0 neg ((c0 * 10 ^ (z + 1) : Nat) : Int) e b x y := rfl
    have hmul : c0 * 10 ^ (z + 1) = c0 * 10 ^ z * 10 := by rw [Nat.pow_succ, Nat.mul_assoc]
    have e1 : ((((c0 * 10 ^ (z + 1) : Nat) : Int).tmod 10) == 0) = true := by
      have : ((c0 * 10 ^ (z + 1) : Nat) : Int).tmod 10 = 0 := by
        rw [show (((c0 * 10 ^ (z + 1) : Nat) : Int).tmod 10) = ((c0 * 10 ^ (z + 1) % 10 : Nat) : Int) from rfl]; omega
      simpa using this
    have e2 : ((c0 * 10 ^ (z + 1) : Nat) : Int).tdiv 10 = ((c0 * 10 ^ z : Nat) : Int) := by
      rw [show (((c0 * 10 ^ (z + 1) : Nat) : Int).tdiv 10) = ((c0 * 10 ^ (z + 1) / 10 : Nat) : Int) from rfl]; omega
    rw [hstep]
    unfold F.dec_Normal.L3.step
    rw [e1, cond_true]
    by_cases h18 : e < 18
    · rw [bif_pos h18, e2, IntWalk.u64_in _ (by rw [two64_eq] at hc; omega), wrap_in (by omega)]
      obtain ⟨j, j1, j2, j3, j4⟩ := ih m (e + 1) (by omega) (by omega) (by omega) (by omega)
      refine ⟨j, by omega, ?_, ?_, ?_⟩
      · rw [j2]
        congr 1
        omega
      · rcases j3 with j3 | j3
        · exact Or.inl j3
        · exact Or.inr (by omega)
      · rcases j4 with j4 | j4
        · exact Or.inl (by omega)
        · exact Or.inl (by omega)
    · rw [bif_neg h18]
      refine ⟨z + 1, Nat.le_refl _, ?_, Or.inr (by omega), Or.inr rfl⟩
      congr 1
      omega
theorem grow_norm (n : Nat) (X : Type) (k2 : Bool → Int → Int → Bool → Int → Int → Option X) (K : Int → Bool → Int → Int → Option X) (neg b : Bool) (x y : Int) : ∀ (m c d : Nat), 0 < c → c < two64 → two64 ≤ c * 10 ^ m → 18 + (d : Int) ≤ 9223372036854775807 →
    F.dec_Normal.L5 n k2 (fun q _ _ _ u v w => K q u v w) (m + 1) neg (c : Int) (18 + (d : Int)) b x y = if c * 10 ^ d < two64 then k2 neg ((c * 10 ^ d : Nat) : Int) 18 b x y else K 10 false 0 0 := by
  intro m
  induction m with
  | zero => intro c d h1 h2 h3; rw [Nat.pow_zero, Nat.mul_one] at h3; omega
  | succ m ih =>
    intro c d h1 h2 h3 h4
    have hstep : F.dec_Normal.L5 n k2 (fun q _ _ _ u v w => K q u v w) (m + 1 + 1) neg (c : Int) (18 + (d : Int)) b x y = F.dec_Normal.L5.step n (F.dec_Normal.L5 n k2 (fun q _ _ _ u v w => K q u v w) (m + 1)) k2 (fun q _ _ _ u v w => K q u v w) neg (c : Int) (18 + (d : Int)) b x y := rfl
    rw [hstep]
    unfold F.dec_Normal.L5.step
    cases d with
    | zero =>
      rw [bif_neg (by omega), Nat.pow_zero, Nat.mul_one, if_pos h2]
      rfl
    | succ d =>
      rw [bif_pos (by omega), show (0 : Int) = ((0 : Nat) : Int) from rfl, times_eq n c 0 h2 (by decide), some_bind']
      have hp : c * 10 ≤ c * 10 ^ (d + 1) := by
        rw [Nat.pow_succ, ← Nat.mul_assoc]
        have : 0 < 10 ^ d := Nat.pow_pos (by omega)
        have := Nat.le_mul_of_pos_right c this
        omega
      by_cases hf : c * 10 + 0 < two64
      · simp only [hf, decide_true, Bool.not_true, cond_false]
        rw [wrap_in (by omega), show (18 + ((d + 1 : Nat) : Int) - 1) = 18 + (d : Int) from by omega, Nat.mod_eq_of_lt hf]
        have := ih (c * 10 + 0) d (by omega) hf (by rw [Nat.pow_succ] at h3; rw [Nat.add_zero, Nat.mul_assoc, Nat.mul_comm 10]; exact h3) (by omega)
        rw [show ((0 : Nat) : Int) = (0 : Int) from rfl] at *
        rw [this, Nat.add_zero, Nat.mul_assoc, Nat.mul_comm 10, ← Nat.pow_succ]
      · have : ¬ c * 10 ^ (d + 1) < two64 := by omega
        simp only [hf, decide_false, Bool.not_false, cond_true]
        rw [if_neg this]
theorem normal_core (n : Nat) (hn : 100 ≤ n) (neg : Bool) (c0 z : Nat) (h0 : c0 % 10 ≠ 0) (hc : c0 * 10 ^ z < two64) (e : Int) (he : -9223372036854775808 ≤ e ∧ e ≤ 9223372036854775807) :
    F.dec_Normal n (neg, ((c0 * 10 ^ z : Nat) : Int), e, ()) = some (normR neg c0 (e + z)) := by
  have hz : z ≤ 20 := by
    refine Classical.byContradiction fun hh => ?_
    have h1 : 10 ^ 20 ≤ 10 ^ z := Nat.pow_le_pow_right (by omega) (by omega)
    have h2 := Nat.le_mul_of_pos_left (10 ^ z) (show 0 < c0 by omega)
    rw [two64_eq] at hc
    omega
  have hpos : 0 < c0 * 10 ^ z := Nat.mul_pos (by omega) (Nat.pow_pos (by omega))
  unfold F.dec_Normal
  have e0 : (((c0 * 10 ^ z : Nat) : Int) == 0) = false := by
    have : ¬ ((c0 * 10 ^ z : Nat) : Int) = 0 := by omega
    simpa using this
  simp only [e0, cond_false]
  by_cases hbig : 9223372036854775807 < e + z
  ·
    have h18 : ¬ e < 18 := by omega
    obtain ⟨m, rfl⟩ : ∃ q, n = q + 1 := ⟨n - 1, by omega⟩
    have hs : ∀ (k0 : Bool → Int → Int → Bool → Int → Int → Option DecR), F.dec_Normal.L3 (m + 1) k0 (m + 1) neg ((c0 * 10 ^ z : Nat) : Int) e false 0 0 = k0 neg ((c0 * 10 ^ z : Nat) : Int) e false 0 0 := by
      intro k0
      show F.dec_Normal.L3.step (m + 1) (F.dec_Normal.L3 (m + 1) k0 m) k0 _ _ _ _ _ _ = _
      unfold F.dec_Normal.L3.step
      rw [bif_neg h18]
      cases (((c0 * 10 ^ z : Nat) : Int).tmod 10 == 0) <;> rfl
    rw [hs]
    obtain ⟨d, hd⟩ : ∃ d : Nat, e = 18 + (d : Int) := ⟨(e - 18).toNat, by omega⟩
    have hfuel : two64 ≤ c0 * 10 ^ z * 10 ^ m := by
      have h1 : 10 ^ 20 ≤ 10 ^ m := Nat.pow_le_pow_right (by omega) (by omega)
      have h2 := Nat.le_mul_of_pos_left (10 ^ m) hpos
      rw [two64_eq]
      omega
    rw [hd, grow_norm (m + 1) _ _ (fun q u v w => some ((u, v, w, ()), q, ())) neg false 0 0 m _ d hpos hc hfuel (by omega)]
    have hnot : ∀ w, 20 ≤ w → ¬ c0 * 10 ^ w < two64 := by
      intro w hw
      have h1 : 10 ^ 20 ≤ 10 ^ w := Nat.pow_le_pow_right (by omega) hw
      have h2 := Nat.le_mul_of_pos_left (10 ^ w) (show 0 < c0 by omega)
      rw [two64_eq]
      omega
    unfold normR
    rw [if_neg (show ¬ 18 + (d : Int) + z < -18 by omega), if_neg (by rw [Nat.mul_assoc, ← Nat.pow_add]; exact hnot _ (by omega)), if_neg (hnot _ (by omega))]
  · obtain ⟨j, j1, j2, j3, j4⟩ := strip_norm n DecR (fun e1_b0_0 e1_b0_1 e1_b0_2 e1_b1_0 e1_b1_1 e1_b1_2 =>
        F.dec_Normal.L5 n
          (fun e3_b0_0 e3_b0_1 e3_b0_2 e3_b1_0 e3_b1_1 e3_b1_2 =>
            bif decide (e3_b0_2 < (-18 : Int)) then
              some (((false, (0 : Int), (0 : Int), ()), (10 : Int), ()))
            else
              some (((e3_b0_0, e3_b0_1, e3_b0_2, ()), (0 : Int), ())))
          (fun e4_3 e4_b0_0 e4_b0_1 e4_b0_2 e4_b1_0 e4_b1_1 e4_b1_2 =>
            some (((e4_b1_0, e4_b1_1, e4_b1_2, ()), e4_3, ()))) n e1_b0_0 e1_b0_1 e1_b0_2 e1_b1_0 e1_b1_1 e1_b1_2) neg false 0 0 c0 h0 z n e hc he.1 (by omega) (by omega)
    refine j2.trans ?_
    have hcj : c0 * 10 ^ j < two64 := by
      have h1 : 10 ^ j ≤ 10 ^ z := Nat.pow_le_pow_right (by omega) j1
      have := Nat.mul_le_mul_left c0 h1
      omega
    have hposj : 0 < c0 * 10 ^ j := Nat.mul_pos (by omega) (Nat.pow_pos (by omega))
    obtain ⟨m, rfl⟩ : ∃ q, n = q + 1 := ⟨n - 1, by omega⟩
    by_cases hE : 18 ≤ e + z - j
    · obtain ⟨d, hd⟩ : ∃ d : Nat, e + z - j = 18 + (d : Int) := ⟨(e + z - j - 18).toNat, by omega⟩
      have hfuel : two64 ≤ c0 * 10 ^ j * 10 ^ m := by
        have h1 : 10 ^ 20 ≤ 10 ^ m := Nat.pow_le_pow_right (by omega) (by omega)
        have h2 := Nat.le_mul_of_pos_left (10 ^ m) hposj
        rw [two64_eq]
        omega
      show F.dec_Normal.L5 (m + 1) _ _ (m + 1) neg _ (e + z - j) false 0 0 = _
      rw [hd, grow_norm (m + 1) _ _ (fun q u v w => some ((u, v, w, ()), q, ())) neg false 0 0 m _ d hposj hcj hfuel (by omega)]
      unfold normR
      rw [if_neg (show ¬ e + z < -18 by omega), Nat.mul_assoc, ← Nat.pow_add, show j + d = (e + z - 18).toNat from by omega]
      by_cases hf : c0 * 10 ^ (e + z - 18).toNat < two64
      · rw [if_pos hf, if_pos hf, bif_neg (by omega)]
        congr 3
        by_cases hh : e + z ≤ 18
        · rw [if_pos hh, show e + (z : Int) = 18 from by omega]
        · rw [if_neg hh]
      · rw [if_neg hf, if_neg hf]
    · have hj0 : j = 0 := by omega
      subst hj0
      have hlow : ∀ (k2 : Bool → Int → Int → Bool → Int → Int → Option DecR) (kr : Int → Bool → Int → Int → Bool → Int → Int → Option DecR) (c : Int) (E : Int), ¬ E > 18 → F.dec_Normal.L5 (m + 1) k2 kr (m + 1) neg c E false 0 0 = k2 neg c E false 0 0 := by
        intro k2 kr c E hE
        show F.dec_Normal.L5.step (m + 1) (F.dec_Normal.L5 (m + 1) k2 kr m) k2 kr neg c E false 0 0 = _
        unfold F.dec_Normal.L5.step
        rw [bif_neg hE]
      rw [hlow _ _ _ _ (by omega)]
      unfold normR
      rw [Nat.pow_zero, Nat.mul_one, show (e + (z : Int) - 18).toNat = 0 from by omega, Nat.pow_zero, Nat.mul_one, show (e + (z : Int) - ((0 : Nat) : Int)) = e + z from by omega]
      by_cases h18 : e + z < -18
      · rw [bif_pos h18, if_pos h18]
      · rw [bif_neg h18, if_neg h18, if_pos (by rw [Nat.pow_zero, Nat.mul_one] at hcj; exact hcj), if_pos (by omega)]
theorem normal_eq (n : Nat) (hn : 100 ≤ n) (neg : Bool) (c : Nat) (hc : c < two64) (e : Int) (he : -9223372036854775808 ≤ e ∧ e ≤ 9223372036854775807) : F.dec_Normal n (neg, (c : Int), e, ()) = some (valR neg (Lib.decDigits c) e) := by
  by_cases h : c = 0
  · subst h
    unfold valR
    rw [if_pos (dd_val 0)]
    rfl
  · obtain ⟨c0, z, h1, h2⟩ := ten_split c (by omega)
    rw [valR_core (dd_digs c) h2 (by rw [dd_val]; exact h1)]
    rw [h1] at hc ⊢
    exact normal_core n hn neg c0 z h2 hc e he
end Go.AM
set_option linter.unusedVariables false
set_option linter.unusedSimpArgs false
namespace Go.AM
def lz (d : List UInt8) : List UInt8 := d.dropWhile (· == 48)
theorem lz_rep (d : List UInt8) : d = List.replicate (d.length - (lz d).length) 48 ++ lz d := by
  induction d with
  | nil => rfl
  | cons b d ih =>
    unfold lz at ih ⊢
    by_cases h : b = 48
    · subst h
      have e : ((48 : UInt8) :: d).dropWhile (· == 48) = d.dropWhile (· == 48) := by simp [List.dropWhile_cons]
      have hl : (d.dropWhile (· == 48)).length ≤ d.length := (List.dropWhile_sublist _).length_le
      rw [e, List.length_cons, show d.length + 1 - (d.dropWhile (· == 48)).length = (d.length - (d.dropWhile (· == 48)).length) + 1 from by omega, List.replicate_succ, List.cons_append, ← ih]
    · have e : (b :: d).dropWhile (· == 48) = b :: d := by simp [List.dropWhile_cons, h]
      rw [e]
      simp
theorem lz_head {d : List UInt8} {x : UInt8} (h : (lz d).head? = some x) : x ≠ 48 := by
  have := List.head?_dropWhile_not (p := fun b : UInt8 => b == 48) (l := d)
  unfold lz at h
  rw [h] at this
  simpa using this
theorem lz_val (d : List UInt8) : val (lz d) = val d := by
  conv => rhs; rw [lz_rep d]
  rw [val_zeros_left]
theorem lz_digs {d : List UInt8} (h : Digs d) : Digs (lz d) := by
  rw [lz_rep d, digs_append] at h
  exact h.2
theorem lz_le (d : List UInt8) : (lz d).length ≤ d.length := (List.dropWhile_sublist _).length_le
theorem u8_48 (x : UInt8) : ((x.toNat : Int) == 48) = decide (x = 48) := by
  by_cases h : x = 48
  · subst h; rfl
  · have : ¬ (x.toNat : Int) = 48 := fun hh => h (u8_ext (by simp; omega))
    rw [beq_eq_false_iff_ne.2 this, decide_eq_false h]
theorem last_rep (a : List UInt8) (j : Nat) : idx (a ++ List.replicate (j + 1) (48 : UInt8)) (((a ++ List.replicate (j + 1) (48 : UInt8)).length : Int) - 1) = some 48 ∧ sub (a ++ List.replicate (j + 1) (48 : UInt8)) 0 (((a ++ List.replicate (j + 1) (48 : UInt8)).length : Int) - 1) = some (a ++ List.replicate j 48) := by
  rw [List.replicate_succ', ← List.append_assoc]
  have hlen : (a ++ List.replicate j (48 : UInt8) ++ [48]).length = a.length + j + 1 := by simp; omega
  refine ⟨?_, ?_⟩
  · rw [idx_pred (by omega), ← List.getLast?_eq_getElem?]; simp
  · have := sub_nat (a ++ List.replicate j (48 : UInt8) ++ [48]) 0 (a.length + j) (by omega) (by rw [hlen]; omega)
    rw [hlen, show (((a.length + j + 1 : Nat) : Int) - 1) = ((a.length + j : Nat) : Int) from by omega]
    refine this.trans ?_
    rw [List.drop_zero, List.take_append_of_le_length (by simp), List.take_of_length_le (by simp)]
theorem last_not {a : List UInt8} (ha : a ≠ []) (hl : ∀ x, a.getLast? = some x → x ≠ 48) : ∃ x, idx a ((a.length : Int) - 1) = some x ∧ x ≠ 48 := by
  have hp : 0 < a.length := List.length_pos_iff.2 ha
  rw [idx_pred hp, ← List.getLast?_eq_getElem?]
  cases e : a.getLast? with
  | none => simp at e; exact absurd e ha
  | some x => exact ⟨x, rfl, hl x e⟩
theorem val_ge {d : List UInt8} (hd : Digs d) (hne : d ≠ []) (hh : ∀ x, d.head? = some x → x ≠ 48) : 10 ^ (d.length - 1) ≤ val d := by
  cases d with
  | nil => exact absurd rfl hne
  | cons b d =>
    obtain ⟨h1, h2⟩ := digs_cons.1 hd
    have h0 : dv b ≠ 0 := fun h0 => hh b rfl (dv_inj h1 (b := 48) rfl h0)
    rw [val_cons]
    have := Nat.le_mul_of_pos_left (10 ^ d.length) (show 0 < dv b by omega)
    simp
    omega
end Go.AM
set_option linter.unusedVariables false
set_option linter.unusedSimpArgs false
namespace Go.AM
abbrev FaultR := Int × Int × Unit
abbrev ParseR := DecD × FaultR × Unit
theorem headOr {s : List UInt8} {c : UInt8} : (s.head? = some c) ∨ ¬ (s.head? = some c) := Classical.em _
theorem hasPrefix_one (n : Nat) (s : List UInt8) (c : UInt8) : F.strings_HasPrefix n s [c] = some (decide (s.head? = some c)) := by
  unfold F.strings_HasPrefix F.stringslite_HasPrefix
  cases s with
  | nil => rfl
  | cons b s =>
    have e : sub (b :: s) (0 : Int) ((([c] : List UInt8).length : Nat) : Int) = some [b] := sub_nat (b :: s) 0 1 (by omega) (by simp)
    rw [bif_pos (by simp; omega), e, some_bind', some_bind']
    by_cases h : b = c
    · subst h; simp
    · simp [h]
def tw (s : List UInt8) : List UInt8 := s.takeWhile isDig
theorem tw_digs (s : List UInt8) : Digs (tw s) := List.all_takeWhile
theorem tw_split (s : List UInt8) : s = tw s ++ s.drop (tw s).length := by
  induction s with
  | nil => rfl
  | cons b s ih =>
    unfold tw at ih ⊢
    by_cases h : isDig b = true
    · simp only [List.takeWhile_cons, h, if_true, List.length_cons, List.drop_succ_cons, List.cons_append]
      rw [← ih]
    · simp [List.takeWhile_cons, h]
theorem tw_le (s : List UInt8) : (tw s).length ≤ s.length := (List.takeWhile_sublist _).length_le
theorem tw_stop (s : List UInt8) {x : UInt8} (h : (s.drop (tw s).length).head? = some x) : isDig x = false := by
  induction s with
  | nil => simp at h
  | cons b s ih =>
    unfold tw at ih h
    by_cases hb : isDig b = true
    · simp only [List.takeWhile_cons, hb, if_true, List.length_cons, List.drop_succ_cons] at h
      exact ih h
    · simp only [List.takeWhile_cons, hb, if_false] at h
      have : b = x := by simpa using h
      rw [← this]; simpa using hb
theorem tw_append {a t : List UInt8} (ha : Digs a) (ht : ∀ x, t.head? = some x → isDig x = false) : tw (a ++ t) = a := by
  induction a with
  | nil =>
    cases t with
    | nil => rfl
    | cons x t =>
      have := ht x rfl
      simp [tw, List.takeWhile_cons, this]
  | cons b a ih =>
    obtain ⟨h1, h2⟩ := digs_cons.1 ha
    have := ih h2
    unfold tw at this ⊢
    simp [List.takeWhile_cons, h1, this]
theorem digits_loop (n : Nat) (X : Type) (k0 : Int → (List UInt8) → Int → Int → Int → Option X) (v3 b0 b1 : Int) (s : List UInt8) (hs : s.length < 4611686018427387904) : ∀ (r : List UInt8) (k m : Nat), s.drop k = r → k ≤ s.length → r.length < m →
    F.dec_look.L2_dec_look_1 n k0 m v3 s b0 b1 (k : Int) = k0 v3 s b0 b1 ((k + (tw r).length : Nat) : Int) := by
  intro r
  induction r with
  | nil =>
    intro k m hk hkl hm
    have := drop_nil' hk
    obtain ⟨m, rfl⟩ : ∃ q, m = q + 1 := ⟨m - 1, by omega⟩
    show F.dec_look.L2_dec_look_1.step n _ k0 _ _ _ _ _ = _
    unfold F.dec_look.L2_dec_look_1.step
    rw [bif_neg (by omega)]
    rfl
  | cons x r ih =>
    intro k m hk hkl hm
    obtain ⟨h1, h2, h3⟩ := drop_cons hk
    obtain ⟨m, rfl⟩ : ∃ q, m = q + 1 := ⟨m - 1, by omega⟩
    show F.dec_look.L2_dec_look_1.step n (F.dec_look.L2_dec_look_1 n k0 m) k0 _ _ _ _ _ = _
    unfold F.dec_look.L2_dec_look_1.step
    rw [bif_pos (by omega), idx_nat, h2, some_bind', some_bind']
    unfold tw at ih ⊢
    by_cases hd : isDig x = true
    · have hx := isDig_iff.1 hd
      rw [bif_pos (by omega), bif_pos (by omega), wrap_succ (by omega), ih (k + 1) m h3 (by omega) (by simp at hm; omega)]
      simp only [List.takeWhile_cons, hd, if_true, List.length_cons]
      congr 2
      omega
    · simp only [List.takeWhile_cons, hd, if_false]
      by_cases h48 : 48 ≤ x.toNat
      · have : ¬ x.toNat ≤ 57 := fun h => hd (isDig_iff.2 ⟨h48, h⟩)
        rw [bif_pos (by omega), bif_neg (by omega)]
        rfl
      · rw [bif_neg (by omega)]
        rfl
def p0 (s : List UInt8) : Nat := if s.head? = some 45 then 1 else 0
def p1q (q : Nat) (s : List UInt8) : Nat := q + (tw (s.drop q)).length
def p3q (q : Nat) (s : List UInt8) : Nat := p1q q s + 1 + (tw (s.drop (p1q q s + 1))).length
theorem p0_le (s : List UInt8) : p0 s ≤ s.length := by
  unfold p0
  cases s with
  | nil => simp
  | cons b s => split <;> simp
theorem p1_le {q : Nat} {s : List UInt8} (hq : q ≤ s.length) : p1q q s ≤ s.length := by
  have h2 := tw_le (s.drop q)
  simp at h2
  unfold p1q
  omega
theorem drop_lt {s : List UInt8} {k : Nat} {x : UInt8} (h : (s.drop k).head? = some x) : k < s.length := by
  cases e : s.drop k with
  | nil => rw [e] at h; simp at h
  | cons b r =>
    have := congrArg List.length e
    simp at this
    omega
theorem p3_le {q : Nat} {s : List UInt8} (h : (s.drop (p1q q s)).head? = some 46) : p3q q s ≤ s.length := by
  have h1 := drop_lt h
  have h2 := tw_le (s.drop (p1q q s + 1))
  simp at h2
  unfold p3q
  omega
def endR (right : Prop) [Decidable right] (at' : Nat) (len : Nat) : FaultR :=
  if right ∧ at' = len then (0, 0, ()) else if at' = len then (11, (at' : Int), ()) else (14, (at' : Int), ())
def lookQ (q : Nat) (s : List UInt8) : FaultR :=
  if q < p1q q s ∧ (s.drop (p1q q s)).head? = some 46 then endR (p1q q s + 1 < p3q q s) (p3q q s) s.length else endR (q < p1q q s) (p1q q s) s.length
def lookR (s : List UInt8) : FaultR := lookQ (p0 s) s
theorem end_eq (a b : Nat) (at' len : Nat) : (bif decide ((at' : Int) > (a : Int)) then
      bif (at' : Int) == (len : Int) then some (((0 : Int), (0 : Int), ())) else bif (at' : Int) == (len : Int) then some (((11 : Int), (at' : Int), ())) else some (((14 : Int), (at' : Int), ()))
    else bif (at' : Int) == (len : Int) then some (((11 : Int), (at' : Int), ())) else some (((14 : Int), (at' : Int), ()))) = some (endR (a < at') at' len) := by
  unfold endR
  by_cases h1 : at' = len
  · have e : ((at' : Int) == (len : Int)) = true := by simp [h1]
    rw [e]
    by_cases h2 : a < at'
    · rw [bif_pos (by omega), if_pos ⟨h2, h1⟩]; rfl
    · rw [bif_neg (by omega), if_neg (fun h => h2 h.1), if_pos h1]; rfl
  · have e : ((at' : Int) == (len : Int)) = false := by
      have : ¬ (at' : Int) = (len : Int) := by omega
      simpa using this
    rw [e, if_neg (fun h => h1 h.2), if_neg h1]
    simp only [cond_false]
    cases decide ((at' : Int) > (a : Int)) <;> rfl
theorem look_tail (n : Nat) (s : List UInt8) (hs : s.length < 4000000000000000000) (hn : s.length < n) (q : Nat) (hq : q ≤ s.length) :
    F.dec_look.L2_dec_look_1 n
        (fun e4_3 e4_b0_0 e4_b1_0 e4_b1_1 e4_b2_0 =>
          bif decide (e4_b2_0 > e4_3) then
            (sub e4_b0_0 e4_b2_0 (e4_b0_0.length : Int)).bind fun x5 =>
              (F.strings_HasPrefix n x5 ([46])).bind fun y6 =>
                bif y6 then
                  F.dec_look.L2_dec_look_1 n
                    (fun e7_3 e7_b0_0 e7_b1_0 e7_b1_1 e7_b2_0 =>
                      bif decide (e7_b2_0 > e7_3) then
                        bif e7_b2_0 == (e7_b0_0.length : Int) then
                          some (((0 : Int), (0 : Int), ()))
                        else
                        bif e7_b2_0 == (e7_b0_0.length : Int) then
                          some (((11 : Int), e7_b2_0, ()))
                        else
                          some (((14 : Int), e7_b2_0, ()))
                      else
                      bif e7_b2_0 == (e7_b0_0.length : Int) then
                        some (((11 : Int), e7_b2_0, ()))
                      else
                        some (((14 : Int), e7_b2_0, ()))) n (IntKind.wrap .i64 (e4_b2_0 + (1 : Int))) e4_b0_0 e4_b1_0 e4_b1_1 (IntKind.wrap .i64 (e4_b2_0 + (1 : Int)))
                else
                bif decide (e4_b2_0 > e4_3) then
                  bif e4_b2_0 == (e4_b0_0.length : Int) then
                    some (((0 : Int), (0 : Int), ()))
                  else
                  bif e4_b2_0 == (e4_b0_0.length : Int) then
                    some (((11 : Int), e4_b2_0, ()))
                  else
                    some (((14 : Int), e4_b2_0, ()))
                else
                bif e4_b2_0 == (e4_b0_0.length : Int) then
                  some (((11 : Int), e4_b2_0, ()))
                else
                  some (((14 : Int), e4_b2_0, ()))
          else
          bif decide (e4_b2_0 > e4_3) then
            bif e4_b2_0 == (e4_b0_0.length : Int) then
              some (((0 : Int), (0 : Int), ()))
            else
            bif e4_b2_0 == (e4_b0_0.length : Int) then
              some (((11 : Int), e4_b2_0, ()))
            else
              some (((14 : Int), e4_b2_0, ()))
          else
          bif e4_b2_0 == (e4_b0_0.length : Int) then
            some (((11 : Int), e4_b2_0, ()))
          else
            some (((14 : Int), e4_b2_0, ()))) n (q : Int) s (0 : Int) (0 : Int) (q : Int)
    = some (lookQ q s) := by
  rw [digits_loop n _ _ _ _ _ s (by omega) (s.drop q) q n rfl hq (by simp; omega)]
  have hkl : p1q q s ≤ s.length := p1_le hq
  show (bif decide (((p1q q s : Nat) : Int) > (q : Int)) then _ else _) = _
  unfold lookQ
  have hk3 : p3q q s = p1q q s + 1 + (tw (s.drop (p1q q s + 1))).length := rfl
  have hsh : q + (tw (s.drop q)).length = p1q q s := rfl
  simp only [hsh]
  generalize p3q q s = k3 at hk3 ⊢
  clear hsh
  generalize p1q q s = k at hkl hk3 ⊢
  subst hk3
  have hE := end_eq q 0 k s.length
  rw [hE]
  by_cases h1 : q < k
  · rw [bif_pos (by omega)]
    have hsub : sub s (k : Int) (s.length : Int) = some (s.drop k) := by
      have := sub_nat s k s.length hkl (Nat.le_refl _)
      rw [List.take_length] at this
      exact this
    rw [hsub, some_bind', hasPrefix_one, some_bind']
    by_cases h2 : (s.drop k).head? = some 46
    · have hlt : k < s.length := by
        cases e : s.drop k with
        | nil => rw [e] at h2; simp at h2
        | cons b r =>
          have := congrArg List.length e
          simp at this
          omega
      rw [decide_eq_true h2, cond_true, if_pos ⟨h1, h2⟩, wrap_succ (by omega), digits_loop n _ _ _ _ _ s (by omega) (s.drop (k + 1)) (k + 1) n rfl (by omega) (by simp; omega)]
      exact end_eq (k + 1) 0 _ s.length
    · rw [decide_eq_false h2, cond_false, if_neg (fun h => h2 h.2)]
  · rw [bif_neg (by omega), if_neg (fun h => h1 h.1)]
theorem look_eq (n : Nat) (s : List UInt8) (hs : s.length < 4000000000000000000) (hn : s.length < n) : F.dec_look n s = some (lookR s) := by
  unfold F.dec_look
  rw [hasPrefix_one, some_bind']
  by_cases h : s.head? = some 45
  · have hp : p0 s = 1 := by unfold p0; rw [if_pos h]
    rw [decide_eq_true h, cond_true]
    have hq : 1 ≤ s.length := by have := p0_le s; omega
    have := look_tail n s hs hn 1 hq
    refine this.trans ?_
    unfold lookR
    rw [hp]
  · have hp : p0 s = 0 := by unfold p0; rw [if_neg h]
    rw [decide_eq_false h, cond_false]
    have := look_tail n s hs hn 0 (by omega)
    refine this.trans ?_
    unfold lookR
    rw [hp]
end Go.AM
set_option linter.unusedVariables false
set_option linter.unusedSimpArgs false
namespace Go.AM
def outR (r : DecR) : ParseR := if r.2.1 = 0 then (r.1, (0, 0, ()), ()) else ((false, 0, 0, ()), (r.2.1, 0, ()), ())
def badR (f : FaultR) : ParseR := ((false, 0, 0, ()), f, ())
def aheadD (s : List UInt8) : List UInt8 := tw (s.drop (p0 s))
def behindD (s : List UInt8) : List UInt8 := if (s.drop (p1q (p0 s) s)).head? = some 46 then tw (s.drop (p1q (p0 s) s + 1)) else []
def negD (s : List UInt8) : Bool := decide (s.head? = some 45)
def parseR (s : List UInt8) : ParseR :=
  if (lookR s).1 = 0 then outR (valR (negD s) (aheadD s ++ behindD s) (-((behindD s).length : Int))) else badR (lookR s)
theorem valR_code (neg : Bool) (d : List UInt8) (e : Int) : (valR neg d e).2.1 = 0 ∨ (valR neg d e).2.1 = 10 ∧ (valR neg d e).1 = (false, 0, 0, ()) := by
  unfold valR zeroD normR
  by_cases h : val d = 0
  · rw [if_pos h]; exact Or.inl rfl
  · rw [if_neg h]
    split
    · exact Or.inr ⟨rfl, rfl⟩
    · split
      · exact Or.inl rfl
      · exact Or.inr ⟨rfl, rfl⟩
theorem valR_same {d d' : List UInt8} (hd : Digs d) (hd' : Digs d') (h : val d = val d') (neg : Bool) (e : Int) : valR neg d e = valR neg d' e := by
  by_cases h0 : val d = 0
  · unfold valR
    rw [if_pos h0, if_pos (h ▸ h0)]
  · obtain ⟨c0, z, h1, h2⟩ := ten_split (val d) (by omega)
    rw [valR_core hd h2 h1, valR_core hd' h2 (h ▸ h1)]
theorem valR_big {d : List UInt8} (hd : Digs d) (h : two64 ≤ val d) (ht : trz d = d) (neg : Bool) (e : Int) : valR neg d e = ((false, 0, 0, ()), 10, ()) := by
  have h0 : val d ≠ 0 := by rw [two64_eq] at h; omega
  have hc := core_trz hd h0
  rw [ht] at hc
  rw [valR_core hd hc (z := 0) (by simp)]
  unfold normR
  split
  · rfl
  · rw [if_neg]
    have := Nat.le_mul_of_pos_right (val d) (Nat.pow_pos (n := (e + ((0 : Nat) : Int) - 18).toNat) (show 0 < 10 by omega))
    omega
end Go.AM
set_option linter.unusedVariables false
set_option linter.unusedSimpArgs false
namespace Go.AM
theorem coef_loop (n : Nat) (X : Type) (k0 : Bool → Int → Int → Int → Int → Int → Int → Bool → Int → Int → Option X) (s : List UInt8) (hs : s.length < 4611686018427387904) (b : Bool) (x1 x2 x3 x4 x5 x6 : Int) (neg : Bool) (E : Int) : ∀ (r : List UInt8) (k m : Nat), s.drop k = r → k ≤ s.length → r.length < m → Digs r → val (s.take k) < two64 →
    F.dec_Parse.L14 n k0 m s (s.length : Int) (k : Int) b x1 x2 x3 x4 x5 x6 neg (val (s.take k) : Int) E = if val s < two64 then k0 b x1 x2 x3 x4 x5 x6 neg (val s) E else k0 b x1 x2 x3 x4 x5 x6 neg 1 (-19) := by
  intro r
  induction r with
  | nil =>
    intro k m hk hkl hm hd hv
    have hk := drop_nil' hk
    obtain ⟨m, rfl⟩ : ∃ q, m = q + 1 := ⟨m - 1, by omega⟩
    show F.dec_Parse.L14.step n _ k0 _ _ _ _ _ _ _ _ _ _ _ _ _ = _
    unfold F.dec_Parse.L14.step
    rw [List.take_of_length_le hk] at hv ⊢
    rw [bif_neg (by omega), if_pos hv]
  | cons x r ih =>
    intro k m hk hkl hm hd hv
    obtain ⟨h1, h2, h3⟩ := drop_cons hk
    obtain ⟨d1, d2⟩ := digs_cons.1 hd
    have hx := isDig_iff.1 d1
    obtain ⟨m, rfl⟩ : ∃ q, m = q + 1 := ⟨m - 1, by omega⟩
    show F.dec_Parse.L14.step n (F.dec_Parse.L14 n k0 m) k0 _ _ _ _ _ _ _ _ _ _ _ _ _ = _
    unfold F.dec_Parse.L14.step
    have htk : s.take (k + 1) = s.take k ++ [x] := by rw [List.take_add_one, h2]; rfl
    have hvk : val (s.take (k + 1)) = val (s.take k) * 10 + dv x := by rw [htk, val_snoc]
    have hsv : val (s.take (k + 1)) ≤ val s := by
      have e : s = s.take (k + 1) ++ s.drop (k + 1) := (List.take_append_drop _ _).symm
      have h5 : val s = val (s.take (k + 1)) * 10 ^ (s.drop (k + 1)).length + val (s.drop (k + 1)) := by
        conv => lhs; rw [e]
        rw [val_append]
      have := Nat.le_mul_of_pos_right (val (s.take (k + 1))) (Nat.pow_pos (n := (s.drop (k + 1)).length) (show 0 < 10 by omega))
      omega
    have hdl := dv_lt d1
    have hdx : IntKind.wrap .u64 (IntKind.wrap .u8 ((x.toNat : Int) - 48)) = (dv x : Int) := by
      have h8 : IntKind.wrap .u8 ((x.toNat : Int) - 48) = (x.toNat : Int) - 48 := IntWalk.u8_in _ (by omega)
      rw [h8, IntWalk.u64_in _ (by omega)]; unfold dv; omega
    rw [bif_pos (by omega), idx_nat, h2, some_bind', hdx, times_eq n _ _ hv (by rw [two64_eq]; omega), some_bind', ← hvk, wrap_succ (by omega)]
    by_cases hf : val (s.take (k + 1)) < two64
    · simp only [hf, decide_true, Bool.not_true, cond_false, Nat.mod_eq_of_lt hf]
      exact ih (k + 1) m h3 (by omega) (by simp at hm; omega) d2 hf
    · simp only [hf, decide_false, Bool.not_false, cond_true]
      rw [if_neg (by omega)]
theorem cutPrefix_one (n : Nat) (s : List UInt8) : F.strings_CutPrefix n s [45] = some (s.drop (p0 s), negD s, ()) := by
  unfold F.strings_CutPrefix F.stringslite_CutPrefix
  have hp : F.stringslite_HasPrefix n s [45] = some (decide (s.head? = some 45)) := by
    have := hasPrefix_one n s 45
    unfold F.strings_HasPrefix at this
    cases e : F.stringslite_HasPrefix n s [45] with
    | none => rw [e] at this; cases this
    | some b => rw [e] at this; exact this
  rw [hp, some_bind']
  unfold p0 negD
  by_cases h : s.head? = some 45
  · have hl : 1 ≤ s.length := by cases s with | nil => simp at h | cons => simp
    have hsub : sub s ((([45] : List UInt8).length : Nat) : Int) (s.length : Int) = some (s.drop 1) := by
      have := sub_nat s 1 s.length hl (Nat.le_refl _)
      rw [List.take_length] at this
      exact this
    rw [decide_eq_true h, Bool.not_true, cond_false, hsub, if_pos h]
    rfl
  · rw [decide_eq_false h, Bool.not_false, cond_true, if_neg h]
    rfl
theorem idxByte_app {a t : List UInt8} (ha : Digs a) : Lib.indexByte (a ++ 46 :: t) 46 = (a.length : Int) := by
  induction a with
  | nil => simp [Lib.indexByte]
  | cons b a ih =>
    obtain ⟨h1, h2⟩ := digs_cons.1 ha
    have hb : ¬ b = 46 := fun h => by subst h; simp [isDig] at h1
    have := ih h2
    simp only [List.cons_append, Lib.indexByte, beq_iff_eq, hb, if_false, this]
    have hne : ¬ (a.length : Int) = -1 := by omega
    simp [hne]
theorem idxByte_no {a : List UInt8} (ha : Digs a) : Lib.indexByte a 46 = -1 := by
  induction a with
  | nil => rfl
  | cons b a ih =>
    obtain ⟨h1, h2⟩ := digs_cons.1 ha
    have hb : ¬ b = 46 := fun h => by subst h; simp [isDig] at h1
    simp [Lib.indexByte, hb, ih h2]
theorem look_ok {s : List UInt8} (h : (lookR s).1 = 0) : lookR s = (0, 0, ()) ∧ aheadD s ≠ [] ∧
    ((s.drop (p0 s) = aheadD s ∧ behindD s = []) ∨ (s.drop (p0 s) = aheadD s ++ 46 :: behindD s ∧ behindD s ≠ [])) := by
  unfold lookR lookQ at h ⊢
  have split := tw_split (s.drop (p0 s))
  rw [List.drop_drop] at split
  have hle := p1_le (p0_le s)
  by_cases hp : p0 s < p1q (p0 s) s ∧ (s.drop (p1q (p0 s) s)).head? = some 46
  · rw [if_pos hp] at h ⊢
    unfold endR at h ⊢
    by_cases h3 : p1q (p0 s) s + 1 < p3q (p0 s) s ∧ p3q (p0 s) s = s.length
    · rw [if_pos h3]
      refine ⟨rfl, ?_, Or.inr ?_⟩
      · intro hh
        have : (tw (s.drop (p0 s))).length = 0 := by unfold aheadD at hh; rw [hh]; rfl
        have := hp.1
        unfold p1q at this
        omega
      · have hb : behindD s = tw (s.drop (p1q (p0 s) s + 1)) := by unfold behindD; rw [if_pos hp.2]
        have h2 := tw_split (s.drop (p1q (p0 s) s + 1))
        rw [List.drop_drop] at h2
        have h4 : s.drop (p1q (p0 s) s + 1 + (tw (s.drop (p1q (p0 s) s + 1))).length) = [] := List.drop_eq_nil_of_le (by
          have h5 := h3.2
          unfold p3q at h5
          omega)
        rw [h4, List.append_nil] at h2
        have h5 : s.drop (p1q (p0 s) s) = 46 :: s.drop (p1q (p0 s) s + 1) := by
          cases e : s.drop (p1q (p0 s) s) with
          | nil => rw [e] at hp; simp at hp
          | cons c r =>
            rw [e] at hp
            have hc : c = 46 := by simpa using hp.2
            subst hc
            obtain ⟨_, _, g3⟩ := drop_cons e
            rw [g3]
        refine ⟨?_, ?_⟩
        · rw [split]
          have : s.drop (p0 s + (tw (s.drop (p0 s))).length) = s.drop (p1q (p0 s) s) := rfl
          rw [this, h5, hb, ← h2]
          rfl
        · rw [hb]
          intro hh
          have h6 := h3.1
          unfold p3q at h6
          rw [hh] at h6
          simp at h6
    · rw [if_neg h3] at h
      split at h <;> cases h
  · rw [if_neg hp] at h ⊢
    unfold endR at h ⊢
    by_cases h3 : p0 s < p1q (p0 s) s ∧ p1q (p0 s) s = s.length
    · rw [if_pos h3]
      have hd : s.drop (p1q (p0 s) s) = [] := List.drop_eq_nil_of_le (by omega)
      refine ⟨rfl, ?_, Or.inl ⟨?_, ?_⟩⟩
      · intro hh
        have : (tw (s.drop (p0 s))).length = 0 := by unfold aheadD at hh; rw [hh]; rfl
        have := h3.1
        unfold p1q at this
        omega
      · have : s.drop (p0 s + (tw (s.drop (p0 s))).length) = s.drop (p1q (p0 s) s) := rfl
        rw [this, hd, List.append_nil] at split
        exact split
      · unfold behindD
        rw [hd]
        simp
    · rw [if_neg h3] at h
      split at h <;> cases h
theorem behind_digs (s : List UInt8) : Digs (behindD s) := by
  unfold behindD
  split
  · exact tw_digs _
  · rfl
theorem cut_point (n : Nat) {s : List UInt8} (hs : s.length ≤ 1000) (h : (lookR s).1 = 0) : ∃ f, F.strings_Cut n (s.drop (p0 s)) [46] = some (aheadD s, behindD s, f, ()) := by
  obtain ⟨_, _, h3⟩ := look_ok h
  unfold F.strings_Cut F.stringslite_Cut O.index1
  rcases h3 with ⟨a, b⟩ | ⟨a, b⟩
  · have hi : Lib.indexByte (aheadD s) 46 = -1 := idxByte_no (tw_digs _)
    rw [a, b]
    simp only [some_bind']
    rw [hi]
    exact ⟨false, rfl⟩
  · have hl : (aheadD s ++ 46 :: behindD s).length ≤ 1000 := by rw [← a]; simp; omega
    have hl2 : (aheadD s).length + ((behindD s).length + 1) ≤ 1000 := by simpa using hl
    have hi : Lib.indexByte (aheadD s ++ 46 :: behindD s) 46 = ((aheadD s).length : Int) := idxByte_app (tw_digs _)
    rw [a]
    simp only [some_bind']
    rw [hi]
    have s1 : sub (aheadD s ++ 46 :: behindD s) 0 ((aheadD s).length : Int) = some (aheadD s) := by
      have := sub_nat (aheadD s ++ 46 :: behindD s) 0 (aheadD s).length (by omega) (by simp)
      rw [List.drop_zero, List.take_left'] at this
      · exact this
      · rfl
    have hdr : (aheadD s ++ 46 :: behindD s).drop ((aheadD s).length + 1) = behindD s := by
      rw [List.drop_append, List.drop_eq_nil_of_le (by omega), List.nil_append, show (aheadD s).length + 1 - (aheadD s).length = 1 from by omega]
      rfl
    have s2 : sub (aheadD s ++ 46 :: behindD s) (((aheadD s).length + 1 : Nat) : Int) ((aheadD s ++ 46 :: behindD s).length : Int) = some (behindD s) := by
      have := sub_nat (aheadD s ++ 46 :: behindD s) ((aheadD s).length + 1) (aheadD s ++ 46 :: behindD s).length (by simp) (Nat.le_refl _)
      rw [List.take_length, hdr] at this
      exact this
    have hw : IntKind.wrap .i64 (((aheadD s).length : Int) + ((([46] : List UInt8).length : Nat) : Int)) = (((aheadD s).length + 1 : Nat) : Int) := wrap_succ (by omega)
    rw [bif_pos (by omega), s1, some_bind', hw, s2]
    exact ⟨true, rfl⟩
theorem trimR_eq (n : Nat) {s : List UInt8} (h : s.length ≤ 1000) : O.trimR n s [48] = some (trz s) := by
  unfold O.trimR
  have hb : (Nat.blt (48 : UInt8).toNat 128 && Nat.ble s.length big47) = true := by
    rw [Bool.and_eq_true, Nat.ble_eq]
    exact ⟨rfl, by unfold big47; omega⟩
  simp only [hb, cond_true, trimR_trz]
theorem trimL_eq (n : Nat) {s : List UInt8} (h : s.length ≤ 1000) : O.trimL n s [48] = some (lz s) := by
  unfold O.trimL
  have hb : (Nat.blt (48 : UInt8).toNat 128 && Nat.ble s.length big47) = true := by
    rw [Bool.and_eq_true, Nat.ble_eq]
    exact ⟨rfl, by unfold big47; omega⟩
  simp only [hb, cond_true]
  rfl
theorem trz_trz (d : List UInt8) : trz (trz d) = trz d := trz_self (fun x hx => trz_last hx)
theorem valR_lz (neg : Bool) {d : List UInt8} (hd : Digs d) (e : Int) : valR neg (lz d) e = valR neg d e := valR_same (lz_digs hd) hd (lz_val d) neg e
theorem coef_out (n : Nat) (hn : 5000 ≤ n) (neg : Bool) (d : List UInt8) (hd : Digs d) (hl : d.length ≤ 1000) (E : Int) (hE : -100000 ≤ E ∧ E ≤ 100000) (ht : trz d = d) (x1 x2 x3 x4 x5 x6 : Int) :
    F.dec_Parse.L14 n
                        (fun e9_b0_0 e9_b0_1 e9_b0_2 e9_b1_0 e9_b1_1 e9_b2_0 e9_b2_1 e9_b3_0 e9_b3_1 e9_b3_2 =>
                          (F.dec_Normal n (e9_b3_0, e9_b3_1, e9_b3_2, ())).bind fun y10 =>
                            bif !(y10.2.1 == (0 : Int)) then
                              some (((false, (0 : Int), (0 : Int), ()), (y10.2.1, (0 : Int), ()), ()))
                            else
                              some (((y10.1.1, y10.1.2.1, y10.1.2.2.1, ()), ((0 : Int), (0 : Int), ()), ()))) n d (d.length : Int) (0 : Int) false x1 x2 x3 x4 x5 x6 neg (0 : Int) E
    = some (outR (valR neg d E)) := by
  refine (coef_loop n _ _ d (by omega) false x1 x2 x3 x4 x5 x6 neg E d 0 n rfl (by omega) (by omega) hd (by rw [List.take_zero, val_nil, two64_eq]; omega)).trans ?_
  have out : ∀ r : DecR, (r.2.1 = 0 ∨ r.2.1 = 10 ∧ r.1 = (false, 0, 0, ())) → ((some r).bind fun y10 =>
                            bif !(y10.2.1 == (0 : Int)) then
                              some (((false, (0 : Int), (0 : Int), ()), (y10.2.1, (0 : Int), ()), ()))
                            else
                              some (((y10.1.1, y10.1.2.1, y10.1.2.2.1, ()), ((0 : Int), (0 : Int), ()), ()))) = some (outR r) := by
    intro r hr
    rw [some_bind']
    unfold outR
    rcases hr with h | ⟨h1, h2⟩
    · rw [h, if_pos rfl]; rfl
    · rw [h1, if_neg (by decide)]; rfl
  by_cases hv : val d < two64
  · rw [if_pos hv, normal_eq n (by omega) neg _ hv E (by omega), valR_same (dd_digs _) hd (dd_val _)]
    exact out _ (valR_code neg d E)
  · have h19 := normal_eq n (by omega) neg 1 (by decide) (-19) (by omega)
    have hb := valR_big hd (by omega) ht neg E
    rw [if_neg hv, show (1 : Int) = ((1 : Nat) : Int) from rfl, h19, hb]
    have e1 : valR neg (Lib.decDigits 1) (-19) = ((false, 0, 0, ()), 10, ()) := by
      rw [valR_core (dd_digs 1) (c0 := 1) (z := 0) (by decide) (by rw [dd_val])]
      unfold normR
      rw [if_pos (by omega)]
    rw [e1]
    exact out _ (Or.inr ⟨rfl, rfl⟩)
theorem decparse_eq (n : Nat) (hn : 5000 ≤ n) (s : List UInt8) (hs : s.length ≤ 1000) : F.dec_Parse n s = some (parseR s) := by
  unfold F.dec_Parse
  rw [look_eq n s (by omega) (by omega), some_bind']
  by_cases h : (lookR s).1 = 0
  · obtain ⟨h1, h2, h3⟩ := look_ok h
    obtain ⟨f, hcut⟩ := cut_point n hs h
    have e0 : (!((0 : Int) == 0 && (0 : Int) == 0)) = false := rfl
    rw [h1]
    simp only [e0, cond_false]
    rw [cutPrefix_one, some_bind']
    simp only [hcut, some_bind']
    have ha : Digs (aheadD s) := tw_digs _
    have hb := behind_digs s
    have hlen : (aheadD s).length + (behindD s).length ≤ 1000 := by
      have hd : (s.drop (p0 s)).length ≤ 1000 := by simp; omega
      rcases h3 with ⟨a, b⟩ | ⟨a, b⟩
      · rw [b]; rw [a] at hd; simpa using hd
      · rw [a] at hd; simp at hd; omega
    unfold parseR
    rw [if_pos h]
    generalize aheadD s = a at *
    generalize behindD s = b at *
    have htb := trz_le b
    rw [trimR_eq n (by omega), some_bind', bif_pos (by rw [strMax_eq]; omega), trimL_eq n (by simp; omega), some_bind']
    have hab : Digs (a ++ trz b) := digs_append.2 ⟨ha, trz_digs hb⟩
    have hall := lz_le (a ++ trz b)
    have hallL : (lz (a ++ trz b)).length ≤ a.length + (trz b).length := by simpa using hall
    have hts := trz_le (lz (a ++ trz b))
    rw [trimR_eq n (by omega), some_bind']
    have hval : valR (negD s) (lz (a ++ trz b)) (-((trz b).length : Int)) = valR (negD s) (a ++ b) (-(b.length : Int)) := by
      rw [valR_lz _ hab]
      have hpad := trz_pad b
      conv => rhs; rw [hpad]
      rw [← List.append_assoc, valR_zeros_right _ hab]
      congr 1
      simp
      omega
    have hD := lz_digs hab
    have hw : IntKind.wrap .i64 (0 - ((trz b).length : Int)) = -((trz b).length : Int) := by rw [wrap_in (by omega)]; omega
    rw [hw]
    by_cases hz : (trz b).length = 0
    · have ez : (-((trz b).length : Int) == 0) = true := by simp [hz]
      rw [ez, cond_true]
      by_cases hsh : (trz (lz (a ++ trz b))).length < (lz (a ++ trz b)).length
      · have hw2 : IntKind.wrap .i64 (((lz (a ++ trz b)).length : Int) - ((trz (lz (a ++ trz b))).length : Int)) = (((lz (a ++ trz b)).length - (trz (lz (a ++ trz b))).length : Nat) : Int) := by rw [wrap_in (by omega)]; omega
        rw [bif_pos (by omega), hw2]
        have := coef_out n hn (negD s) _ (trz_digs hD) (by omega) (((lz (a ++ trz b)).length - (trz (lz (a ++ trz b))).length : Nat) : Int) (by omega) (trz_trz _) 0 0 0 0 0 0
        refine this.trans ?_
        congr 2
        rw [← hval, hz]
        have hpad := trz_pad (lz (a ++ trz b))
        conv => rhs; rw [hpad]
        rw [valR_zeros_right _ (trz_digs hD)]
        congr 1
        omega
      · have hq : trz (lz (a ++ trz b)) = lz (a ++ trz b) := by
          have hpad := trz_pad (lz (a ++ trz b))
          rw [show (lz (a ++ trz b)).length - (trz (lz (a ++ trz b))).length = 0 from by omega, List.replicate_zero, List.append_nil] at hpad
          exact hpad.symm
        rw [bif_neg (by omega)]
        have := coef_out n hn (negD s) _ hD (by omega) (-((trz b).length : Int)) (by omega) hq 0 0 0 0 0 0
        refine this.trans ?_
        rw [hval]
    · have ez : (-((trz b).length : Int) == 0) = false := by
        have : ¬ (-((trz b).length : Int)) = 0 := by omega
        simpa using this
      rw [ez, cond_false]
      have hq : trz (lz (a ++ trz b)) = lz (a ++ trz b) := by
        refine trz_self fun x hx => ?_
        have hrep := lz_rep (a ++ trz b)
        have hlast : (a ++ trz b).getLast? = some x := by
          rw [hrep, List.getLast?_append, hx]; rfl
        rw [List.getLast?_append] at hlast
        cases e : (trz b).getLast? with
        | none => simp at e; rw [e] at hz; simp at hz
        | some y =>
          rw [e] at hlast
          have hy : y = x := by simpa using hlast
          rw [← hy]
          exact trz_last e
      have := coef_out n hn (negD s) _ hD (by omega) (-((trz b).length : Int)) (by omega) hq 0 0 0 0 0 0
      refine this.trans ?_
      rw [hval]
  · have e : ((lookR s).1 == 0) = false := by simpa using h
    unfold parseR
    rw [if_neg h, e]
    rfl
end Go.AM
set_option linter.unusedVariables false
set_option linter.unusedSimpArgs false
namespace Go.AM
def checkR (neg : Bool) (c : Nat) (e : Int) : Int :=
  if c ≠ 0 ∧ (e < -18 ∨ e > 18) then 10 else if (valR neg (Lib.decDigits c) e).2.1 = 0 ∧ (valR neg (Lib.decDigits c) e).1 = (neg, (c : Int), e, ()) then 0 else 21
theorem decD_beq (a b : DecD) : ((a.1 == b.1) && ((a.2.1 == b.2.1) && (a.2.2.1 == b.2.2.1))) = decide (a = b) := by
  obtain ⟨a1, a2, a3, _⟩ := a
  obtain ⟨b1, b2, b3, _⟩ := b
  by_cases h : (((a1, a2, a3, ()) : DecD) = (b1, b2, b3, ()))
  · have : a1 = b1 ∧ a2 = b2 ∧ a3 = b3 := by simpa using h
    rw [decide_eq_true h]
    simp [this]
  · rw [decide_eq_false h]
    have : ¬ (a1 = b1 ∧ a2 = b2 ∧ a3 = b3) := fun hh => h (by simp [hh])
    simp only [Bool.and_eq_false_iff, beq_eq_false_iff_ne]
    by_cases g1 : a1 = b1
    · by_cases g2 : a2 = b2
      · exact Or.inr (Or.inr fun g3 => this ⟨g1, g2, g3⟩)
      · exact Or.inr (Or.inl g2)
    · exact Or.inl g1
theorem check_tail (neg : Bool) (c : Nat) (e : Int) (r : DecR) (hr : r = valR neg (Lib.decDigits c) e) :
    (bif !(r.2.1 == (0 : Int)) then some ((21 : Int)) else bif !((r.1.1 == neg) && ((r.1.2.1 == (c : Int)) && (r.1.2.2.1 == e))) then some ((21 : Int)) else some ((0 : Int)))
     = some (if (valR neg (Lib.decDigits c) e).2.1 = 0 ∧ (valR neg (Lib.decDigits c) e).1 = (neg, (c : Int), e, ()) then 0 else 21) := by
  subst hr
  have hb := decD_beq (valR neg (Lib.decDigits c) e).1 (neg, (c : Int), e, ())
  simp only at hb
  rw [hb]
  by_cases h1 : (valR neg (Lib.decDigits c) e).2.1 = 0
  · have e1 : ((valR neg (Lib.decDigits c) e).2.1 == 0) = true := by simp [h1]
    rw [e1]
    by_cases h2 : (valR neg (Lib.decDigits c) e).1 = (neg, (c : Int), e, ())
    · rw [decide_eq_true h2, if_pos ⟨h1, h2⟩]; rfl
    · rw [decide_eq_false h2, if_neg (fun h => h2 h.2)]; rfl
  · have e1 : ((valR neg (Lib.decDigits c) e).2.1 == 0) = false := by simpa using h1
    rw [e1, if_neg (fun h => h1 h.1)]; rfl
theorem check_eq (n : Nat) (hn : 100 ≤ n) (neg : Bool) (c : Nat) (hc : c < two64) (e : Int) (he : -9223372036854775808 ≤ e ∧ e ≤ 9223372036854775807) : F.dec_Check n (neg, (c : Int), e, ()) = some (checkR neg c e) := by
  unfold F.dec_Check checkR
  simp only [normal_eq n hn neg c hc e he, some_bind']
  have T := check_tail neg c e _ rfl
  by_cases h0 : c = 0
  · have e0 : (((c : Int)) == 0) = true := by simp [h0]
    rw [e0, if_neg (fun h => h.1 h0)]
    exact T
  · have e0 : (((c : Int)) == 0) = false := by simpa using h0
    rw [e0]
    simp only [Bool.not_false, cond_true]
    by_cases h1 : e < -18
    · rw [bif_pos h1, if_pos ⟨h0, Or.inl h1⟩]
    · rw [bif_neg h1]
      by_cases h2 : e > 18
      · rw [bif_pos h2, if_pos ⟨h0, Or.inr h2⟩]
      · rw [bif_neg h2, if_neg (by omega)]
        exact T
theorem dd_len64 {c : Nat} (hc : c < two64) : (Lib.decDigits c).length ≤ 20 := by rw [dd_length]; exact Lib.nDigits_le20 c hc
theorem check_zero {neg : Bool} {c : Nat} {e : Int} (h : checkR neg c e = 0) : valR neg (Lib.decDigits c) e = ((neg, (c : Int), e, ()), 0, ()) ∧ -18 ≤ e ∧ e ≤ 18 := by
  unfold checkR at h
  by_cases h1 : c ≠ 0 ∧ (e < -18 ∨ e > 18)
  · rw [if_pos h1] at h; cases h
  rw [if_neg h1] at h
  by_cases h2 : (valR neg (Lib.decDigits c) e).2.1 = 0 ∧ (valR neg (Lib.decDigits c) e).1 = (neg, (c : Int), e, ())
  · have h3 : valR neg (Lib.decDigits c) e = ((neg, (c : Int), e, ()), 0, ()) := by
      obtain ⟨a, b⟩ := h2
      generalize valR neg (Lib.decDigits c) e = r at a b ⊢
      obtain ⟨r1, r2, _⟩ := r
      simp only at a b
      rw [a, b]
    refine ⟨h3, ?_⟩
    by_cases h0 : c = 0
    · subst h0
      unfold valR at h3
      rw [if_pos (dd_val 0)] at h3
      have : (0 : Int) = e := congrArg (fun r : DecR => r.1.2.2.1) h3
      omega
    · omega
  · rw [if_neg h2] at h; cases h
def sgn (neg : Bool) : List UInt8 := if neg then [45] else []
def wideW (c : Nat) (e : Int) : List UInt8 := List.replicate (1 - e - (Lib.decDigits c).length).toNat 48 ++ Lib.decDigits c
def textD (neg : Bool) (c : Nat) (e : Int) : List UInt8 :=
  if 0 ≤ e then sgn neg ++ (Lib.decDigits c ++ List.replicate e.toNat 48)
  else sgn neg ++ ((wideW c e).take ((wideW c e).length - e.natAbs) ++ [46] ++ (wideW c e).drop ((wideW c e).length - e.natAbs))
theorem repeatL_one (k : Nat) : Lib.repeatL [48] k = List.replicate k 48 := by
  induction k with
  | zero => rfl
  | succ k ih => rw [Lib.repeatL, ih]; rfl
theorem repeat_eq (n : Nat) {k : Int} (h : 0 ≤ k ∧ k ≤ 100000) : O.repeat' n [48] k = some (List.replicate k.toNat 48) := by
  unfold O.repeat'
  have hb : (decide (0 ≤ k) && Nat.ble k.toNat big47 && Nat.ble (([48] : List UInt8).length * k.toNat) big47) = true := by
    rw [Bool.and_eq_true, Bool.and_eq_true, Nat.ble_eq, Nat.ble_eq]
    unfold big47
    simp only [List.length_cons, List.length_nil]
    refine ⟨⟨by simp; omega, by omega⟩, by omega⟩
  rw [hb, cond_true, repeatL_one]
theorem wideW_len (c : Nat) (hc : c < two64) (e : Int) (he : -18 ≤ e ∧ e < 0) : e.natAbs < (wideW c e).length ∧ (wideW c e).length ≤ 40 ∧ Digs (wideW c e) := by
  have := dd_len64 hc
  unfold wideW
  refine ⟨?_, ?_, digs_append.2 ⟨digs_rep _, dd_digs c⟩⟩
  · simp; omega
  · simp; omega
theorem text_dec (n : Nat) (hn : 5000 ≤ n) (neg : Bool) (c : Nat) (hc : c < two64) (e : Int) (he : -9223372036854775808 ≤ e ∧ e ≤ 9223372036854775807) : F.dec_Text n (neg, (c : Int), e, ()) = some (if checkR neg c e = 0 then (textD neg c e, 0, ()) else ([], checkR neg c e, ())) := by
  unfold F.dec_Text
  simp only [check_eq n (by omega) neg c hc e he, some_bind']
  by_cases h : checkR neg c e = 0
  · obtain ⟨h1, h2, h3⟩ := check_zero h
    have hl := dd_len64 hc
    rw [h, if_pos rfl]
    have e0 : (!((0 : Int) == 0)) = false := rfl
    rw [e0, cond_false]
    have hf : O.futoa n (c : Int) 10 = some (Lib.decDigits c) := by
      unfold O.futoa
      have : (decide ((0 : Int) ≤ (c : Int)) && decide ((c : Int) < 18446744073709551616) && decide ((10 : Int) = 10)) = true := by
        rw [two64_eq] at hc
        simp; omega
      rw [this]; rfl
    rw [hf, some_bind']
    unfold textD
    by_cases hE : 0 ≤ e
    · rw [bif_pos hE, if_pos hE, repeat_eq n (by omega), some_bind', bif_pos (by rw [strMax_eq]; simp; omega)]
      cases neg
      · rfl
      · rw [cond_true, bif_pos (by rw [strMax_eq]; simp; omega)]
        rfl
    · obtain ⟨w1, w2, w3⟩ := wideW_len c hc e (by omega)
      have hmax : (if (IntKind.wrap .i64 ((IntKind.wrap .i64 ((1 : Int) - e)) - ((Lib.decDigits c).length : Int))) > (0 : Int) then (IntKind.wrap .i64 ((IntKind.wrap .i64 ((1 : Int) - e)) - ((Lib.decDigits c).length : Int))) else (0 : Int)) = (((1 - e - (Lib.decDigits c).length).toNat : Nat) : Int) := by
        rw [wrap_in (x := (1 : Int) - e) (by omega), wrap_in (by omega)]
        split <;> omega
      have hwl : (List.replicate (1 - e - (Lib.decDigits c).length).toNat (48 : UInt8)).length + (Lib.decDigits c).length = (wideW c e).length := by unfold wideW; simp
      rw [bif_neg (by omega), if_neg hE, hmax, repeat_eq n (by omega), some_bind', Int.toNat_natCast, bif_pos (by rw [strMax_eq]; omega)]
      have hww : List.replicate (1 - e - (Lib.decDigits c).length).toNat (48 : UInt8) ++ Lib.decDigits c = wideW c e := rfl
      rw [hww]
      generalize wideW c e = w at w1 w2 w3
      have hat : IntKind.wrap .i64 ((w.length : Int) + e) = ((w.length - e.natAbs : Nat) : Int) := by rw [wrap_in (by omega)]; omega
      rw [hat]
      have s1 : sub w 0 ((w.length - e.natAbs : Nat) : Int) = some (w.take (w.length - e.natAbs)) := by
        have := sub_nat w 0 (w.length - e.natAbs) (by omega) (by omega)
        rw [List.drop_zero] at this
        exact this
      have s2 : sub w ((w.length - e.natAbs : Nat) : Int) (w.length : Int) = some (w.drop (w.length - e.natAbs)) := by
        have := sub_nat w (w.length - e.natAbs) w.length (by omega) (Nat.le_refl _)
        rw [List.take_length] at this
        exact this
      rw [s1, some_bind', bif_pos (by rw [strMax_eq]; simp; omega), s2, some_bind', bif_pos (by rw [strMax_eq]; simp; omega)]
      cases neg
      · rfl
      · rw [cond_true, bif_pos (by rw [strMax_eq]; simp; omega)]
        rfl
  · have e0 : (checkR neg c e == 0) = false := by simpa using h
    rw [e0, if_neg h]
    rfl
theorem sgn_len (neg : Bool) : (sgn neg).length = if neg then 1 else 0 := by cases neg <;> rfl
theorem p0_form (neg : Bool) {a : List UInt8} (ha : Digs a) (hne : a ≠ []) (t : List UInt8) : p0 (sgn neg ++ (a ++ t)) = (sgn neg).length ∧ negD (sgn neg ++ (a ++ t)) = neg := by
  cases a with
  | nil => exact absurd rfl hne
  | cons b a =>
    obtain ⟨h1, _⟩ := digs_cons.1 ha
    have hb : ¬ b = 45 := fun h => by subst h; simp [isDig] at h1
    unfold p0 negD
    cases neg
    · simp [sgn, hb]
    · simp [sgn]
theorem parse_whole (neg : Bool) {a : List UInt8} (ha : Digs a) (hne : a ≠ []) : parseR (sgn neg ++ a) = outR (valR neg a 0) := by
  have hp := p0_form neg ha hne []
  rw [List.append_nil] at hp
  obtain ⟨h0, hneg⟩ := hp
  have hlen : 0 < a.length := List.length_pos_iff.2 hne
  have hd0 : (sgn neg ++ a).drop (sgn neg).length = a := by rw [List.drop_left']; rfl
  have htw : tw a = a := by
    have := tw_append ha (t := []) (by simp)
    rw [List.append_nil] at this
    exact this
  have h1 : p1q (sgn neg).length (sgn neg ++ a) = (sgn neg ++ a).length := by unfold p1q; rw [hd0, htw, List.length_append]
  have hdr : (sgn neg ++ a).drop (sgn neg ++ a).length = [] := List.drop_length
  have hl : lookR (sgn neg ++ a) = (0, 0, ()) := by
    unfold lookR lookQ endR
    rw [h0, h1, hdr, if_neg (by simp), if_pos ⟨by rw [List.length_append]; omega, rfl⟩]
  have hb : behindD (sgn neg ++ a) = [] := by unfold behindD; rw [h0, h1, hdr]; rfl
  have hA : aheadD (sgn neg ++ a) = a := by unfold aheadD; rw [h0, hd0, htw]
  unfold parseR
  rw [hl, if_pos rfl, hb, hA, hneg, List.append_nil]
  rfl
theorem parse_point (neg : Bool) {a b : List UInt8} (ha : Digs a) (hne : a ≠ []) (hb : Digs b) (hbn : b ≠ []) : parseR (sgn neg ++ (a ++ 46 :: b)) = outR (valR neg (a ++ b) (-(b.length : Int))) := by
  obtain ⟨h0, hneg⟩ := p0_form neg ha hne (46 :: b)
  have hlen : 0 < a.length := List.length_pos_iff.2 hne
  have hlb : 0 < b.length := List.length_pos_iff.2 hbn
  have hd0 : (sgn neg ++ (a ++ 46 :: b)).drop (sgn neg).length = a ++ 46 :: b := by rw [List.drop_left']; rfl
  have htw : tw (a ++ 46 :: b) = a := tw_append ha (by simp [isDig])
  have h1 : p1q (sgn neg).length (sgn neg ++ (a ++ 46 :: b)) = (sgn neg).length + a.length := by unfold p1q; rw [hd0, htw]
  have hdr : (sgn neg ++ (a ++ 46 :: b)).drop ((sgn neg).length + a.length) = 46 :: b := by
    rw [← List.drop_drop, hd0, List.drop_left']; rfl
  have hdr2 : (sgn neg ++ (a ++ 46 :: b)).drop ((sgn neg).length + a.length + 1) = b := by
    rw [← List.drop_drop, hdr]; rfl
  have htb : tw b = b := by
    have := tw_append hb (t := []) (by simp)
    rw [List.append_nil] at this
    exact this
  have h3 : p3q (sgn neg).length (sgn neg ++ (a ++ 46 :: b)) = (sgn neg).length + a.length + 1 + b.length := by unfold p3q; rw [h1, hdr2, htb]
  have hL : (sgn neg ++ (a ++ 46 :: b)).length = (sgn neg).length + a.length + 1 + b.length := by simp; omega
  have hl : lookR (sgn neg ++ (a ++ 46 :: b)) = (0, 0, ()) := by
    unfold lookR lookQ endR
    rw [h0, h1, hdr, if_pos ⟨by omega, rfl⟩, h3, if_pos ⟨by omega, hL.symm⟩]
  have hB : behindD (sgn neg ++ (a ++ 46 :: b)) = b := by unfold behindD; rw [h0, h1, hdr, if_pos (show (46 :: b).head? = some 46 from rfl), hdr2, htb]
  have hA : aheadD (sgn neg ++ (a ++ 46 :: b)) = a := by unfold aheadD; rw [h0, hd0, htw]
  unfold parseR
  rw [hl, if_pos rfl, hB, hA, hneg]
theorem text_len (neg : Bool) (c : Nat) (hc : c < two64) (e : Int) (he : -18 ≤ e ∧ e ≤ 18) : (textD neg c e).length ≤ 39 ∧ (0 ≤ e ∨ e < 0) := by
  have hl := dd_len64 hc
  have hs : (sgn neg).length ≤ 1 := by cases neg <;> decide
  refine ⟨?_, by omega⟩
  unfold textD
  by_cases h : 0 ≤ e
  · rw [if_pos h]; simp; omega
  · rw [if_neg h]
    obtain ⟨w1, w2, w3⟩ := wideW_len c hc e (by omega)
    have : (wideW c e).length ≤ 20 ∨ (wideW c e).length = (1 - e).toNat := by unfold wideW; simp; omega
    simp
    omega
theorem parse_text (neg : Bool) (c : Nat) (hc : c < two64) (e : Int) (h : checkR neg c e = 0) : parseR (textD neg c e) = ((neg, (c : Int), e, ()), (0, 0, ()), ()) := by
  obtain ⟨h1, h2, h3⟩ := check_zero h
  have fin : outR (valR neg (Lib.decDigits c) e) = ((neg, (c : Int), e, ()), (0, 0, ()), ()) := by rw [h1]; rfl
  unfold textD
  by_cases hE : 0 ≤ e
  · rw [if_pos hE, parse_whole neg (digs_append.2 ⟨dd_digs c, digs_rep _⟩) (by simp [dd_ne]), valR_zeros_right _ (dd_digs c), ← fin]
    congr 2
    omega
  · obtain ⟨w1, w2, w3⟩ := wideW_len c hc e (by omega)
    rw [if_neg hE]
    have hT : (wideW c e).take ((wideW c e).length - e.natAbs) ≠ [] := by
      intro hh
      have := congrArg List.length hh
      simp at this
      omega
    have hD : (wideW c e).drop ((wideW c e).length - e.natAbs) ≠ [] := by
      intro hh
      have := congrArg List.length hh
      simp at this
      omega
    rw [List.append_assoc, List.singleton_append, parse_point neg (digs_take _ w3) hT (digs_drop _ w3) hD, List.take_append_drop, ← fin]
    have hlen : ((wideW c e).drop ((wideW c e).length - e.natAbs)).length = e.natAbs := by simp; omega
    rw [hlen]
    have hv : valR neg (wideW c e) (-(e.natAbs : Int)) = valR neg (Lib.decDigits c) (-(e.natAbs : Int)) := valR_zeros_left neg (dd_digs c) _ _
    rw [hv, show (-(e.natAbs : Int)) = e from by omega]
end Go.AM
set_option linter.unusedVariables false
set_option linter.unusedSimpArgs false
namespace Go.AM
theorem awake03 (n : Nat) (hn : 5000 ≤ n) : F.law03_awake n = some true := by
  unfold F.law03_awake
  have d15 : Lib.decDigits 15 = [49, 53] := dd_inv (l := [49, 53]) rfl ⟨by simp, by simp⟩
  have c15 : checkR true 15 (-1) = 0 := by unfold checkR; rw [d15]; rfl
  have t15 : textD true 15 (-1) = [45, 49, 46, 53] := by unfold textD wideW; rw [d15]; rfl
  have q1 : parseR [45, 48, 49, 46, 53, 48] = ((true, 15, -1, ()), (0, 0, ()), ()) := by rfl
  have q2 : parseR [49, 46] = ((false, 0, 0, ()), (11, 2, ()), ()) := by rfl
  have q3 : parseR [43, 49] = ((false, 0, 0, ()), (14, 0, ()), ()) := by rfl
  have q4 : parseR [49, 48, 48, 48] = ((false, 1, 3, ()), (0, 0, ()), ()) := by rfl
  have q5 : parseR [57, 57, 57, 57, 57, 57, 57, 57, 57, 57, 57, 57, 57, 57, 57, 57, 57, 57, 57, 57] = ((false, 0, 0, ()), (10, 0, ()), ()) := by rfl
  rw [decparse_eq n hn _ (by simp), decparse_eq n hn _ (by simp), decparse_eq n hn _ (by simp), decparse_eq n hn _ (by simp), decparse_eq n hn _ (by simp), q1, q2, q3, q4, q5]
  have ht := text_dec n hn true 15 (by decide) (-1) (by omega)
  rw [c15, if_pos rfl, t15] at ht
  simp only [some_bind']
  rw [show (15 : Int) = ((15 : Nat) : Int) from rfl, ht]
  rfl
def DecOK (d : DecD) : Prop := (0 ≤ d.2.1 ∧ d.2.1 ≤ 18446744073709551615) ∧ -9223372036854775808 ≤ d.2.2.1 ∧ d.2.2.1 ≤ 9223372036854775807
theorem dec_nat {d : DecD} (h : DecOK d) : ∃ (neg : Bool) (c : Nat) (e : Int), d = (neg, (c : Int), e, ()) ∧ c < two64 ∧ -9223372036854775808 ≤ e ∧ e ≤ 9223372036854775807 := by
  obtain ⟨neg, c, e, _⟩ := d
  obtain ⟨⟨h1, h2⟩, h3, h4⟩ := h
  simp only at h1 h2 h3 h4
  refine ⟨neg, c.toNat, e, ?_, ?_, h3, h4⟩
  · rw [show ((c.toNat : Nat) : Int) = c from by omega]
  · rw [two64_eq]; omega
end Go.AM
set_option linter.unusedVariables false
set_option linter.unusedSimpArgs false
namespace Go.AM
def bodyD (c : Nat) (e : Int) : List UInt8 :=
  if 0 ≤ e then Lib.decDigits c ++ List.replicate e.toNat 48 else (wideW c e).take ((wideW c e).length - e.natAbs) ++ [46] ++ (wideW c e).drop ((wideW c e).length - e.natAbs)
theorem textD_body (neg : Bool) (c : Nat) (e : Int) : textD neg c e = sgn neg ++ bodyD c e := by
  unfold textD bodyD
  split <;> rfl
theorem body_len (c : Nat) (hc : c < two64) (e : Int) (he : -18 ≤ e ∧ e ≤ 18) : (bodyD c e).length ≤ 60 ∧ 1 ≤ (bodyD c e).length := by
  have hl := dd_len64 hc
  have hp := List.length_pos_iff.2 (dd_ne c)
  unfold bodyD
  by_cases h : 0 ≤ e
  · rw [if_pos h]; simp; omega
  · obtain ⟨w1, w2, w3⟩ := wideW_len c hc e (by omega)
    rw [if_neg h]; simp; omega
theorem zeros_form (neg : Bool) (c : Nat) (hc : c < two64) (e : Int) (h : checkR neg c e = 0) (k w : Nat) : parseR ((if 0 ≤ e ∧ 0 < w then sgn neg ++ List.replicate k 48 ++ bodyD c e ++ [46] else sgn neg ++ List.replicate k 48 ++ bodyD c e) ++ List.replicate w 48) = ((neg, (c : Int), e, ()), (0, 0, ()), ()) := by
  obtain ⟨h1, h2, h3⟩ := check_zero h
  have fin : outR (valR neg (Lib.decDigits c) e) = ((neg, (c : Int), e, ()), (0, 0, ()), ()) := by rw [h1]; rfl
  have hr : ∀ j, List.replicate (j + 1) (48 : UInt8) ≠ [] := fun j => by simp [List.replicate_succ]
  by_cases hE : 0 ≤ e
  · have hb : bodyD c e = Lib.decDigits c ++ List.replicate e.toNat 48 := by unfold bodyD; rw [if_pos hE]
    have hD : Digs (List.replicate k 48 ++ (Lib.decDigits c ++ List.replicate e.toNat 48)) := digs_append.2 ⟨digs_rep _, digs_append.2 ⟨dd_digs c, digs_rep _⟩⟩
    have hne : List.replicate k 48 ++ (Lib.decDigits c ++ List.replicate e.toNat 48) ≠ [] := by simp [dd_ne]
    have hv : valR neg (List.replicate k 48 ++ (Lib.decDigits c ++ List.replicate e.toNat 48)) 0 = valR neg (Lib.decDigits c) e := by
      rw [valR_zeros_left neg (digs_append.2 ⟨dd_digs c, digs_rep _⟩), valR_zeros_right neg (dd_digs c)]
      congr 1
      omega
    by_cases hw : 0 < w
    · rw [if_pos ⟨hE, hw⟩, hb]
      have : sgn neg ++ List.replicate k 48 ++ (Lib.decDigits c ++ List.replicate e.toNat 48) ++ [46] ++ List.replicate w 48 = sgn neg ++ ((List.replicate k 48 ++ (Lib.decDigits c ++ List.replicate e.toNat 48)) ++ 46 :: List.replicate w 48) := by simp
      have hwn : List.replicate w (48 : UInt8) ≠ [] := by
        obtain ⟨j, rfl⟩ : ∃ j, w = j + 1 := ⟨w - 1, by omega⟩
        exact hr j
      rw [this, parse_point neg hD hne (digs_rep w) hwn, valR_zeros_right neg hD, List.length_replicate, show (-(w : Int) + (w : Int)) = 0 from by omega, hv, fin]
    · rw [if_neg (fun hh => hw hh.2), hb, show w = 0 from by omega, List.replicate_zero, List.append_nil, List.append_assoc, parse_whole neg hD hne, hv, fin]
  · obtain ⟨w1, w2, w3⟩ := wideW_len c hc e (by omega)
    have hb : bodyD c e = (wideW c e).take ((wideW c e).length - e.natAbs) ++ [46] ++ (wideW c e).drop ((wideW c e).length - e.natAbs) := by unfold bodyD; rw [if_neg hE]
    rw [if_neg (fun hh => hE hh.1), hb]
    have hT : (wideW c e).take ((wideW c e).length - e.natAbs) ≠ [] := by
      intro hh
      have := congrArg List.length hh
      simp at this
      omega
    have hDn : (wideW c e).drop ((wideW c e).length - e.natAbs) ≠ [] := by
      intro hh
      have := congrArg List.length hh
      simp at this
      omega
    have hlen : ((wideW c e).drop ((wideW c e).length - e.natAbs)).length = e.natAbs := by simp; omega
    have hval : valR neg (wideW c e) (-(e.natAbs : Int)) = valR neg (Lib.decDigits c) (-(e.natAbs : Int)) := valR_zeros_left neg (dd_digs c) _ _
    have hjoin := List.take_append_drop ((wideW c e).length - e.natAbs) (wideW c e)
    have d1 := digs_take ((wideW c e).length - e.natAbs) w3
    have d2 := digs_drop ((wideW c e).length - e.natAbs) w3
    generalize (wideW c e).take ((wideW c e).length - e.natAbs) = p at *
    generalize (wideW c e).drop ((wideW c e).length - e.natAbs) = q at *
    have : sgn neg ++ List.replicate k 48 ++ (p ++ [46] ++ q) ++ List.replicate w 48 = sgn neg ++ ((List.replicate k 48 ++ p) ++ 46 :: (q ++ List.replicate w 48)) := by simp
    rw [this, parse_point neg (digs_append.2 ⟨digs_rep _, d1⟩) (by simp [hT]) (digs_append.2 ⟨d2, digs_rep _⟩) (by simp [hDn])]
    rw [← List.append_assoc, valR_zeros_right neg (digs_append.2 ⟨digs_append.2 ⟨digs_rep _, d1⟩, d2⟩), List.append_assoc, hjoin, valR_zeros_left neg w3, List.length_append, List.length_replicate, hlen,
      show (-((e.natAbs + w : Nat) : Int) + (w : Int)) = -(e.natAbs : Int) from by omega, hval, show (-(e.natAbs : Int)) = e from by omega, fin]
theorem parse_cases (s : List UInt8) : ((parseR s).2.1.1 ≠ 0 ∧ (parseR s).1 = (false, 0, 0, ()) ∧ 0 ≤ (parseR s).2.1.2.1 ∧ (parseR s).2.1.2.1 ≤ s.length) ∨
    (∃ (neg : Bool) (c : Nat) (e : Int), parseR s = ((neg, (c : Int), e, ()), (0, 0, ()), ()) ∧ c < two64 ∧ (-9223372036854775808 ≤ e ∧ e ≤ 9223372036854775807) ∧ checkR neg c e = 0) := by
  unfold parseR
  by_cases h : (lookR s).1 = 0
  · rw [if_pos h]
    have hD : Digs (aheadD s ++ behindD s) := digs_append.2 ⟨tw_digs _, behind_digs s⟩
    generalize aheadD s ++ behindD s = d at hD
    generalize (-((behindD s).length : Int)) = E
    generalize negD s = neg
    by_cases hv : val d = 0
    · refine Or.inr ⟨false, 0, 0, ?_, by decide, by omega, ?_⟩
      · have : valR neg d E = zeroD := by unfold valR; rw [if_pos hv]
        rw [this]; rfl
      · have d0 : Lib.decDigits 0 = [48] := dd_small (by omega)
        unfold checkR
        rw [d0]; rfl
    · obtain ⟨c0, z, h1, h2⟩ := ten_split (val d) (by omega)
      rw [valR_core hD h2 h1]
      generalize E + (z : Int) = Y
      by_cases hY : Y < -18
      · refine Or.inl ?_
        have : normR neg c0 Y = ((false, 0, 0, ()), 10, ()) := by unfold normR; rw [if_pos hY]
        rw [this]
        exact ⟨by decide, rfl, by decide, by show (0 : Int) ≤ s.length; omega⟩
      · by_cases hf : c0 * 10 ^ (Y - 18).toNat < two64
        · have e1 : normR neg c0 Y = ((neg, ((c0 * 10 ^ (Y - 18).toNat : Nat) : Int), (if Y ≤ 18 then Y else 18), ()), 0, ()) := by unfold normR; rw [if_neg hY, if_pos hf]
          rw [e1]
          have hE : -18 ≤ (if Y ≤ 18 then Y else 18) ∧ (if Y ≤ 18 then Y else 18) ≤ 18 := by split <;> omega
          refine Or.inr ⟨neg, c0 * 10 ^ (Y - 18).toNat, (if Y ≤ 18 then Y else 18), rfl, hf, by omega, ?_⟩
          unfold checkR
          rw [if_neg (by omega), valR_core (dd_digs _) h2 (dd_val _)]
          have e2 : (if Y ≤ 18 then Y else 18) + (((Y - 18).toNat : Nat) : Int) = Y := by split <;> omega
          rw [e2, e1, if_pos ⟨rfl, rfl⟩]
        · refine Or.inl ?_
          have : normR neg c0 Y = ((false, 0, 0, ()), 10, ()) := by unfold normR; rw [if_neg hY, if_neg hf]
          rw [this]
          exact ⟨by decide, rfl, by decide, by show (0 : Int) ≤ s.length; omega⟩
  · rw [if_neg h]
    refine Or.inl ⟨h, rfl, ?_⟩
    show 0 ≤ (lookR s).2.1 ∧ (lookR s).2.1 ≤ s.length
    have endle : ∀ (r : Prop) [Decidable r] (a l : Nat), a ≤ l → 0 ≤ (endR r a l).2.1 ∧ (endR r a l).2.1 ≤ (l : Int) := by
      intro r _ a l hl
      unfold endR
      split
      · show (0 : Int) ≤ 0 ∧ (0 : Int) ≤ l; omega
      · split
        · show (0 : Int) ≤ a ∧ (a : Int) ≤ l; omega
        · show (0 : Int) ≤ a ∧ (a : Int) ≤ l; omega
    unfold lookR lookQ
    split
    · rename_i hp
      exact endle _ _ _ (p3_le hp.2)
    · exact endle _ _ _ (p1_le (p0_le s))
theorem dd_ge {c : Nat} (h : 0 < c) : 10 ^ ((Lib.decDigits c).length - 1) ≤ c := by
  have := val_ge (dd_digs c) (dd_ne c) (fun x hx h48 => by
    subst h48
    have h1 := (dd_head c).2 hx
    cases e : Lib.decDigits c with
    | nil => exact dd_ne c e
    | cons b r =>
      rw [e] at hx h1
      have hr : r = [] := by simpa using h1
      have hb : b = 48 := by simpa using hx
      have hv := dd_val c
      rw [e, hr, hb] at hv
      rw [← hv] at h
      exact absurd h (by decide))
  rwa [dd_val] at this
theorem dd_lt (c : Nat) : c < 10 ^ (Lib.decDigits c).length := by have := val_lt (dd_digs c); rwa [dd_val] at this
end Go.AM
set_option linter.unusedVariables false
set_option linter.unusedSimpArgs false
namespace Go.AM
def cmpN (x y : Nat) : Int := if x < y then -1 else if y < x then 1 else 0
theorem cmpN_scale {a b k : Nat} (hk : 0 < k) : cmpN (a * k) (b * k) = cmpN a b := by
  unfold cmpN
  rcases Nat.lt_trichotomy a b with h | h | h
  · rw [if_pos h, if_pos (Nat.mul_lt_mul_of_pos_right h hk)]
  · subst h; simp
  · have h' := Nat.mul_lt_mul_of_pos_right h hk
    rw [if_neg (show ¬ a * k < b * k by omega), if_pos h', if_neg (show ¬ a < b by omega), if_pos h]
theorem bl_irr (l : List UInt8) : Op.bytesLess l l = false := by
  induction l with
  | nil => rfl
  | cons b l ih => rw [bl_cons, ih]; simp
theorem compareBytes_eq (l m : List UInt8) : Lib.compareBytes l m = if Op.bytesLess l m then -1 else if Op.bytesLess m l then 1 else 0 := by
  induction l generalizing m with
  | nil => cases m <;> simp [Lib.compareBytes, Op.bytesLess]
  | cons b l ih => cases m with
    | nil => simp [Lib.compareBytes, Op.bytesLess]
    | cons c m =>
      rw [bl_cons, bl_cons]
      unfold Lib.compareBytes
      by_cases h : b.toNat < c.toNat
      · rw [if_pos (UInt8.lt_iff_toNat_lt.2 h)]; simp [h]
      · rw [if_neg (fun hh => h (UInt8.lt_iff_toNat_lt.1 hh))]
        by_cases h2 : c.toNat < b.toNat
        · rw [if_pos (UInt8.lt_iff_toNat_lt.2 h2)]
          have : ¬ b.toNat = c.toNat := by omega
          simp [h, h2, this]
        · rw [if_neg (fun hh => h2 (UInt8.lt_iff_toNat_lt.1 hh)), ih]
          have : b.toNat = c.toNat := by omega
          simp [this]
theorem compare_val {l m : List UInt8} (hl : Digs l) (hm : Digs m) (hlen : l.length = m.length) : Lib.compareBytes l m = cmpN (val l) (val m) := by
  rw [compareBytes_eq, less_val hl hm hlen, less_val hm hl hlen.symm]
  unfold cmpN
  simp
def mag (c : Nat) (e : Int) : Nat := c * 10 ^ (18 + e).toNat
theorem mag_pos {c : Nat} (h : 0 < c) (e : Int) : 0 < mag c e := Nat.mul_pos h (Nat.pow_pos (by omega))
theorem futoa_eq (n : Nat) {c : Nat} (hc : c < two64) : O.futoa n (c : Int) 10 = some (Lib.decDigits c) := by
  unfold O.futoa
  have : (decide ((0 : Int) ≤ (c : Int)) && decide ((c : Int) < 18446744073709551616) && decide ((10 : Int) = 10)) = true := by
    rw [two64_eq] at hc
    simp; omega
  rw [this]; rfl
theorem mag_lt {a b : Nat} {x y : Int} (hx : -18 ≤ x) (hy : -18 ≤ y) (hb : 0 < b) (h : ((Lib.decDigits a).length : Int) + x < ((Lib.decDigits b).length : Int) + y) : mag a x < mag b y := by
  have h1 := dd_lt a
  have h2 := dd_ge hb
  have hp : 0 < (Lib.decDigits b).length := List.length_pos_iff.2 (dd_ne b)
  unfold mag
  have a1 : a * 10 ^ (18 + x).toNat < 10 ^ (Lib.decDigits a).length * 10 ^ (18 + x).toNat := Nat.mul_lt_mul_of_pos_right h1 (Nat.pow_pos (by omega))
  rw [← Nat.pow_add] at a1
  have a2 : 10 ^ ((Lib.decDigits b).length - 1) * 10 ^ (18 + y).toNat ≤ b * 10 ^ (18 + y).toNat := Nat.mul_le_mul_right _ h2
  rw [← Nat.pow_add] at a2
  have a3 : 10 ^ ((Lib.decDigits a).length + (18 + x).toNat) ≤ 10 ^ ((Lib.decDigits b).length - 1 + (18 + y).toNat) := Nat.pow_le_pow_right (by omega) (by omega)
  omega
theorem size_eq (n : Nat) (na nb : Bool) {a b : Nat} (ha : a < two64) (hb : b < two64) {x y : Int} (hx : -18 ≤ x ∧ x ≤ 18) (hy : -18 ≤ y ∧ y ≤ 18) : F.dec_size n (na, (a : Int), x, ()) (nb, (b : Int), y, ()) = some (cmpN (mag a x) (mag b y)) := by
  unfold F.dec_size
  simp only [futoa_eq n ha, futoa_eq n hb, some_bind']
  have one : ∀ c : Nat, c < two64 → (if (IntKind.wrap .i64 (if (1 : Int) < (c : Int) then (1 : Int) else (c : Int))) < (1 : Int) then (IntKind.wrap .i64 (if (1 : Int) < (c : Int) then (1 : Int) else (c : Int))) else (1 : Int)) = if c = 0 then 0 else 1 := by
    intro c hc
    by_cases h0 : c = 0
    · subst h0; rfl
    · rw [if_neg h0]
      by_cases h1 : (1 : Int) < (c : Int)
      · rw [if_pos h1]; rfl
      · rw [if_neg h1, show c = 1 from by omega]; rfl
  rw [one a ha, one b hb]
  have la := dd_len64 ha
  have lb := dd_len64 hb
  by_cases ha0 : a = 0
  · have e : ((a : Int) == 0) = true := by simp [ha0]
    rw [e, cond_true, if_pos ha0]
    have hm : mag a x = 0 := by unfold mag; rw [ha0, Nat.zero_mul]
    rw [hm]
    by_cases hb0 : b = 0
    · rw [if_pos hb0]
      have : mag b y = 0 := by unfold mag; rw [hb0, Nat.zero_mul]
      rw [this]; rfl
    · rw [if_neg hb0]
      have := mag_pos (show 0 < b by omega) y
      unfold cmpN
      rw [if_pos this]; rfl
  have ea : ((a : Int) == 0) = false := by simpa using ha0
  rw [ea, cond_false, if_neg ha0]
  have pa := mag_pos (show 0 < a by omega) x
  by_cases hb0 : b = 0
  · have e : ((b : Int) == 0) = true := by simp [hb0]
    rw [e, cond_true, if_pos hb0]
    have hm : mag b y = 0 := by unfold mag; rw [hb0, Nat.zero_mul]
    rw [hm]
    unfold cmpN
    rw [if_neg (by omega), if_pos pa]; rfl
  have eb : ((b : Int) == 0) = false := by simpa using hb0
  rw [eb, cond_false, wrap_in (x := ((Lib.decDigits a).length : Int) + x) (by omega), wrap_in (x := ((Lib.decDigits b).length : Int) + y) (by omega)]
  by_cases hn : ((Lib.decDigits a).length : Int) + x = ((Lib.decDigits b).length : Int) + y
  · have e : (((Lib.decDigits a).length : Int) + x == ((Lib.decDigits b).length : Int) + y) = true := by simp [hn]
    rw [e, Bool.not_true, cond_false]
    generalize hL : max (Lib.decDigits a).length (Lib.decDigits b).length = L
    have hmx : (if ((Lib.decDigits b).length : Int) > ((Lib.decDigits a).length : Int) then ((Lib.decDigits b).length : Int) else ((Lib.decDigits a).length : Int)) = (L : Int) := by
      split <;> omega
    rw [hmx]
    have w1 : IntKind.wrap .i64 ((L : Int) - ((Lib.decDigits a).length : Int)) = ((L - (Lib.decDigits a).length : Nat) : Int) := by rw [wrap_in (by omega)]; omega
    have w2 : IntKind.wrap .i64 ((L : Int) - ((Lib.decDigits b).length : Int)) = ((L - (Lib.decDigits b).length : Nat) : Int) := by rw [wrap_in (by omega)]; omega
    rw [w1, w2, repeat_eq n (by omega), some_bind', repeat_eq n (by omega), bif_pos (by rw [strMax_eq]; simp; omega), some_bind', bif_pos (by rw [strMax_eq]; simp; omega)]
    unfold O.compare
    rw [some_bind', Int.toNat_natCast, Int.toNat_natCast, compare_val (digs_append.2 ⟨dd_digs a, digs_rep _⟩) (digs_append.2 ⟨dd_digs b, digs_rep _⟩) (by simp; omega), val_zeros_right, val_zeros_right, dd_val, dd_val]
    congr 1
    have hk : 0 < 10 ^ (18 + ((Lib.decDigits a).length : Int) + x - L).toNat := Nat.pow_pos (by omega)
    rw [← cmpN_scale hk]
    unfold mag
    rw [Nat.mul_assoc, Nat.mul_assoc, ← Nat.pow_add, ← Nat.pow_add]
    congr 3
    · congr 1; omega
    · congr 1; omega
  · have e : (((Lib.decDigits a).length : Int) + x == ((Lib.decDigits b).length : Int) + y) = false := by simpa using hn
    rw [e, Bool.not_false, cond_true]
    by_cases hlt : ((Lib.decDigits a).length : Int) + x < ((Lib.decDigits b).length : Int) + y
    · rw [bif_pos hlt]
      have := mag_lt hx.1 hy.1 (show 0 < b by omega) hlt
      unfold cmpN
      rw [if_pos this]
    · rw [bif_neg hlt]
      have := mag_lt hy.1 hx.1 (show 0 < a by omega) (show ((Lib.decDigits b).length : Int) + y < ((Lib.decDigits a).length : Int) + x by omega)
      unfold cmpN
      rw [if_neg (by omega), if_pos this]
def cmpD (na : Bool) (a : Nat) (x : Int) (nb : Bool) (b : Nat) (y : Int) : Int :=
  if na then (if nb then cmpN (mag b y) (mag a x) else -1) else if nb then 1 else cmpN (mag a x) (mag b y)
theorem cmp_step {X : Type} (n m : Nat) (k0 : Bool → Int → Int → Bool → Int → Int → Option X) (kr : Int → Int → Bool → Int → Int → Bool → Int → Int → Option X) (v : (Bool) × (Int) × (Int) × (Bool) × (Int) × (Int) × Unit) (i : Int) (b0 : Bool) (b1 b2 : Int) (b3 : Bool) (b4 b5 : Int) :
    F.dec_Compare.L2 n k0 kr (m + 1) v i b0 b1 b2 b3 b4 b5 = F.dec_Compare.L2.step n (F.dec_Compare.L2 n k0 kr m) k0 kr v i b0 b1 b2 b3 b4 b5 := rfl
theorem compare_core (n : Nat) (hn : 100 ≤ n) (na nb : Bool) {a b : Nat} (ha : a < two64) (hb : b < two64) {x y : Int} (hx : -9223372036854775808 ≤ x ∧ x ≤ 9223372036854775807) (hy : -9223372036854775808 ≤ y ∧ y ≤ 9223372036854775807)
    (X : Type) (k0 : Bool → Int → Int → Bool → Int → Int → Option X) (kr : Int → Int → Bool → Int → Int → Bool → Int → Int → Option X) (m : Nat) :
    F.dec_Compare.L2 n k0 kr (m + 3) (na, (a : Int), x, nb, (b : Int), y, ()) 0 na (a : Int) x nb (b : Int) y = if checkR na a x ≠ 0 then kr 0 (checkR na a x) na (a : Int) x nb (b : Int) y else if checkR nb b y ≠ 0 then kr 0 (checkR nb b y) na (a : Int) x nb (b : Int) y else k0 na (a : Int) x nb (b : Int) y := by
  rw [cmp_step n (m + 2)]
  unfold F.dec_Compare.L2.step
  have c0 : decide ((0 : Int) < 2) = true := rfl
  have c1 : ((0 : Int) == 0) = true := rfl
  rw [c0, c1, cond_true, cond_true, check_eq n hn na a ha x hx, some_bind']
  by_cases h1 : checkR na a x = 0
  · have e1 : (!(checkR na a x == 0)) = false := by simp [h1]
    rw [e1, cond_false, if_neg (fun h => h h1)]
    rw [cmp_step n (m + 1), show IntKind.wrap .i64 ((0 : Int) + 1) = 1 from rfl]
    unfold F.dec_Compare.L2.step
    have d0 : decide ((1 : Int) < 2) = true := rfl
    have d1 : ((1 : Int) == 0) = false := rfl
    have d2 : ((1 : Int) == 1) = true := rfl
    rw [d0, d1, d2, cond_true, cond_false, cond_true, check_eq n hn nb b hb y hy, some_bind']
    by_cases h2 : checkR nb b y = 0
    · have e2 : (!(checkR nb b y == 0)) = false := by simp [h2]
      rw [e2, cond_false, if_neg (fun h => h h2)]
      rw [cmp_step n m, show IntKind.wrap .i64 ((1 : Int) + 1) = 2 from rfl]
      unfold F.dec_Compare.L2.step
      have f0 : decide ((2 : Int) < 2) = false := rfl
      rw [f0, cond_false]
    · have e2 : (!(checkR nb b y == 0)) = true := by simpa using h2
      rw [e2, cond_true, if_pos h2]
  · have e1 : (!(checkR na a x == 0)) = true := by simpa using h1
    rw [e1, cond_true, if_pos h1]
theorem compare_eq (n : Nat) (hn : 100 ≤ n) (na nb : Bool) {a b : Nat} (ha : a < two64) (hb : b < two64) {x y : Int} (hx : -9223372036854775808 ≤ x ∧ x ≤ 9223372036854775807) (hy : -9223372036854775808 ≤ y ∧ y ≤ 9223372036854775807) :
    F.dec_Compare n (na, (a : Int), x, ()) (nb, (b : Int), y, ()) = some (if checkR na a x ≠ 0 then (0, checkR na a x, ()) else if checkR nb b y ≠ 0 then (0, checkR nb b y, ()) else (cmpD na a x nb b y, 0, ())) := by
  unfold F.dec_Compare
  obtain ⟨m, hm⟩ : ∃ q, n = q + 3 := ⟨n - 3, by omega⟩
  have core := fun X k0 kr => compare_core n hn na nb ha hb hx hy X k0 kr m
  rw [← hm] at core
  refine (core _ _ _).trans ?_
  by_cases h1 : checkR na a x = 0
  · by_cases h2 : checkR nb b y = 0
    · have hA := (check_zero h1).2
      have hB := (check_zero h2).2
      simp only [ne_eq, h1, h2, not_true_eq_false, if_false, size_eq n na nb ha hb hA hB, size_eq n nb na hb ha hB hA]
      unfold cmpD
      cases na <;> cases nb <;> rfl
    · simp only [ne_eq, h1, h2, not_true_eq_false, not_false_eq_true, if_false, if_true]
  · simp only [ne_eq, h1, not_false_eq_true, if_true]
end Go.AM
set_option linter.unusedVariables false
set_option linter.unusedSimpArgs false
namespace Go.AM
def NormD (neg : Bool) (c : Nat) (e : Int) : Prop := c < two64 ∧ checkR neg c e = 0
def valV (neg : Bool) (c : Nat) (e : Int) : Int := if neg then -(mag c e : Int) else (mag c e : Int)
theorem norm_e {neg : Bool} {c : Nat} {e : Int} (h : NormD neg c e) : -18 ≤ e ∧ e ≤ 18 := (check_zero h.2).2
theorem valR_zero (neg : Bool) (e : Int) : valR neg (Lib.decDigits 0) e = zeroD := by
  unfold valR
  rw [dd_val, if_pos rfl]
theorem norm_zero {neg : Bool} {e : Int} (h : NormD neg 0 e) : neg = false ∧ e = 0 := by
  have := (check_zero h.2).1
  rw [valR_zero] at this
  exact ⟨(congrArg (fun r : DecR => r.1.1) this).symm, (congrArg (fun r : DecR => r.1.2.2.1) this).symm⟩
theorem norm_neg {c : Nat} {e : Int} (h : NormD true c e) : 0 < c := by
  rcases Nat.eq_zero_or_pos c with h0 | h0
  · subst h0
    exact absurd (norm_zero h).1 (by decide)
  · exact h0
theorem mag_zero (e : Int) : mag 0 e = 0 := by unfold mag; simp
theorem norm_inj {na nb : Bool} {a b : Nat} {x y : Int} (ha : NormD na a x) (hb : NormD nb b y) : valV na a x = valV nb b y ↔ na = nb ∧ a = b ∧ x = y := by
  refine ⟨fun h => ?_, fun h => by rw [h.1, h.2.1, h.2.2]⟩
  have hx := norm_e ha
  have hy := norm_e hb
  have hn : na = nb ∧ mag a x = mag b y := by
    unfold valV at h
    cases na <;> cases nb
    · exact ⟨rfl, by simp at h; omega⟩
    · have := mag_pos (norm_neg hb) y
      simp at h; omega
    · have := mag_pos (norm_neg ha) x
      simp at h; omega
    · exact ⟨rfl, by simp at h; omega⟩
  obtain ⟨rfl, hm⟩ := hn
  refine ⟨rfl, ?_⟩
  rcases Nat.eq_zero_or_pos a with ha0 | ha0
  · subst ha0
    rw [mag_zero] at hm
    rcases Nat.eq_zero_or_pos b with hb0 | hb0
    · subst hb0
      exact ⟨rfl, by rw [(norm_zero ha).2, (norm_zero hb).2]⟩
    · have := mag_pos hb0 y; omega
  · have hb0 : 0 < b := by
      rcases Nat.eq_zero_or_pos b with hb0 | hb0
      · subst hb0
        rw [mag_zero] at hm
        have := mag_pos ha0 x; omega
      · exact hb0
    obtain ⟨a0, z, a1, a2⟩ := ten_split a ha0
    obtain ⟨b0, z', b1, b2⟩ := ten_split b hb0
    have hm' : a0 * 10 ^ (z + (18 + x).toNat) = b0 * 10 ^ (z' + (18 + y).toNat) := by
      unfold mag at hm
      rw [a1, b1, Nat.mul_assoc, Nat.mul_assoc, ← Nat.pow_add, ← Nat.pow_add] at hm
      exact hm
    obtain ⟨e1, e2⟩ := core_unique a2 b2 hm'
    have va := (check_zero ha.2).1
    have vb := (check_zero hb.2).1
    rw [valR_core (dd_digs a) a2 (by rw [dd_val]; exact a1)] at va
    rw [valR_core (dd_digs b) b2 (by rw [dd_val]; exact b1), ← e1, show y + (z' : Int) = x + (z : Int) from by omega, va] at vb
    have h1 : (a : Int) = (b : Int) := congrArg (fun r : DecR => r.1.2.1) vb
    have h2 : x = y := congrArg (fun r : DecR => r.1.2.2.1) vb
    exact ⟨by omega, h2⟩
def cmpV (u v : Int) : Int := if u < v then -1 else if v < u then 1 else 0
theorem cmp_norm {na nb : Bool} {a b : Nat} {x y : Int} (ha : NormD na a x) (hb : NormD nb b y) : cmpD na a x nb b y = cmpV (valV na a x) (valV nb b y) := by
  unfold cmpD cmpV valV cmpN
  cases na <;> cases nb
  · simp only [Bool.false_eq_true, if_false]
    repeat' split
    all_goals omega
  · have := mag_pos (norm_neg hb) y
    simp only [Bool.false_eq_true, if_false, if_true]
    repeat' split
    all_goals omega
  · have := mag_pos (norm_neg ha) x
    simp only [Bool.false_eq_true, if_false, if_true]
    repeat' split
    all_goals omega
  · simp only [if_true]
    repeat' split
    all_goals omega
theorem compare_norm (n : Nat) (hn : 5000 ≤ n) {na nb : Bool} {a b : Nat} {x y : Int} (ha : NormD na a x) (hb : NormD nb b y) : F.dec_Compare n (na, (a : Int), x, ()) (nb, (b : Int), y, ()) = some (cmpV (valV na a x) (valV nb b y), 0, ()) := by
  have hx := norm_e ha
  have hy := norm_e hb
  rw [compare_eq n (by omega) na nb ha.1 hb.1 (by omega) (by omega), if_neg (fun h => h ha.2), if_neg (fun h => h hb.2), cmp_norm ha hb]
theorem norm_flip {neg : Bool} {c : Nat} {e : Int} (h : NormD neg c e) (hc : 0 < c) : NormD (!neg) c e := by
  refine ⟨h.1, ?_⟩
  obtain ⟨h1, h2, h3⟩ := check_zero h.2
  obtain ⟨c0, z, a1, a2⟩ := ten_split c hc
  have e1 := valR_core (dd_digs c) a2 (by rw [dd_val]; exact a1) neg e
  have e2 := valR_core (dd_digs c) a2 (by rw [dd_val]; exact a1) (!neg) e
  rw [h1] at e1
  have e3 : valR (!neg) (Lib.decDigits c) e = ((!neg, (c : Int), e, ()), 0, ()) := by
    rw [e2]
    unfold normR at e1 ⊢
    split at e1
    · have hx : (0 : Int) = 10 := congrArg (fun r : DecR => r.2.1) e1
      omega
    · rename_i g1
      split at e1
      · rename_i g2
        rw [if_neg g1, if_pos g2]
        have q2 := congrArg (fun r : DecR => r.1.2.1) e1
        have q3 := congrArg (fun r : DecR => r.1.2.2.1) e1
        simp only at q2 q3
        rw [← q2, ← q3]
      · have hx : (0 : Int) = 10 := congrArg (fun r : DecR => r.2.1) e1
        omega
  unfold checkR
  rw [if_neg (by omega), e3, if_pos ⟨rfl, rfl⟩]
def lessN (neg : Bool) (c : Nat) : Bool := if c = 0 then neg else !neg
theorem less_eq (n : Nat) (neg : Bool) (c : Nat) (e : Int) : F.law03_less n (neg, (c : Int), e, ()) = some (lessN neg c, (c : Int), e, ()) := by
  unfold F.law03_less lessN
  by_cases h : c = 0
  · rw [if_pos h, h]; rfl
  · have : ((c : Int) == 0) = false := by rw [beq_eq_false_iff_ne]; omega
    simp only [this, Bool.not_false, cond_true]
    rw [if_neg h]
theorem less_norm {neg : Bool} {c : Nat} {e : Int} (h : NormD neg c e) : NormD (lessN neg c) c e ∧ valV (lessN neg c) c e = -valV neg c e := by
  unfold lessN
  by_cases hc : c = 0
  · rw [if_pos hc]
    refine ⟨h, ?_⟩
    subst hc
    unfold valV
    rw [mag_zero]; cases neg <;> rfl
  · rw [if_neg hc]
    refine ⟨norm_flip h (by omega), ?_⟩
    unfold valV
    cases neg <;> simp
theorem normal_norm {neg : Bool} {d : List UInt8} (hD : Digs d) {e : Int} (h : (valR neg d e).2.1 = 0) : ∃ (neg' : Bool) (c : Nat) (e' : Int), (valR neg d e).1 = (neg', (c : Int), e', ()) ∧ NormD neg' c e' := by
  by_cases hv : val d = 0
  · refine ⟨false, 0, 0, ?_, by decide, ?_⟩
    · have : valR neg d e = zeroD := by unfold valR; rw [if_pos hv]
      rw [this]; rfl
    · have d0 : Lib.decDigits 0 = [48] := dd_small (by omega)
      unfold checkR
      rw [d0]; rfl
  · obtain ⟨c0, z, h1, h2⟩ := ten_split (val d) (by omega)
    rw [valR_core hD h2 h1] at h ⊢
    generalize e + (z : Int) = Y at h ⊢
    by_cases hY : Y < -18
    · have : normR neg c0 Y = ((false, 0, 0, ()), 10, ()) := by unfold normR; rw [if_pos hY]
      rw [this] at h; exact absurd h (by decide)
    · by_cases hf : c0 * 10 ^ (Y - 18).toNat < two64
      · have e1 : normR neg c0 Y = ((neg, ((c0 * 10 ^ (Y - 18).toNat : Nat) : Int), (if Y ≤ 18 then Y else 18), ()), 0, ()) := by unfold normR; rw [if_neg hY, if_pos hf]
        rw [e1]
        have hE : -18 ≤ (if Y ≤ 18 then Y else 18) ∧ (if Y ≤ 18 then Y else 18) ≤ 18 := by split <;> omega
        refine ⟨neg, c0 * 10 ^ (Y - 18).toNat, (if Y ≤ 18 then Y else 18), rfl, hf, ?_⟩
        unfold checkR
        rw [if_neg (by omega), valR_core (dd_digs _) h2 (dd_val _)]
        have e2 : (if Y ≤ 18 then Y else 18) + (((Y - 18).toNat : Nat) : Int) = Y := by split <;> omega
        rw [e2, e1, if_pos ⟨rfl, rfl⟩]
      · have : normR neg c0 Y = ((false, 0, 0, ()), 10, ()) := by unfold normR; rw [if_neg hY, if_neg hf]
        rw [this] at h; exact absurd h (by decide)
end Go.AM
