/- Part 4 of a proof by the abstract machine. -/
import Derived.Test.YtpnaofiiekopcaaDoorQ3
set_option linter.unusedVariables false
namespace Go.AM
noncomputable def F.law03_DecOrders.L32.step {X : Type} (n : Nat) (rec : Int → Int → Int → Bool → Int → Int → Bool → Int → Int → Bool → Int → Int → Bool → Int → Int → Bool → Int → Int → Bool → Int → Int → Int → Int → Int → Int → Int → Int → Int → Int → Int → Option X) (k10 : Int → Int → Bool → Int → Int → Bool → Int → Int → Bool → Int → Int → Bool → Int → Int → Bool → Int → Int → Bool → Int → Int → Int → Int → Int → Int → Int → Int → Int → Int → Int → Option X) (kr : Bool → Bool → Int → Int → Bool → Int → Int → Bool → Int → Int → Bool → Int → Int → Bool → Int → Int → Bool → Int → Int → Int → Int → Int → Int → Int → Int → Int → Int → Int → Option X) (v14 : Int) (v15 : Int) (v16 : Int) (p0 : Bool) (p1 : Int) (p2 : Int) (p3 : Bool) (p4 : Int) (p5 : Int) (p6 : Bool) (p7 : Int) (p8 : Int) (q0 : Bool) (q1 : Int) (q2 : Int) (q3 : Bool) (q4 : Int) (q5 : Int) (q6 : Bool) (q7 : Int) (q8 : Int) (c0 : Int) (c1 : Int) (c2 : Int) (c3 : Int) (c4 : Int) (c5 : Int) (c6 : Int) (c7 : Int) (c8 : Int) : Option X :=
 bif decide (v16 < (3 : Int)) then
 bif v14 == (0 : Int) then
 bif v15 == (0 : Int) then
 bif decide (c0 ≤ (0 : Int)) then
 bif v15 == (0 : Int) then
 bif v16 == (0 : Int) then
 bif decide (c0 ≤ (0 : Int)) then
 bif v14 == (0 : Int) then
 bif v16 == (0 : Int) then
 bif decide (c0 > (0 : Int)) then
 kr false p0 p1 p2 p3 p4 p5 p6 p7 p8 q0 q1 q2 q3 q4 q5 q6 q7 q8 c0 c1 c2 c3 c4 c5 c6 c7 c8
 else
 rec v14 v15 (IntKind.wrap .i64 (v16 + (1 : Int))) p0 p1 p2 p3 p4 p5 p6 p7 p8 q0 q1 q2 q3 q4 q5 q6 q7 q8 c0 c1 c2 c3 c4 c5 c6 c7 c8
 else
 bif v16 == (1 : Int) then
 bif decide (c1 > (0 : Int)) then
 kr false p0 p1 p2 p3 p4 p5 p6 p7 p8 q0 q1 q2 q3 q4 q5 q6 q7 q8 c0 c1 c2 c3 c4 c5 c6 c7 c8
 else
 rec v14 v15 (IntKind.wrap .i64 (v16 + (1 : Int))) p0 p1 p2 p3 p4 p5 p6 p7 p8 q0 q1 q2 q3 q4 q5 q6 q7 q8 c0 c1 c2 c3 c4 c5 c6 c7 c8
 else
 bif v16 == (2 : Int) then
 bif decide (c2 > (0 : Int)) then
 kr false p0 p1 p2 p3 p4 p5 p6 p7 p8 q0 q1 q2 q3 q4 q5 q6 q7 q8 c0 c1 c2 c3 c4 c5 c6 c7 c8
 else
 rec v14 v15 (IntKind.wrap .i64 (v16 + (1 : Int))) p0 p1 p2 p3 p4 p5 p6 p7 p8 q0 q1 q2 q3 q4 q5 q6 q7 q8 c0 c1 c2 c3 c4 c5 c6 c7 c8
 else
 none
 else
 bif v14 == (1 : Int) then
 bif v16 == (0 : Int) then
 bif decide (c3 > (0 : Int)) then
 kr false p0 p1 p2 p3 p4 p5 p6 p7 p8 q0 q1 q2 q3 q4 q5 q6 q7 q8 c0 c1 c2 c3 c4 c5 c6 c7 c8
 else
 rec v14 v15 (IntKind.wrap .i64 (v16 + (1 : Int))) p0 p1 p2 p3 p4 p5 p6 p7 p8 q0 q1 q2 q3 q4 q5 q6 q7 q8 c0 c1 c2 c3 c4 c5 c6 c7 c8
 else
 bif v16 == (1 : Int) then
 bif decide (c4 > (0 : Int)) then
 kr false p0 p1 p2 p3 p4 p5 p6 p7 p8 q0 q1 q2 q3 q4 q5 q6 q7 q8 c0 c1 c2 c3 c4 c5 c6 c7 c8
 else
 rec v14 v15 (IntKind.wrap .i64 (v16 + (1 : Int))) p0 p1 p2 p3 p4 p5 p6 p7 p8 q0 q1 q2 q3 q4 q5 q6 q7 q8 c0 c1 c2 c3 c4 c5 c6 c7 c8
 else
 bif v16 == (2 : Int) then
 bif decide (c5 > (0 : Int)) then
 kr false p0 p1 p2 p3 p4 p5 p6 p7 p8 q0 q1 q2 q3 q4 q5 q6 q7 q8 c0 c1 c2 c3 c4 c5 c6 c7 c8
 else
 rec v14 v15 (IntKind.wrap .i64 (v16 + (1 : Int))) p0 p1 p2 p3 p4 p5 p6 p7 p8 q0 q1 q2 q3 q4 q5 q6 q7 q8 c0 c1 c2 c3 c4 c5 c6 c7 c8
 else
 none
 else
 bif v14 == (2 : Int) then
 bif v16 == (0 : Int) then
 bif decide (c6 > (0 : Int)) then
 kr false p0 p1 p2 p3 p4 p5 p6 p7 p8 q0 q1 q2 q3 q4 q5 q6 q7 q8 c0 c1 c2 c3 c4 c5 c6 c7 c8
 else
 rec v14 v15 (IntKind.wrap .i64 (v16 + (1 : Int))) p0 p1 p2 p3 p4 p5 p6 p7 p8 q0 q1 q2 q3 q4 q5 q6 q7 q8 c0 c1 c2 c3 c4 c5 c6 c7 c8
 else
 bif v16 == (1 : Int) then
 bif decide (c7 > (0 : Int)) then
 kr false p0 p1 p2 p3 p4 p5 p6 p7 p8 q0 q1 q2 q3 q4 q5 q6 q7 q8 c0 c1 c2 c3 c4 c5 c6 c7 c8
 else
 rec v14 v15 (IntKind.wrap .i64 (v16 + (1 : Int))) p0 p1 p2 p3 p4 p5 p6 p7 p8 q0 q1 q2 q3 q4 q5 q6 q7 q8 c0 c1 c2 c3 c4 c5 c6 c7 c8
 else
 bif v16 == (2 : Int) then
 bif decide (c8 > (0 : Int)) then
 kr false p0 p1 p2 p3 p4 p5 p6 p7 p8 q0 q1 q2 q3 q4 q5 q6 q7 q8 c0 c1 c2 c3 c4 c5 c6 c7 c8
 else
 rec v14 v15 (IntKind.wrap .i64 (v16 + (1 : Int))) p0 p1 p2 p3 p4 p5 p6 p7 p8 q0 q1 q2 q3 q4 q5 q6 q7 q8 c0 c1 c2 c3 c4 c5 c6 c7 c8
 else
 none
 else
 none
 else
 rec v14 v15 (IntKind.wrap .i64 (v16 + (1 : Int))) p0 p1 p2 p3 p4 p5 p6 p7 p8 q0 q1 q2 q3 q4 q5 q6 q7 q8 c0 c1 c2 c3 c4 c5 c6 c7 c8
 else
 bif v16 == (1 : Int) then
 bif decide (c1 ≤ (0 : Int)) then
 bif v14 == (0 : Int) then
 bif v16 == (0 : Int) then
 bif decide (c0 > (0 : Int)) then
 kr false p0 p1 p2 p3 p4 p5 p6 p7 p8 q0 q1 q2 q3 q4 q5 q6 q7 q8 c0 c1 c2 c3 c4 c5 c6 c7 c8
 else
 rec v14 v15 (IntKind.wrap .i64 (v16 + (1 : Int))) p0 p1 p2 p3 p4 p5 p6 p7 p8 q0 q1 q2 q3 q4 q5 q6 q7 q8 c0 c1 c2 c3 c4 c5 c6 c7 c8
 else
 bif v16 == (1 : Int) then
 bif decide (c1 > (0 : Int)) then
 kr false p0 p1 p2 p3 p4 p5 p6 p7 p8 q0 q1 q2 q3 q4 q5 q6 q7 q8 c0 c1 c2 c3 c4 c5 c6 c7 c8
 else
 rec v14 v15 (IntKind.wrap .i64 (v16 + (1 : Int))) p0 p1 p2 p3 p4 p5 p6 p7 p8 q0 q1 q2 q3 q4 q5 q6 q7 q8 c0 c1 c2 c3 c4 c5 c6 c7 c8
 else
 bif v16 == (2 : Int) then
 bif decide (c2 > (0 : Int)) then
 kr false p0 p1 p2 p3 p4 p5 p6 p7 p8 q0 q1 q2 q3 q4 q5 q6 q7 q8 c0 c1 c2 c3 c4 c5 c6 c7 c8
 else
 rec v14 v15 (IntKind.wrap .i64 (v16 + (1 : Int))) p0 p1 p2 p3 p4 p5 p6 p7 p8 q0 q1 q2 q3 q4 q5 q6 q7 q8 c0 c1 c2 c3 c4 c5 c6 c7 c8
 else
 none
 else
 bif v14 == (1 : Int) then
 bif v16 == (0 : Int) then
 bif decide (c3 > (0 : Int)) then
 kr false p0 p1 p2 p3 p4 p5 p6 p7 p8 q0 q1 q2 q3 q4 q5 q6 q7 q8 c0 c1 c2 c3 c4 c5 c6 c7 c8
 else
 rec v14 v15 (IntKind.wrap .i64 (v16 + (1 : Int))) p0 p1 p2 p3 p4 p5 p6 p7 p8 q0 q1 q2 q3 q4 q5 q6 q7 q8 c0 c1 c2 c3 c4 c5 c6 c7 c8
 else
 bif v16 == (1 : Int) then
 bif decide (c4 > (0 : Int)) then
 kr false p0 p1 p2 p3 p4 p5 p6 p7 p8 q0 q1 q2 q3 q4 q5 q6 q7 q8 c0 c1 c2 c3 c4 c5 c6 c7 c8
 else
 rec v14 v15 (IntKind.wrap .i64 (v16 + (1 : Int))) p0 p1 p2 p3 p4 p5 p6 p7 p8 q0 q1 q2 q3 q4 q5 q6 q7 q8 c0 c1 c2 c3 c4 c5 c6 c7 c8
 else
 bif v16 == (2 : Int) then
 bif decide (c5 > (0 : Int)) then
 kr false p0 p1 p2 p3 p4 p5 p6 p7 p8 q0 q1 q2 q3 q4 q5 q6 q7 q8 c0 c1 c2 c3 c4 c5 c6 c7 c8
 else
 rec v14 v15 (IntKind.wrap .i64 (v16 + (1 : Int))) p0 p1 p2 p3 p4 p5 p6 p7 p8 q0 q1 q2 q3 q4 q5 q6 q7 q8 c0 c1 c2 c3 c4 c5 c6 c7 c8
 else
 none
 else
 bif v14 == (2 : Int) then
 bif v16 == (0 : Int) then
 bif decide (c6 > (0 : Int)) then
 kr false p0 p1 p2 p3 p4 p5 p6 p7 p8 q0 q1 q2 q3 q4 q5 q6 q7 q8 c0 c1 c2 c3 c4 c5 c6 c7 c8
 else
 rec v14 v15 (IntKind.wrap .i64 (v16 + (1 : Int))) p0 p1 p2 p3 p4 p5 p6 p7 p8 q0 q1 q2 q3 q4 q5 q6 q7 q8 c0 c1 c2 c3 c4 c5 c6 c7 c8
 else
 bif v16 == (1 : Int) then
 bif decide (c7 > (0 : Int)) then
 kr false p0 p1 p2 p3 p4 p5 p6 p7 p8 q0 q1 q2 q3 q4 q5 q6 q7 q8 c0 c1 c2 c3 c4 c5 c6 c7 c8
 else
 rec v14 v15 (IntKind.wrap .i64 (v16 + (1 : Int))) p0 p1 p2 p3 p4 p5 p6 p7 p8 q0 q1 q2 q3 q4 q5 q6 q7 q8 c0 c1 c2 c3 c4 c5 c6 c7 c8
 else
 bif v16 == (2 : Int) then
 bif decide (c8 > (0 : Int)) then
 kr false p0 p1 p2 p3 p4 p5 p6 p7 p8 q0 q1 q2 q3 q4 q5 q6 q7 q8 c0 c1 c2 c3 c4 c5 c6 c7 c8
 else
 rec v14 v15 (IntKind.wrap .i64 (v16 + (1 : Int))) p0 p1 p2 p3 p4 p5 p6 p7 p8 q0 q1 q2 q3 q4 q5 q6 q7 q8 c0 c1 c2 c3 c4 c5 c6 c7 c8
 else
 none
 else
 none
 else
 rec v14 v15 (IntKind.wrap .i64 (v16 + (1 : Int))) p0 p1 p2 p3 p4 p5 p6 p7 p8 q0 q1 q2 q3 q4 q5 q6 q7 q8 c0 c1 c2 c3 c4 c5 c6 c7 c8
 else
 bif v16 == (2 : Int) then
 bif decide (c2 ≤ (0 : Int)) then
 bif v14 == (0 : Int) then
 bif v16 == (0 : Int) then
 bif decide (c0 > (0 : Int)) then
 kr false p0 p1 p2 p3 p4 p5 p6 p7 p8 q0 q1 q2 q3 q4 q5 q6 q7 q8 c0 c1 c2 c3 c4 c5 c6 c7 c8
 else
 rec v14 v15 (IntKind.wrap .i64 (v16 + (1 : Int))) p0 p1 p2 p3 p4 p5 p6 p7 p8 q0 q1 q2 q3 q4 q5 q6 q7 q8 c0 c1 c2 c3 c4 c5 c6 c7 c8
 else
 bif v16 == (1 : Int) then
 bif decide (c1 > (0 : Int)) then
 kr false p0 p1 p2 p3 p4 p5 p6 p7 p8 q0 q1 q2 q3 q4 q5 q6 q7 q8 c0 c1 c2 c3 c4 c5 c6 c7 c8
 else
 rec v14 v15 (IntKind.wrap .i64 (v16 + (1 : Int))) p0 p1 p2 p3 p4 p5 p6 p7 p8 q0 q1 q2 q3 q4 q5 q6 q7 q8 c0 c1 c2 c3 c4 c5 c6 c7 c8
 else
 bif v16 == (2 : Int) then
 bif decide (c2 > (0 : Int)) then
 kr false p0 p1 p2 p3 p4 p5 p6 p7 p8 q0 q1 q2 q3 q4 q5 q6 q7 q8 c0 c1 c2 c3 c4 c5 c6 c7 c8
 else
 rec v14 v15 (IntKind.wrap .i64 (v16 + (1 : Int))) p0 p1 p2 p3 p4 p5 p6 p7 p8 q0 q1 q2 q3 q4 q5 q6 q7 q8 c0 c1 c2 c3 c4 c5 c6 c7 c8
 else
 none
 else
 bif v14 == (1 : Int) then
 bif v16 == (0 : Int) then
 bif decide (c3 > (0 : Int)) then
 kr false p0 p1 p2 p3 p4 p5 p6 p7 p8 q0 q1 q2 q3 q4 q5 q6 q7 q8 c0 c1 c2 c3 c4 c5 c6 c7 c8
 else
 rec v14 v15 (IntKind.wrap .i64 (v16 + (1 : Int))) p0 p1 p2 p3 p4 p5 p6 p7 p8 q0 q1 q2 q3 q4 q5 q6 q7 q8 c0 c1 c2 c3 c4 c5 c6 c7 c8
 else
 bif v16 == (1 : Int) then
 bif decide (c4 > (0 : Int)) then
 kr false p0 p1 p2 p3 p4 p5 p6 p7 p8 q0 q1 q2 q3 q4 q5 q6 q7 q8 c0 c1 c2 c3 c4 c5 c6 c7 c8
 else
 rec v14 v15 (IntKind.wrap .i64 (v16 + (1 : Int))) p0 p1 p2 p3 p4 p5 p6 p7 p8 q0 q1 q2 q3 q4 q5 q6 q7 q8 c0 c1 c2 c3 c4 c5 c6 c7 c8
 else
 bif v16 == (2 : Int) then
 bif decide (c5 > (0 : Int)) then
 kr false p0 p1 p2 p3 p4 p5 p6 p7 p8 q0 q1 q2 q3 q4 q5 q6 q7 q8 c0 c1 c2 c3 c4 c5 c6 c7 c8
 else
 rec v14 v15 (IntKind.wrap .i64 (v16 + (1 : Int))) p0 p1 p2 p3 p4 p5 p6 p7 p8 q0 q1 q2 q3 q4 q5 q6 q7 q8 c0 c1 c2 c3 c4 c5 c6 c7 c8
 else
 none
 else
 bif v14 == (2 : Int) then
 bif v16 == (0 : Int) then
 bif decide (c6 > (0 : Int)) then
 kr false p0 p1 p2 p3 p4 p5 p6 p7 p8 q0 q1 q2 q3 q4 q5 q6 q7 q8 c0 c1 c2 c3 c4 c5 c6 c7 c8
 else
 rec v14 v15 (IntKind.wrap .i64 (v16 + (1 : Int))) p0 p1 p2 p3 p4 p5 p6 p7 p8 q0 q1 q2 q3 q4 q5 q6 q7 q8 c0 c1 c2 c3 c4 c5 c6 c7 c8
 else
 bif v16 == (1 : Int) then
 bif decide (c7 > (0 : Int)) then
 kr false p0 p1 p2 p3 p4 p5 p6 p7 p8 q0 q1 q2 q3 q4 q5 q6 q7 q8 c0 c1 c2 c3 c4 c5 c6 c7 c8
 else
 rec v14 v15 (IntKind.wrap .i64 (v16 + (1 : Int))) p0 p1 p2 p3 p4 p5 p6 p7 p8 q0 q1 q2 q3 q4 q5 q6 q7 q8 c0 c1 c2 c3 c4 c5 c6 c7 c8
 else
 bif v16 == (2 : Int) then
 bif decide (c8 > (0 : Int)) then
 kr false p0 p1 p2 p3 p4 p5 p6 p7 p8 q0 q1 q2 q3 q4 q5 q6 q7 q8 c0 c1 c2 c3 c4 c5 c6 c7 c8
 else
 rec v14 v15 (IntKind.wrap .i64 (v16 + (1 : Int))) p0 p1 p2 p3 p4 p5 p6 p7 p8 q0 q1 q2 q3 q4 q5 q6 q7 q8 c0 c1 c2 c3 c4 c5 c6 c7 c8
 else
 none
 else
 none
 else
 rec v14 v15 (IntKind.wrap .i64 (v16 + (1 : Int))) p0 p1 p2 p3 p4 p5 p6 p7 p8 q0 q1 q2 q3 q4 q5 q6 q7 q8 c0 c1 c2 c3 c4 c5 c6 c7 c8
 else
 none
 else
 bif v15 == (1 : Int) then
 bif v16 == (0 : Int) then
 bif decide (c3 ≤ (0 : Int)) then
 bif v14 == (0 : Int) then
 bif v16 == (0 : Int) then
 bif decide (c0 > (0 : Int)) then
 kr false p0 p1 p2 p3 p4 p5 p6 p7 p8 q0 q1 q2 q3 q4 q5 q6 q7 q8 c0 c1 c2 c3 c4 c5 c6 c7 c8
 else
 rec v14 v15 (IntKind.wrap .i64 (v16 + (1 : Int))) p0 p1 p2 p3 p4 p5 p6 p7 p8 q0 q1 q2 q3 q4 q5 q6 q7 q8 c0 c1 c2 c3 c4 c5 c6 c7 c8
 else
 bif v16 == (1 : Int) then
 bif decide (c1 > (0 : Int)) then
 kr false p0 p1 p2 p3 p4 p5 p6 p7 p8 q0 q1 q2 q3 q4 q5 q6 q7 q8 c0 c1 c2 c3 c4 c5 c6 c7 c8
 else
 rec v14 v15 (IntKind.wrap .i64 (v16 + (1 : Int))) p0 p1 p2 p3 p4 p5 p6 p7 p8 q0 q1 q2 q3 q4 q5 q6 q7 q8 c0 c1 c2 c3 c4 c5 c6 c7 c8
 else
 bif v16 == (2 : Int) then
 bif decide (c2 > (0 : Int)) then
 kr false p0 p1 p2 p3 p4 p5 p6 p7 p8 q0 q1 q2 q3 q4 q5 q6 q7 q8 c0 c1 c2 c3 c4 c5 c6 c7 c8
 else
 rec v14 v15 (IntKind.wrap .i64 (v16 + (1 : Int))) p0 p1 p2 p3 p4 p5 p6 p7 p8 q0 q1 q2 q3 q4 q5 q6 q7 q8 c0 c1 c2 c3 c4 c5 c6 c7 c8
 else
 none
 else
 bif v14 == (1 : Int) then
 bif v16 == (0 : Int) then
 bif decide (c3 > (0 : Int)) then
 kr false p0 p1 p2 p3 p4 p5 p6 p7 p8 q0 q1 q2 q3 q4 q5 q6 q7 q8 c0 c1 c2 c3 c4 c5 c6 c7 c8
 else
 rec v14 v15 (IntKind.wrap .i64 (v16 + (1 : Int))) p0 p1 p2 p3 p4 p5 p6 p7 p8 q0 q1 q2 q3 q4 q5 q6 q7 q8 c0 c1 c2 c3 c4 c5 c6 c7 c8
 else
 bif v16 == (1 : Int) then
 bif decide (c4 > (0 : Int)) then
 kr false p0 p1 p2 p3 p4 p5 p6 p7 p8 q0 q1 q2 q3 q4 q5 q6 q7 q8 c0 c1 c2 c3 c4 c5 c6 c7 c8
 else
 rec v14 v15 (IntKind.wrap .i64 (v16 + (1 : Int))) p0 p1 p2 p3 p4 p5 p6 p7 p8 q0 q1 q2 q3 q4 q5 q6 q7 q8 c0 c1 c2 c3 c4 c5 c6 c7 c8
 else
 bif v16 == (2 : Int) then
 bif decide (c5 > (0 : Int)) then
 kr false p0 p1 p2 p3 p4 p5 p6 p7 p8 q0 q1 q2 q3 q4 q5 q6 q7 q8 c0 c1 c2 c3 c4 c5 c6 c7 c8
 else
 rec v14 v15 (IntKind.wrap .i64 (v16 + (1 : Int))) p0 p1 p2 p3 p4 p5 p6 p7 p8 q0 q1 q2 q3 q4 q5 q6 q7 q8 c0 c1 c2 c3 c4 c5 c6 c7 c8
 else
 none
 else
 bif v14 == (2 : Int) then
 bif v16 == (0 : Int) then
 bif decide (c6 > (0 : Int)) then
 kr false p0 p1 p2 p3 p4 p5 p6 p7 p8 q0 q1 q2 q3 q4 q5 q6 q7 q8 c0 c1 c2 c3 c4 c5 c6 c7 c8
 else
 rec v14 v15 (IntKind.wrap .i64 (v16 + (1 : Int))) p0 p1 p2 p3 p4 p5 p6 p7 p8 q0 q1 q2 q3 q4 q5 q6 q7 q8 c0 c1 c2 c3 c4 c5 c6 c7 c8
 else
 bif v16 == (1 : Int) then
 bif decide (c7 > (0 : Int)) then
 kr false p0 p1 p2 p3 p4 p5 p6 p7 p8 q0 q1 q2 q3 q4 q5 q6 q7 q8 c0 c1 c2 c3 c4 c5 c6 c7 c8
 else
 rec v14 v15 (IntKind.wrap .i64 (v16 + (1 : Int))) p0 p1 p2 p3 p4 p5 p6 p7 p8 q0 q1 q2 q3 q4 q5 q6 q7 q8 c0 c1 c2 c3 c4 c5 c6 c7 c8
 else
 bif v16 == (2 : Int) then
 bif decide (c8 > (0 : Int)) then
 kr false p0 p1 p2 p3 p4 p5 p6 p7 p8 q0 q1 q2 q3 q4 q5 q6 q7 q8 c0 c1 c2 c3 c4 c5 c6 c7 c8
 else
 rec v14 v15 (IntKind.wrap .i64 (v16 + (1 : Int))) p0 p1 p2 p3 p4 p5 p6 p7 p8 q0 q1 q2 q3 q4 q5 q6 q7 q8 c0 c1 c2 c3 c4 c5 c6 c7 c8
 else
 none
 else
 none
 else
 rec v14 v15 (IntKind.wrap .i64 (v16 + (1 : Int))) p0 p1 p2 p3 p4 p5 p6 p7 p8 q0 q1 q2 q3 q4 q5 q6 q7 q8 c0 c1 c2 c3 c4 c5 c6 c7 c8
 else
 bif v16 == (1 : Int) then
 bif decide (c4 ≤ (0 : Int)) then
 bif v14 == (0 : Int) then
 bif v16 == (0 : Int) then
 bif decide (c0 > (0 : Int)) then
 kr false p0 p1 p2 p3 p4 p5 p6 p7 p8 q0 q1 q2 q3 q4 q5 q6 q7 q8 c0 c1 c2 c3 c4 c5 c6 c7 c8
 else
 rec v14 v15 (IntKind.wrap .i64 (v16 + (1 : Int))) p0 p1 p2 p3 p4 p5 p6 p7 p8 q0 q1 q2 q3 q4 q5 q6 q7 q8 c0 c1 c2 c3 c4 c5 c6 c7 c8
 else
 bif v16 == (1 : Int) then
 bif decide (c1 > (0 : Int)) then
 kr false p0 p1 p2 p3 p4 p5 p6 p7 p8 q0 q1 q2 q3 q4 q5 q6 q7 q8 c0 c1 c2 c3 c4 c5 c6 c7 c8
 else
 rec v14 v15 (IntKind.wrap .i64 (v16 + (1 : Int))) p0 p1 p2 p3 p4 p5 p6 p7 p8 q0 q1 q2 q3 q4 q5 q6 q7 q8 c0 c1 c2 c3 c4 c5 c6 c7 c8
 else
 bif v16 == (2 : Int) then
 bif decide (c2 > (0 : Int)) then
 kr false p0 p1 p2 p3 p4 p5 p6 p7 p8 q0 q1 q2 q3 q4 q5 q6 q7 q8 c0 c1 c2 c3 c4 c5 c6 c7 c8
 else
 rec v14 v15 (IntKind.wrap .i64 (v16 + (1 : Int))) p0 p1 p2 p3 p4 p5 p6 p7 p8 q0 q1 q2 q3 q4 q5 q6 q7 q8 c0 c1 c2 c3 c4 c5 c6 c7 c8
 else
 none
 else
 bif v14 == (1 : Int) then
 bif v16 == (0 : Int) then
 bif decide (c3 > (0 : Int)) then
 kr false p0 p1 p2 p3 p4 p5 p6 p7 p8 q0 q1 q2 q3 q4 q5 q6 q7 q8 c0 c1 c2 c3 c4 c5 c6 c7 c8
 else
 rec v14 v15 (IntKind.wrap .i64 (v16 + (1 : Int))) p0 p1 p2 p3 p4 p5 p6 p7 p8 q0 q1 q2 q3 q4 q5 q6 q7 q8 c0 c1 c2 c3 c4 c5 c6 c7 c8
 else
 bif v16 == (1 : Int) then
 bif decide (c4 > (0 : Int)) then
 kr false p0 p1 p2 p3 p4 p5 p6 p7 p8 q0 q1 q2 q3 q4 q5 q6 q7 q8 c0 c1 c2 c3 c4 c5 c6 c7 c8
 else
 rec v14 v15 (IntKind.wrap .i64 (v16 + (1 : Int))) p0 p1 p2 p3 p4 p5 p6 p7 p8 q0 q1 q2 q3 q4 q5 q6 q7 q8 c0 c1 c2 c3 c4 c5 c6 c7 c8
 else
 bif v16 == (2 : Int) then
 bif decide (c5 > (0 : Int)) then
 kr false p0 p1 p2 p3 p4 p5 p6 p7 p8 q0 q1 q2 q3 q4 q5 q6 q7 q8 c0 c1 c2 c3 c4 c5 c6 c7 c8
 else
 rec v14 v15 (IntKind.wrap .i64 (v16 + (1 : Int))) p0 p1 p2 p3 p4 p5 p6 p7 p8 q0 q1 q2 q3 q4 q5 q6 q7 q8 c0 c1 c2 c3 c4 c5 c6 c7 c8
 else
 none
 else
 bif v14 == (2 : Int) then
 bif v16 == (0 : Int) then
 bif decide (c6 > (0 : Int)) then
 kr false p0 p1 p2 p3 p4 p5 p6 p7 p8 q0 q1 q2 q3 q4 q5 q6 q7 q8 c0 c1 c2 c3 c4 c5 c6 c7 c8
 else
 rec v14 v15 (IntKind.wrap .i64 (v16 + (1 : Int))) p0 p1 p2 p3 p4 p5 p6 p7 p8 q0 q1 q2 q3 q4 q5 q6 q7 q8 c0 c1 c2 c3 c4 c5 c6 c7 c8
 else
 bif v16 == (1 : Int) then
 bif decide (c7 > (0 : Int)) then
 kr false p0 p1 p2 p3 p4 p5 p6 p7 p8 q0 q1 q2 q3 q4 q5 q6 q7 q8 c0 c1 c2 c3 c4 c5 c6 c7 c8
 else
 rec v14 v15 (IntKind.wrap .i64 (v16 + (1 : Int))) p0 p1 p2 p3 p4 p5 p6 p7 p8 q0 q1 q2 q3 q4 q5 q6 q7 q8 c0 c1 c2 c3 c4 c5 c6 c7 c8
 else
 bif v16 == (2 : Int) then
 bif decide (c8 > (0 : Int)) then
 kr false p0 p1 p2 p3 p4 p5 p6 p7 p8 q0 q1 q2 q3 q4 q5 q6 q7 q8 c0 c1 c2 c3 c4 c5 c6 c7 c8
 else
 rec v14 v15 (IntKind.wrap .i64 (v16 + (1 : Int))) p0 p1 p2 p3 p4 p5 p6 p7 p8 q0 q1 q2 q3 q4 q5 q6 q7 q8 c0 c1 c2 c3 c4 c5 c6 c7 c8
 else
 none
 else
 none
 else
 rec v14 v15 (IntKind.wrap .i64 (v16 + (1 : Int))) p0 p1 p2 p3 p4 p5 p6 p7 p8 q0 q1 q2 q3 q4 q5 q6 q7 q8 c0 c1 c2 c3 c4 c5 c6 c7 c8
 else
 bif v16 == (2 : Int) then
 bif decide (c5 ≤ (0 : Int)) then
 bif v14 == (0 : Int) then
 bif v16 == (0 : Int) then
 bif decide (c0 > (0 : Int)) then
 kr false p0 p1 p2 p3 p4 p5 p6 p7 p8 q0 q1 q2 q3 q4 q5 q6 q7 q8 c0 c1 c2 c3 c4 c5 c6 c7 c8
 else
 rec v14 v15 (IntKind.wrap .i64 (v16 + (1 : Int))) p0 p1 p2 p3 p4 p5 p6 p7 p8 q0 q1 q2 q3 q4 q5 q6 q7 q8 c0 c1 c2 c3 c4 c5 c6 c7 c8
 else
 bif v16 == (1 : Int) then
 bif decide (c1 > (0 : Int)) then
 kr false p0 p1 p2 p3 p4 p5 p6 p7 p8 q0 q1 q2 q3 q4 q5 q6 q7 q8 c0 c1 c2 c3 c4 c5 c6 c7 c8
 else
 rec v14 v15 (IntKind.wrap .i64 (v16 + (1 : Int))) p0 p1 p2 p3 p4 p5 p6 p7 p8 q0 q1 q2 q3 q4 q5 q6 q7 q8 c0 c1 c2 c3 c4 c5 c6 c7 c8
 else
 bif v16 == (2 : Int) then
 bif decide (c2 > (0 : Int)) then
 kr false p0 p1 p2 p3 p4 p5 p6 p7 p8 q0 q1 q2 q3 q4 q5 q6 q7 q8 c0 c1 c2 c3 c4 c5 c6 c7 c8
 else
 rec v14 v15 (IntKind.wrap .i64 (v16 + (1 : Int))) p0 p1 p2 p3 p4 p5 p6 p7 p8 q0 q1 q2 q3 q4 q5 q6 q7 q8 c0 c1 c2 c3 c4 c5 c6 c7 c8
 else
 none
 else
 bif v14 == (1 : Int) then
 bif v16 == (0 : Int) then
 bif decide (c3 > (0 : Int)) then
 kr false p0 p1 p2 p3 p4 p5 p6 p7 p8 q0 q1 q2 q3 q4 q5 q6 q7 q8 c0 c1 c2 c3 c4 c5 c6 c7 c8
 else
 rec v14 v15 (IntKind.wrap .i64 (v16 + (1 : Int))) p0 p1 p2 p3 p4 p5 p6 p7 p8 q0 q1 q2 q3 q4 q5 q6 q7 q8 c0 c1 c2 c3 c4 c5 c6 c7 c8
 else
 bif v16 == (1 : Int) then
 bif decide (c4 > (0 : Int)) then
 kr false p0 p1 p2 p3 p4 p5 p6 p7 p8 q0 q1 q2 q3 q4 q5 q6 q7 q8 c0 c1 c2 c3 c4 c5 c6 c7 c8
 else
 rec v14 v15 (IntKind.wrap .i64 (v16 + (1 : Int))) p0 p1 p2 p3 p4 p5 p6 p7 p8 q0 q1 q2 q3 q4 q5 q6 q7 q8 c0 c1 c2 c3 c4 c5 c6 c7 c8
 else
 bif v16 == (2 : Int) then
 bif decide (c5 > (0 : Int)) then
 kr false p0 p1 p2 p3 p4 p5 p6 p7 p8 q0 q1 q2 q3 q4 q5 q6 q7 q8 c0 c1 c2 c3 c4 c5 c6 c7 c8
 else
 rec v14 v15 (IntKind.wrap .i64 (v16 + (1 : Int))) p0 p1 p2 p3 p4 p5 p6 p7 p8 q0 q1 q2 q3 q4 q5 q6 q7 q8 c0 c1 c2 c3 c4 c5 c6 c7 c8
 else
 none
 else
 bif v14 == (2 : Int) then
 bif v16 == (0 : Int) then
 bif decide (c6 > (0 : Int)) then
 kr false p0 p1 p2 p3 p4 p5 p6 p7 p8 q0 q1 q2 q3 q4 q5 q6 q7 q8 c0 c1 c2 c3 c4 c5 c6 c7 c8
 else
 rec v14 v15 (IntKind.wrap .i64 (v16 + (1 : Int))) p0 p1 p2 p3 p4 p5 p6 p7 p8 q0 q1 q2 q3 q4 q5 q6 q7 q8 c0 c1 c2 c3 c4 c5 c6 c7 c8
 else
 bif v16 == (1 : Int) then
 bif decide (c7 > (0 : Int)) then
 kr false p0 p1 p2 p3 p4 p5 p6 p7 p8 q0 q1 q2 q3 q4 q5 q6 q7 q8 c0 c1 c2 c3 c4 c5 c6 c7 c8
 else
 rec v14 v15 (IntKind.wrap .i64 (v16 + (1 : Int))) p0 p1 p2 p3 p4 p5 p6 p7 p8 q0 q1 q2 q3 q4 q5 q6 q7 q8 c0 c1 c2 c3 c4 c5 c6 c7 c8
 else
 bif v16 == (2 : Int) then
 bif decide (c8 > (0 : Int)) then
 kr false p0 p1 p2 p3 p4 p5 p6 p7 p8 q0 q1 q2 q3 q4 q5 q6 q7 q8 c0 c1 c2 c3 c4 c5 c6 c7 c8
 else
 rec v14 v15 (IntKind.wrap .i64 (v16 + (1 : Int))) p0 p1 p2 p3 p4 p5 p6 p7 p8 q0 q1 q2 q3 q4 q5 q6 q7 q8 c0 c1 c2 c3 c4 c5 c6 c7 c8
 else
 none
 else
 none
 else
 rec v14 v15 (IntKind.wrap .i64 (v16 + (1 : Int))) p0 p1 p2 p3 p4 p5 p6 p7 p8 q0 q1 q2 q3 q4 q5 q6 q7 q8 c0 c1 c2 c3 c4 c5 c6 c7 c8
 else
 none
 else
 bif v15 == (2 : Int) then
 bif v16 == (0 : Int) then
 bif decide (c6 ≤ (0 : Int)) then
 bif v14 == (0 : Int) then
 bif v16 == (0 : Int) then
 bif decide (c0 > (0 : Int)) then
 kr false p0 p1 p2 p3 p4 p5 p6 p7 p8 q0 q1 q2 q3 q4 q5 q6 q7 q8 c0 c1 c2 c3 c4 c5 c6 c7 c8
 else
 rec v14 v15 (IntKind.wrap .i64 (v16 + (1 : Int))) p0 p1 p2 p3 p4 p5 p6 p7 p8 q0 q1 q2 q3 q4 q5 q6 q7 q8 c0 c1 c2 c3 c4 c5 c6 c7 c8
 else
 bif v16 == (1 : Int) then
 bif decide (c1 > (0 : Int)) then
 kr false p0 p1 p2 p3 p4 p5 p6 p7 p8 q0 q1 q2 q3 q4 q5 q6 q7 q8 c0 c1 c2 c3 c4 c5 c6 c7 c8
 else
 rec v14 v15 (IntKind.wrap .i64 (v16 + (1 : Int))) p0 p1 p2 p3 p4 p5 p6 p7 p8 q0 q1 q2 q3 q4 q5 q6 q7 q8 c0 c1 c2 c3 c4 c5 c6 c7 c8
 else
 bif v16 == (2 : Int) then
 bif decide (c2 > (0 : Int)) then
 kr false p0 p1 p2 p3 p4 p5 p6 p7 p8 q0 q1 q2 q3 q4 q5 q6 q7 q8 c0 c1 c2 c3 c4 c5 c6 c7 c8
 else
 rec v14 v15 (IntKind.wrap .i64 (v16 + (1 : Int))) p0 p1 p2 p3 p4 p5 p6 p7 p8 q0 q1 q2 q3 q4 q5 q6 q7 q8 c0 c1 c2 c3 c4 c5 c6 c7 c8
 else
 none
 else
 bif v14 == (1 : Int) then
 bif v16 == (0 : Int) then
 bif decide (c3 > (0 : Int)) then
 kr false p0 p1 p2 p3 p4 p5 p6 p7 p8 q0 q1 q2 q3 q4 q5 q6 q7 q8 c0 c1 c2 c3 c4 c5 c6 c7 c8
 else
 rec v14 v15 (IntKind.wrap .i64 (v16 + (1 : Int))) p0 p1 p2 p3 p4 p5 p6 p7 p8 q0 q1 q2 q3 q4 q5 q6 q7 q8 c0 c1 c2 c3 c4 c5 c6 c7 c8
 else
 bif v16 == (1 : Int) then
 bif decide (c4 > (0 : Int)) then
 kr false p0 p1 p2 p3 p4 p5 p6 p7 p8 q0 q1 q2 q3 q4 q5 q6 q7 q8 c0 c1 c2 c3 c4 c5 c6 c7 c8
 else
 rec v14 v15 (IntKind.wrap .i64 (v16 + (1 : Int))) p0 p1 p2 p3 p4 p5 p6 p7 p8 q0 q1 q2 q3 q4 q5 q6 q7 q8 c0 c1 c2 c3 c4 c5 c6 c7 c8
 else
 bif v16 == (2 : Int) then
 bif decide (c5 > (0 : Int)) then
 kr false p0 p1 p2 p3 p4 p5 p6 p7 p8 q0 q1 q2 q3 q4 q5 q6 q7 q8 c0 c1 c2 c3 c4 c5 c6 c7 c8
 else
 rec v14 v15 (IntKind.wrap .i64 (v16 + (1 : Int))) p0 p1 p2 p3 p4 p5 p6 p7 p8 q0 q1 q2 q3 q4 q5 q6 q7 q8 c0 c1 c2 c3 c4 c5 c6 c7 c8
 else
 none
 else
 bif v14 == (2 : Int) then
 bif v16 == (0 : Int) then
 bif decide (c6 > (0 : Int)) then
 kr false p0 p1 p2 p3 p4 p5 p6 p7 p8 q0 q1 q2 q3 q4 q5 q6 q7 q8 c0 c1 c2 c3 c4 c5 c6 c7 c8
 else
 rec v14 v15 (IntKind.wrap .i64 (v16 + (1 : Int))) p0 p1 p2 p3 p4 p5 p6 p7 p8 q0 q1 q2 q3 q4 q5 q6 q7 q8 c0 c1 c2 c3 c4 c5 c6 c7 c8
 else
 bif v16 == (1 : Int) then
 bif decide (c7 > (0 : Int)) then
 kr false p0 p1 p2 p3 p4 p5 p6 p7 p8 q0 q1 q2 q3 q4 q5 q6 q7 q8 c0 c1 c2 c3 c4 c5 c6 c7 c8
 else
 rec v14 v15 (IntKind.wrap .i64 (v16 + (1 : Int))) p0 p1 p2 p3 p4 p5 p6 p7 p8 q0 q1 q2 q3 q4 q5 q6 q7 q8 c0 c1 c2 c3 c4 c5 c6 c7 c8
 else
 bif v16 == (2 : Int) then
 bif decide (c8 > (0 : Int)) then
 kr false p0 p1 p2 p3 p4 p5 p6 p7 p8 q0 q1 q2 q3 q4 q5 q6 q7 q8 c0 c1 c2 c3 c4 c5 c6 c7 c8
 else
 rec v14 v15 (IntKind.wrap .i64 (v16 + (1 : Int))) p0 p1 p2 p3 p4 p5 p6 p7 p8 q0 q1 q2 q3 q4 q5 q6 q7 q8 c0 c1 c2 c3 c4 c5 c6 c7 c8
 else
 none
 else
 none
 else
 rec v14 v15 (IntKind.wrap .i64 (v16 + (1 : Int))) p0 p1 p2 p3 p4 p5 p6 p7 p8 q0 q1 q2 q3 q4 q5 q6 q7 q8 c0 c1 c2 c3 c4 c5 c6 c7 c8
 else
 bif v16 == (1 : Int) then
 bif decide (c7 ≤ (0 : Int)) then
 bif v14 == (0 : Int) then
 bif v16 == (0 : Int) then
 bif decide (c0 > (0 : Int)) then
 kr false p0 p1 p2 p3 p4 p5 p6 p7 p8 q0 q1 q2 q3 q4 q5 q6 q7 q8 c0 c1 c2 c3 c4 c5 c6 c7 c8
 else
 rec v14 v15 (IntKind.wrap .i64 (v16 + (1 : Int))) p0 p1 p2 p3 p4 p5 p6 p7 p8 q0 q1 q2 q3 q4 q5 q6 q7 q8 c0 c1 c2 c3 c4 c5 c6 c7 c8
 else
 bif v16 == (1 : Int) then
 bif decide (c1 > (0 : Int)) then
 kr false p0 p1 p2 p3 p4 p5 p6 p7 p8 q0 q1 q2 q3 q4 q5 q6 q7 q8 c0 c1 c2 c3 c4 c5 c6 c7 c8
 else
 rec v14 v15 (IntKind.wrap .i64 (v16 + (1 : Int))) p0 p1 p2 p3 p4 p5 p6 p7 p8 q0 q1 q2 q3 q4 q5 q6 q7 q8 c0 c1 c2 c3 c4 c5 c6 c7 c8
 else
 bif v16 == (2 : Int) then
 bif decide (c2 > (0 : Int)) then
 kr false p0 p1 p2 p3 p4 p5 p6 p7 p8 q0 q1 q2 q3 q4 q5 q6 q7 q8 c0 c1 c2 c3 c4 c5 c6 c7 c8
 else
 rec v14 v15 (IntKind.wrap .i64 (v16 + (1 : Int))) p0 p1 p2 p3 p4 p5 p6 p7 p8 q0 q1 q2 q3 q4 q5 q6 q7 q8 c0 c1 c2 c3 c4 c5 c6 c7 c8
 else
 none
 else
 bif v14 == (1 : Int) then
 bif v16 == (0 : Int) then
 bif decide (c3 > (0 : Int)) then
 kr false p0 p1 p2 p3 p4 p5 p6 p7 p8 q0 q1 q2 q3 q4 q5 q6 q7 q8 c0 c1 c2 c3 c4 c5 c6 c7 c8
 else
 rec v14 v15 (IntKind.wrap .i64 (v16 + (1 : Int))) p0 p1 p2 p3 p4 p5 p6 p7 p8 q0 q1 q2 q3 q4 q5 q6 q7 q8 c0 c1 c2 c3 c4 c5 c6 c7 c8
 else
 bif v16 == (1 : Int) then
 bif decide (c4 > (0 : Int)) then
 kr false p0 p1 p2 p3 p4 p5 p6 p7 p8 q0 q1 q2 q3 q4 q5 q6 q7 q8 c0 c1 c2 c3 c4 c5 c6 c7 c8
 else
 rec v14 v15 (IntKind.wrap .i64 (v16 + (1 : Int))) p0 p1 p2 p3 p4 p5 p6 p7 p8 q0 q1 q2 q3 q4 q5 q6 q7 q8 c0 c1 c2 c3 c4 c5 c6 c7 c8
 else
 bif v16 == (2 : Int) then
 bif decide (c5 > (0 : Int)) then
 kr false p0 p1 p2 p3 p4 p5 p6 p7 p8 q0 q1 q2 q3 q4 q5 q6 q7 q8 c0 c1 c2 c3 c4 c5 c6 c7 c8
 else
 rec v14 v15 (IntKind.wrap .i64 (v16 + (1 : Int))) p0 p1 p2 p3 p4 p5 p6 p7 p8 q0 q1 q2 q3 q4 q5 q6 q7 q8 c0 c1 c2 c3 c4 c5 c6 c7 c8
 else
 none
 else
 bif v14 == (2 : Int) then
 bif v16 == (0 : Int) then
 bif decide (c6 > (0 : Int)) then
 kr false p0 p1 p2 p3 p4 p5 p6 p7 p8 q0 q1 q2 q3 q4 q5 q6 q7 q8 c0 c1 c2 c3 c4 c5 c6 c7 c8
 else
 rec v14 v15 (IntKind.wrap .i64 (v16 + (1 : Int))) p0 p1 p2 p3 p4 p5 p6 p7 p8 q0 q1 q2 q3 q4 q5 q6 q7 q8 c0 c1 c2 c3 c4 c5 c6 c7 c8
 else
 bif v16 == (1 : Int) then
 bif decide (c7 > (0 : Int)) then
 kr false p0 p1 p2 p3 p4 p5 p6 p7 p8 q0 q1 q2 q3 q4 q5 q6 q7 q8 c0 c1 c2 c3 c4 c5 c6 c7 c8
 else
 rec v14 v15 (IntKind.wrap .i64 (v16 + (1 : Int))) p0 p1 p2 p3 p4 p5 p6 p7 p8 q0 q1 q2 q3 q4 q5 q6 q7 q8 c0 c1 c2 c3 c4 c5 c6 c7 c8
 else
 bif v16 == (2 : Int) then
 bif decide (c8 > (0 : Int)) then
 kr false p0 p1 p2 p3 p4 p5 p6 p7 p8 q0 q1 q2 q3 q4 q5 q6 q7 q8 c0 c1 c2 c3 c4 c5 c6 c7 c8
 else
 rec v14 v15 (IntKind.wrap .i64 (v16 + (1 : Int))) p0 p1 p2 p3 p4 p5 p6 p7 p8 q0 q1 q2 q3 q4 q5 q6 q7 q8 c0 c1 c2 c3 c4 c5 c6 c7 c8
 else
 none
 else
 none
 else
 rec v14 v15 (IntKind.wrap .i64 (v16 + (1 : Int))) p0 p1 p2 p3 p4 p5 p6 p7 p8 q0 q1 q2 q3 q4 q5 q6 q7 q8 c0 c1 c2 c3 c4 c5 c6 c7 c8
 else
 bif v16 == (2 : Int) then
 bif decide (c8 ≤ (0 : Int)) then
 bif v14 == (0 : Int) then
 bif v16 == (0 : Int) then
 bif decide (c0 > (0 : Int)) then
 kr false p0 p1 p2 p3 p4 p5 p6 p7 p8 q0 q1 q2 q3 q4 q5 q6 q7 q8 c0 c1 c2 c3 c4 c5 c6 c7 c8
 else
 rec v14 v15 (IntKind.wrap .i64 (v16 + (1 : Int))) p0 p1 p2 p3 p4 p5 p6 p7 p8 q0 q1 q2 q3 q4 q5 q6 q7 q8 c0 c1 c2 c3 c4 c5 c6 c7 c8
 else
 bif v16 == (1 : Int) then
 bif decide (c1 > (0 : Int)) then
 kr false p0 p1 p2 p3 p4 p5 p6 p7 p8 q0 q1 q2 q3 q4 q5 q6 q7 q8 c0 c1 c2 c3 c4 c5 c6 c7 c8
 else
 rec v14 v15 (IntKind.wrap .i64 (v16 + (1 : Int))) p0 p1 p2 p3 p4 p5 p6 p7 p8 q0 q1 q2 q3 q4 q5 q6 q7 q8 c0 c1 c2 c3 c4 c5 c6 c7 c8
 else
 bif v16 == (2 : Int) then
 bif decide (c2 > (0 : Int)) then
 kr false p0 p1 p2 p3 p4 p5 p6 p7 p8 q0 q1 q2 q3 q4 q5 q6 q7 q8 c0 c1 c2 c3 c4 c5 c6 c7 c8
 else
 rec v14 v15 (IntKind.wrap .i64 (v16 + (1 : Int))) p0 p1 p2 p3 p4 p5 p6 p7 p8 q0 q1 q2 q3 q4 q5 q6 q7 q8 c0 c1 c2 c3 c4 c5 c6 c7 c8
 else
 none
 else
 bif v14 == (1 : Int) then
 bif v16 == (0 : Int) then
 bif decide (c3 > (0 : Int)) then
 kr false p0 p1 p2 p3 p4 p5 p6 p7 p8 q0 q1 q2 q3 q4 q5 q6 q7 q8 c0 c1 c2 c3 c4 c5 c6 c7 c8
 else
 rec v14 v15 (IntKind.wrap .i64 (v16 + (1 : Int))) p0 p1 p2 p3 p4 p5 p6 p7 p8 q0 q1 q2 q3 q4 q5 q6 q7 q8 c0 c1 c2 c3 c4 c5 c6 c7 c8
 else
 bif v16 == (1 : Int) then
 bif decide (c4 > (0 : Int)) then
 kr false p0 p1 p2 p3 p4 p5 p6 p7 p8 q0 q1 q2 q3 q4 q5 q6 q7 q8 c0 c1 c2 c3 c4 c5 c6 c7 c8
 else
 rec v14 v15 (IntKind.wrap .i64 (v16 + (1 : Int))) p0 p1 p2 p3 p4 p5 p6 p7 p8 q0 q1 q2 q3 q4 q5 q6 q7 q8 c0 c1 c2 c3 c4 c5 c6 c7 c8
 else
 bif v16 == (2 : Int) then
 bif decide (c5 > (0 : Int)) then
 kr false p0 p1 p2 p3 p4 p5 p6 p7 p8 q0 q1 q2 q3 q4 q5 q6 q7 q8 c0 c1 c2 c3 c4 c5 c6 c7 c8
 else
 rec v14 v15 (IntKind.wrap .i64 (v16 + (1 : Int))) p0 p1 p2 p3 p4 p5 p6 p7 p8 q0 q1 q2 q3 q4 q5 q6 q7 q8 c0 c1 c2 c3 c4 c5 c6 c7 c8
 else
 none
 else
 bif v14 == (2 : Int) then
 bif v16 == (0 : Int) then
 bif decide (c6 > (0 : Int)) then
 kr false p0 p1 p2 p3 p4 p5 p6 p7 p8 q0 q1 q2 q3 q4 q5 q6 q7 q8 c0 c1 c2 c3 c4 c5 c6 c7 c8
 else
 rec v14 v15 (IntKind.wrap .i64 (v16 + (1 : Int))) p0 p1 p2 p3 p4 p5 p6 p7 p8 q0 q1 q2 q3 q4 q5 q6 q7 q8 c0 c1 c2 c3 c4 c5 c6 c7 c8
 else
 bif v16 == (1 : Int) then
 bif decide (c7 > (0 : Int)) then
 kr false p0 p1 p2 p3 p4 p5 p6 p7 p8 q0 q1 q2 q3 q4 q5 q6 q7 q8 c0 c1 c2 c3 c4 c5 c6 c7 c8
 else
 rec v14 v15 (IntKind.wrap .i64 (v16 + (1 : Int))) p0 p1 p2 p3 p4 p5 p6 p7 p8 q0 q1 q2 q3 q4 q5 q6 q7 q8 c0 c1 c2 c3 c4 c5 c6 c7 c8
 else
 bif v16 == (2 : Int) then
 bif decide (c8 > (0 : Int)) then
 kr false p0 p1 p2 p3 p4 p5 p6 p7 p8 q0 q1 q2 q3 q4 q5 q6 q7 q8 c0 c1 c2 c3 c4 c5 c6 c7 c8
 else
 rec v14 v15 (IntKind.wrap .i64 (v16 + (1 : Int))) p0 p1 p2 p3 p4 p5 p6 p7 p8 q0 q1 q2 q3 q4 q5 q6 q7 q8 c0 c1 c2 c3 c4 c5 c6 c7 c8
 else
 none
 else
 none
 else
 rec v14 v15 (IntKind.wrap .i64 (v16 + (1 : Int))) p0 p1 p2 p3 p4 p5 p6 p7 p8 q0 q1 q2 q3 q4 q5 q6 q7 q8 c0 c1 c2 c3 c4 c5 c6 c7 c8
 else
 none
 else
 none
 else
 rec v14 v15 (IntKind.wrap .i64 (v16 + (1 : Int))) p0 p1 p2 p3 p4 p5 p6 p7 p8 q0 q1 q2 q3 q4 q5 q6 q7 q8 c0 c1 c2 c3 c4 c5 c6 c7 c8
 else
 bif v15 == (1 : Int) then
 bif decide (c1 ≤ (0 : Int)) then
 bif v15 == (0 : Int) then
 bif v16 == (0 : Int) then
 bif decide (c0 ≤ (0 : Int)) then
 bif v14 == (0 : Int) then
 bif v16 == (0 : Int) then
 bif decide (c0 > (0 : Int)) then
 kr false p0 p1 p2 p3 p4 p5 p6 p7 p8 q0 q1 q2 q3 q4 q5 q6 q7 q8 c0 c1 c2 c3 c4 c5 c6 c7 c8
 else
 rec v14 v15 (IntKind.wrap .i64 (v16 + (1 : Int))) p0 p1 p2 p3 p4 p5 p6 p7 p8 q0 q1 q2 q3 q4 q5 q6 q7 q8 c0 c1 c2 c3 c4 c5 c6 c7 c8
 else
 bif v16 == (1 : Int) then
 bif decide (c1 > (0 : Int)) then
 kr false p0 p1 p2 p3 p4 p5 p6 p7 p8 q0 q1 q2 q3 q4 q5 q6 q7 q8 c0 c1 c2 c3 c4 c5 c6 c7 c8
 else
 rec v14 v15 (IntKind.wrap .i64 (v16 + (1 : Int))) p0 p1 p2 p3 p4 p5 p6 p7 p8 q0 q1 q2 q3 q4 q5 q6 q7 q8 c0 c1 c2 c3 c4 c5 c6 c7 c8
 else
 bif v16 == (2 : Int) then
 bif decide (c2 > (0 : Int)) then
 kr false p0 p1 p2 p3 p4 p5 p6 p7 p8 q0 q1 q2 q3 q4 q5 q6 q7 q8 c0 c1 c2 c3 c4 c5 c6 c7 c8
 else
 rec v14 v15 (IntKind.wrap .i64 (v16 + (1 : Int))) p0 p1 p2 p3 p4 p5 p6 p7 p8 q0 q1 q2 q3 q4 q5 q6 q7 q8 c0 c1 c2 c3 c4 c5 c6 c7 c8
 else
 none
 else
 bif v14 == (1 : Int) then
 bif v16 == (0 : Int) then
 bif decide (c3 > (0 : Int)) then
 kr false p0 p1 p2 p3 p4 p5 p6 p7 p8 q0 q1 q2 q3 q4 q5 q6 q7 q8 c0 c1 c2 c3 c4 c5 c6 c7 c8
 else
 rec v14 v15 (IntKind.wrap .i64 (v16 + (1 : Int))) p0 p1 p2 p3 p4 p5 p6 p7 p8 q0 q1 q2 q3 q4 q5 q6 q7 q8 c0 c1 c2 c3 c4 c5 c6 c7 c8
 else
 bif v16 == (1 : Int) then
 bif decide (c4 > (0 : Int)) then
 kr false p0 p1 p2 p3 p4 p5 p6 p7 p8 q0 q1 q2 q3 q4 q5 q6 q7 q8 c0 c1 c2 c3 c4 c5 c6 c7 c8
 else
 rec v14 v15 (IntKind.wrap .i64 (v16 + (1 : Int))) p0 p1 p2 p3 p4 p5 p6 p7 p8 q0 q1 q2 q3 q4 q5 q6 q7 q8 c0 c1 c2 c3 c4 c5 c6 c7 c8
 else
 bif v16 == (2 : Int) then
 bif decide (c5 > (0 : Int)) then
 kr false p0 p1 p2 p3 p4 p5 p6 p7 p8 q0 q1 q2 q3 q4 q5 q6 q7 q8 c0 c1 c2 c3 c4 c5 c6 c7 c8
 else
 rec v14 v15 (IntKind.wrap .i64 (v16 + (1 : Int))) p0 p1 p2 p3 p4 p5 p6 p7 p8 q0 q1 q2 q3 q4 q5 q6 q7 q8 c0 c1 c2 c3 c4 c5 c6 c7 c8
 else
 none
 else
 bif v14 == (2 : Int) then
 bif v16 == (0 : Int) then
 bif decide (c6 > (0 : Int)) then
 kr false p0 p1 p2 p3 p4 p5 p6 p7 p8 q0 q1 q2 q3 q4 q5 q6 q7 q8 c0 c1 c2 c3 c4 c5 c6 c7 c8
 else
 rec v14 v15 (IntKind.wrap .i64 (v16 + (1 : Int))) p0 p1 p2 p3 p4 p5 p6 p7 p8 q0 q1 q2 q3 q4 q5 q6 q7 q8 c0 c1 c2 c3 c4 c5 c6 c7 c8
 else
 bif v16 == (1 : Int) then
 bif decide (c7 > (0 : Int)) then
 kr false p0 p1 p2 p3 p4 p5 p6 p7 p8 q0 q1 q2 q3 q4 q5 q6 q7 q8 c0 c1 c2 c3 c4 c5 c6 c7 c8
 else
 rec v14 v15 (IntKind.wrap .i64 (v16 + (1 : Int))) p0 p1 p2 p3 p4 p5 p6 p7 p8 q0 q1 q2 q3 q4 q5 q6 q7 q8 c0 c1 c2 c3 c4 c5 c6 c7 c8
 else
 bif v16 == (2 : Int) then
 bif decide (c8 > (0 : Int)) then
 kr false p0 p1 p2 p3 p4 p5 p6 p7 p8 q0 q1 q2 q3 q4 q5 q6 q7 q8 c0 c1 c2 c3 c4 c5 c6 c7 c8
 else
 rec v14 v15 (IntKind.wrap .i64 (v16 + (1 : Int))) p0 p1 p2 p3 p4 p5 p6 p7 p8 q0 q1 q2 q3 q4 q5 q6 q7 q8 c0 c1 c2 c3 c4 c5 c6 c7 c8
 else
 none
 else
 none
 else
 rec v14 v15 (IntKind.wrap .i64 (v16 + (1 : Int))) p0 p1 p2 p3 p4 p5 p6 p7 p8 q0 q1 q2 q3 q4 q5 q6 q7 q8 c0 c1 c2 c3 c4 c5 c6 c7 c8
 else
 bif v16 == (1 : Int) then
 bif decide (c1 ≤ (0 : Int)) then
 bif v14 == (0 : Int) then
 bif v16 == (0 : Int) then
 bif decide (c0 > (0 : Int)) then
 kr false p0 p1 p2 p3 p4 p5 p6 p7 p8 q0 q1 q2 q3 q4 q5 q6 q7 q8 c0 c1 c2 c3 c4 c5 c6 c7 c8
 else
 rec v14 v15 (IntKind.wrap .i64 (v16 + (1 : Int))) p0 p1 p2 p3 p4 p5 p6 p7 p8 q0 q1 q2 q3 q4 q5 q6 q7 q8 c0 c1 c2 c3 c4 c5 c6 c7 c8
 else
 bif v16 == (1 : Int) then
 bif decide (c1 > (0 : Int)) then
 kr false p0 p1 p2 p3 p4 p5 p6 p7 p8 q0 q1 q2 q3 q4 q5 q6 q7 q8 c0 c1 c2 c3 c4 c5 c6 c7 c8
 else
 rec v14 v15 (IntKind.wrap .i64 (v16 + (1 : Int))) p0 p1 p2 p3 p4 p5 p6 p7 p8 q0 q1 q2 q3 q4 q5 q6 q7 q8 c0 c1 c2 c3 c4 c5 c6 c7 c8
 else
 bif v16 == (2 : Int) then
 bif decide (c2 > (0 : Int)) then
 kr false p0 p1 p2 p3 p4 p5 p6 p7 p8 q0 q1 q2 q3 q4 q5 q6 q7 q8 c0 c1 c2 c3 c4 c5 c6 c7 c8
 else
 rec v14 v15 (IntKind.wrap .i64 (v16 + (1 : Int))) p0 p1 p2 p3 p4 p5 p6 p7 p8 q0 q1 q2 q3 q4 q5 q6 q7 q8 c0 c1 c2 c3 c4 c5 c6 c7 c8
 else
 none
 else
 bif v14 == (1 : Int) then
 bif v16 == (0 : Int) then
 bif decide (c3 > (0 : Int)) then
 kr false p0 p1 p2 p3 p4 p5 p6 p7 p8 q0 q1 q2 q3 q4 q5 q6 q7 q8 c0 c1 c2 c3 c4 c5 c6 c7 c8
 else
 rec v14 v15 (IntKind.wrap .i64 (v16 + (1 : Int))) p0 p1 p2 p3 p4 p5 p6 p7 p8 q0 q1 q2 q3 q4 q5 q6 q7 q8 c0 c1 c2 c3 c4 c5 c6 c7 c8
 else
 bif v16 == (1 : Int) then
 bif decide (c4 > (0 : Int)) then
 kr false p0 p1 p2 p3 p4 p5 p6 p7 p8 q0 q1 q2 q3 q4 q5 q6 q7 q8 c0 c1 c2 c3 c4 c5 c6 c7 c8
 else
 rec v14 v15 (IntKind.wrap .i64 (v16 + (1 : Int))) p0 p1 p2 p3 p4 p5 p6 p7 p8 q0 q1 q2 q3 q4 q5 q6 q7 q8 c0 c1 c2 c3 c4 c5 c6 c7 c8
 else
 bif v16 == (2 : Int) then
 bif decide (c5 > (0 : Int)) then
 kr false p0 p1 p2 p3 p4 p5 p6 p7 p8 q0 q1 q2 q3 q4 q5 q6 q7 q8 c0 c1 c2 c3 c4 c5 c6 c7 c8
 else
 rec v14 v15 (IntKind.wrap .i64 (v16 + (1 : Int))) p0 p1 p2 p3 p4 p5 p6 p7 p8 q0 q1 q2 q3 q4 q5 q6 q7 q8 c0 c1 c2 c3 c4 c5 c6 c7 c8
 else
 none
 else
 bif v14 == (2 : Int) then
 bif v16 == (0 : Int) then
 bif decide (c6 > (0 : Int)) then
 kr false p0 p1 p2 p3 p4 p5 p6 p7 p8 q0 q1 q2 q3 q4 q5 q6 q7 q8 c0 c1 c2 c3 c4 c5 c6 c7 c8
 else
 rec v14 v15 (IntKind.wrap .i64 (v16 + (1 : Int))) p0 p1 p2 p3 p4 p5 p6 p7 p8 q0 q1 q2 q3 q4 q5 q6 q7 q8 c0 c1 c2 c3 c4 c5 c6 c7 c8
 else
 bif v16 == (1 : Int) then
 bif decide (c7 > (0 : Int)) then
 kr false p0 p1 p2 p3 p4 p5 p6 p7 p8 q0 q1 q2 q3 q4 q5 q6 q7 q8 c0 c1 c2 c3 c4 c5 c6 c7 c8
 else
 rec v14 v15 (IntKind.wrap .i64 (v16 + (1 : Int))) p0 p1 p2 p3 p4 p5 p6 p7 p8 q0 q1 q2 q3 q4 q5 q6 q7 q8 c0 c1 c2 c3 c4 c5 c6 c7 c8
 else
 bif v16 == (2 : Int) then
 bif decide (c8 > (0 : Int)) then
 kr false p0 p1 p2 p3 p4 p5 p6 p7 p8 q0 q1 q2 q3 q4 q5 q6 q7 q8 c0 c1 c2 c3 c4 c5 c6 c7 c8
 else
 rec v14 v15 (IntKind.wrap .i64 (v16 + (1 : Int))) p0 p1 p2 p3 p4 p5 p6 p7 p8 q0 q1 q2 q3 q4 q5 q6 q7 q8 c0 c1 c2 c3 c4 c5 c6 c7 c8
 else
 none
 else
 none
 else
 rec v14 v15 (IntKind.wrap .i64 (v16 + (1 : Int))) p0 p1 p2 p3 p4 p5 p6 p7 p8 q0 q1 q2 q3 q4 q5 q6 q7 q8 c0 c1 c2 c3 c4 c5 c6 c7 c8
 else
 bif v16 == (2 : Int) then
 bif decide (c2 ≤ (0 : Int)) then
 bif v14 == (0 : Int) then
 bif v16 == (0 : Int) then
 bif decide (c0 > (0 : Int)) then
 kr false p0 p1 p2 p3 p4 p5 p6 p7 p8 q0 q1 q2 q3 q4 q5 q6 q7 q8 c0 c1 c2 c3 c4 c5 c6 c7 c8
 else
 rec v14 v15 (IntKind.wrap .i64 (v16 + (1 : Int))) p0 p1 p2 p3 p4 p5 p6 p7 p8 q0 q1 q2 q3 q4 q5 q6 q7 q8 c0 c1 c2 c3 c4 c5 c6 c7 c8
 else
 bif v16 == (1 : Int) then
 bif decide (c1 > (0 : Int)) then
 kr false p0 p1 p2 p3 p4 p5 p6 p7 p8 q0 q1 q2 q3 q4 q5 q6 q7 q8 c0 c1 c2 c3 c4 c5 c6 c7 c8
 else
 rec v14 v15 (IntKind.wrap .i64 (v16 + (1 : Int))) p0 p1 p2 p3 p4 p5 p6 p7 p8 q0 q1 q2 q3 q4 q5 q6 q7 q8 c0 c1 c2 c3 c4 c5 c6 c7 c8
 else
 bif v16 == (2 : Int) then
 bif decide (c2 > (0 : Int)) then
 kr false p0 p1 p2 p3 p4 p5 p6 p7 p8 q0 q1 q2 q3 q4 q5 q6 q7 q8 c0 c1 c2 c3 c4 c5 c6 c7 c8
 else
 rec v14 v15 (IntKind.wrap .i64 (v16 + (1 : Int))) p0 p1 p2 p3 p4 p5 p6 p7 p8 q0 q1 q2 q3 q4 q5 q6 q7 q8 c0 c1 c2 c3 c4 c5 c6 c7 c8
 else
 none
 else
 bif v14 == (1 : Int) then
 bif v16 == (0 : Int) then
 bif decide (c3 > (0 : Int)) then
 kr false p0 p1 p2 p3 p4 p5 p6 p7 p8 q0 q1 q2 q3 q4 q5 q6 q7 q8 c0 c1 c2 c3 c4 c5 c6 c7 c8
 else
 rec v14 v15 (IntKind.wrap .i64 (v16 + (1 : Int))) p0 p1 p2 p3 p4 p5 p6 p7 p8 q0 q1 q2 q3 q4 q5 q6 q7 q8 c0 c1 c2 c3 c4 c5 c6 c7 c8
 else
 bif v16 == (1 : Int) then
 bif decide (c4 > (0 : Int)) then
 kr false p0 p1 p2 p3 p4 p5 p6 p7 p8 q0 q1 q2 q3 q4 q5 q6 q7 q8 c0 c1 c2 c3 c4 c5 c6 c7 c8
 else
 rec v14 v15 (IntKind.wrap .i64 (v16 + (1 : Int))) p0 p1 p2 p3 p4 p5 p6 p7 p8 q0 q1 q2 q3 q4 q5 q6 q7 q8 c0 c1 c2 c3 c4 c5 c6 c7 c8
 else
 bif v16 == (2 : Int) then
 bif decide (c5 > (0 : Int)) then
 kr false p0 p1 p2 p3 p4 p5 p6 p7 p8 q0 q1 q2 q3 q4 q5 q6 q7 q8 c0 c1 c2 c3 c4 c5 c6 c7 c8
 else
 rec v14 v15 (IntKind.wrap .i64 (v16 + (1 : Int))) p0 p1 p2 p3 p4 p5 p6 p7 p8 q0 q1 q2 q3 q4 q5 q6 q7 q8 c0 c1 c2 c3 c4 c5 c6 c7 c8
 else
 none
 else
 bif v14 == (2 : Int) then
 bif v16 == (0 : Int) then
 bif decide (c6 > (0 : Int)) then
 kr false p0 p1 p2 p3 p4 p5 p6 p7 p8 q0 q1 q2 q3 q4 q5 q6 q7 q8 c0 c1 c2 c3 c4 c5 c6 c7 c8
 else
 rec v14 v15 (IntKind.wrap .i64 (v16 + (1 : Int))) p0 p1 p2 p3 p4 p5 p6 p7 p8 q0 q1 q2 q3 q4 q5 q6 q7 q8 c0 c1 c2 c3 c4 c5 c6 c7 c8
 else
 bif v16 == (1 : Int) then
 bif decide (c7 > (0 : Int)) then
 kr false p0 p1 p2 p3 p4 p5 p6 p7 p8 q0 q1 q2 q3 q4 q5 q6 q7 q8 c0 c1 c2 c3 c4 c5 c6 c7 c8
 else
 rec v14 v15 (IntKind.wrap .i64 (v16 + (1 : Int))) p0 p1 p2 p3 p4 p5 p6 p7 p8 q0 q1 q2 q3 q4 q5 q6 q7 q8 c0 c1 c2 c3 c4 c5 c6 c7 c8
 else
 bif v16 == (2 : Int) then
 bif decide (c8 > (0 : Int)) then
 kr false p0 p1 p2 p3 p4 p5 p6 p7 p8 q0 q1 q2 q3 q4 q5 q6 q7 q8 c0 c1 c2 c3 c4 c5 c6 c7 c8
 else
 rec v14 v15 (IntKind.wrap .i64 (v16 + (1 : Int))) p0 p1 p2 p3 p4 p5 p6 p7 p8 q0 q1 q2 q3 q4 q5 q6 q7 q8 c0 c1 c2 c3 c4 c5 c6 c7 c8
 else
 none
 else
 none
 else
 rec v14 v15 (IntKind.wrap .i64 (v16 + (1 : Int))) p0 p1 p2 p3 p4 p5 p6 p7 p8 q0 q1 q2 q3 q4 q5 q6 q7 q8 c0 c1 c2 c3 c4 c5 c6 c7 c8
 else
 none
 else
 bif v15 == (1 : Int) then
 bif v16 == (0 : Int) then
 bif decide (c3 ≤ (0 : Int)) then
 bif v14 == (0 : Int) then
 bif v16 == (0 : Int) then
 bif decide (c0 > (0 : Int)) then
 kr false p0 p1 p2 p3 p4 p5 p6 p7 p8 q0 q1 q2 q3 q4 q5 q6 q7 q8 c0 c1 c2 c3 c4 c5 c6 c7 c8
 else
 rec v14 v15 (IntKind.wrap .i64 (v16 + (1 : Int))) p0 p1 p2 p3 p4 p5 p6 p7 p8 q0 q1 q2 q3 q4 q5 q6 q7 q8 c0 c1 c2 c3 c4 c5 c6 c7 c8
 else
 bif v16 == (1 : Int) then
 bif decide (c1 > (0 : Int)) then
 kr false p0 p1 p2 p3 p4 p5 p6 p7 p8 q0 q1 q2 q3 q4 q5 q6 q7 q8 c0 c1 c2 c3 c4 c5 c6 c7 c8
 else
 rec v14 v15 (IntKind.wrap .i64 (v16 + (1 : Int))) p0 p1 p2 p3 p4 p5 p6 p7 p8 q0 q1 q2 q3 q4 q5 q6 q7 q8 c0 c1 c2 c3 c4 c5 c6 c7 c8
 else
 bif v16 == (2 : Int) then
 bif decide (c2 > (0 : Int)) then
 kr false p0 p1 p2 p3 p4 p5 p6 p7 p8 q0 q1 q2 q3 q4 q5 q6 q7 q8 c0 c1 c2 c3 c4 c5 c6 c7 c8
 else
 rec v14 v15 (IntKind.wrap .i64 (v16 + (1 : Int))) p0 p1 p2 p3 p4 p5 p6 p7 p8 q0 q1 q2 q3 q4 q5 q6 q7 q8 c0 c1 c2 c3 c4 c5 c6 c7 c8
 else
 none
 else
 bif v14 == (1 : Int) then
 bif v16 == (0 : Int) then
 bif decide (c3 > (0 : Int)) then
 kr false p0 p1 p2 p3 p4 p5 p6 p7 p8 q0 q1 q2 q3 q4 q5 q6 q7 q8 c0 c1 c2 c3 c4 c5 c6 c7 c8
 else
 rec v14 v15 (IntKind.wrap .i64 (v16 + (1 : Int))) p0 p1 p2 p3 p4 p5 p6 p7 p8 q0 q1 q2 q3 q4 q5 q6 q7 q8 c0 c1 c2 c3 c4 c5 c6 c7 c8
 else
 bif v16 == (1 : Int) then
 bif decide (c4 > (0 : Int)) then
 kr false p0 p1 p2 p3 p4 p5 p6 p7 p8 q0 q1 q2 q3 q4 q5 q6 q7 q8 c0 c1 c2 c3 c4 c5 c6 c7 c8
 else
 rec v14 v15 (IntKind.wrap .i64 (v16 + (1 : Int))) p0 p1 p2 p3 p4 p5 p6 p7 p8 q0 q1 q2 q3 q4 q5 q6 q7 q8 c0 c1 c2 c3 c4 c5 c6 c7 c8
 else
 bif v16 == (2 : Int) then
 bif decide (c5 > (0 : Int)) then
 kr false p0 p1 p2 p3 p4 p5 p6 p7 p8 q0 q1 q2 q3 q4 q5 q6 q7 q8 c0 c1 c2 c3 c4 c5 c6 c7 c8
 else
 rec v14 v15 (IntKind.wrap .i64 (v16 + (1 : Int))) p0 p1 p2 p3 p4 p5 p6 p7 p8 q0 q1 q2 q3 q4 q5 q6 q7 q8 c0 c1 c2 c3 c4 c5 c6 c7 c8
 else
 none
 else
 bif v14 == (2 : Int) then
 bif v16 == (0 : Int) then
 bif decide (c6 > (0 : Int)) then
 kr false p0 p1 p2 p3 p4 p5 p6 p7 p8 q0 q1 q2 q3 q4 q5 q6 q7 q8 c0 c1 c2 c3 c4 c5 c6 c7 c8
 else
 rec v14 v15 (IntKind.wrap .i64 (v16 + (1 : Int))) p0 p1 p2 p3 p4 p5 p6 p7 p8 q0 q1 q2 q3 q4 q5 q6 q7 q8 c0 c1 c2 c3 c4 c5 c6 c7 c8
 else
 bif v16 == (1 : Int) then
 bif decide (c7 > (0 : Int)) then
 kr false p0 p1 p2 p3 p4 p5 p6 p7 p8 q0 q1 q2 q3 q4 q5 q6 q7 q8 c0 c1 c2 c3 c4 c5 c6 c7 c8
 else
 rec v14 v15 (IntKind.wrap .i64 (v16 + (1 : Int))) p0 p1 p2 p3 p4 p5 p6 p7 p8 q0 q1 q2 q3 q4 q5 q6 q7 q8 c0 c1 c2 c3 c4 c5 c6 c7 c8
 else
 bif v16 == (2 : Int) then
 bif decide (c8 > (0 : Int)) then
 kr false p0 p1 p2 p3 p4 p5 p6 p7 p8 q0 q1 q2 q3 q4 q5 q6 q7 q8 c0 c1 c2 c3 c4 c5 c6 c7 c8
 else
 rec v14 v15 (IntKind.wrap .i64 (v16 + (1 : Int))) p0 p1 p2 p3 p4 p5 p6 p7 p8 q0 q1 q2 q3 q4 q5 q6 q7 q8 c0 c1 c2 c3 c4 c5 c6 c7 c8
 else
 none
 else
 none
 else
 rec v14 v15 (IntKind.wrap .i64 (v16 + (1 : Int))) p0 p1 p2 p3 p4 p5 p6 p7 p8 q0 q1 q2 q3 q4 q5 q6 q7 q8 c0 c1 c2 c3 c4 c5 c6 c7 c8
 else
 bif v16 == (1 : Int) then
 bif decide (c4 ≤ (0 : Int)) then
 bif v14 == (0 : Int) then
 bif v16 == (0 : Int) then
 bif decide (c0 > (0 : Int)) then
 kr false p0 p1 p2 p3 p4 p5 p6 p7 p8 q0 q1 q2 q3 q4 q5 q6 q7 q8 c0 c1 c2 c3 c4 c5 c6 c7 c8
 else
 rec v14 v15 (IntKind.wrap .i64 (v16 + (1 : Int))) p0 p1 p2 p3 p4 p5 p6 p7 p8 q0 q1 q2 q3 q4 q5 q6 q7 q8 c0 c1 c2 c3 c4 c5 c6 c7 c8
 else
 bif v16 == (1 : Int) then
 bif decide (c1 > (0 : Int)) then
 kr false p0 p1 p2 p3 p4 p5 p6 p7 p8 q0 q1 q2 q3 q4 q5 q6 q7 q8 c0 c1 c2 c3 c4 c5 c6 c7 c8
 else
 rec v14 v15 (IntKind.wrap .i64 (v16 + (1 : Int))) p0 p1 p2 p3 p4 p5 p6 p7 p8 q0 q1 q2 q3 q4 q5 q6 q7 q8 c0 c1 c2 c3 c4 c5 c6 c7 c8
 else
 bif v16 == (2 : Int) then
 bif decide (c2 > (0 : Int)) then
 kr false p0 p1 p2 p3 p4 p5 p6 p7 p8 q0 q1 q2 q3 q4 q5 q6 q7 q8 c0 c1 c2 c3 c4 c5 c6 c7 c8
 else
 rec v14 v15 (IntKind.wrap .i64 (v16 + (1 : Int))) p0 p1 p2 p3 p4 p5 p6 p7 p8 q0 q1 q2 q3 q4 q5 q6 q7 q8 c0 c1 c2 c3 c4 c5 c6 c7 c8
 else
 none
 else
 bif v14 == (1 : Int) then
 bif v16 == (0 : Int) then
 bif decide (c3 > (0 : Int)) then
 kr false p0 p1 p2 p3 p4 p5 p6 p7 p8 q0 q1 q2 q3 q4 q5 q6 q7 q8 c0 c1 c2 c3 c4 c5 c6 c7 c8
 else
 rec v14 v15 (IntKind.wrap .i64 (v16 + (1 : Int))) p0 p1 p2 p3 p4 p5 p6 p7 p8 q0 q1 q2 q3 q4 q5 q6 q7 q8 c0 c1 c2 c3 c4 c5 c6 c7 c8
 else
 bif v16 == (1 : Int) then
 bif decide (c4 > (0 : Int)) then
 kr false p0 p1 p2 p3 p4 p5 p6 p7 p8 q0 q1 q2 q3 q4 q5 q6 q7 q8 c0 c1 c2 c3 c4 c5 c6 c7 c8
 else
 rec v14 v15 (IntKind.wrap .i64 (v16 + (1 : Int))) p0 p1 p2 p3 p4 p5 p6 p7 p8 q0 q1 q2 q3 q4 q5 q6 q7 q8 c0 c1 c2 c3 c4 c5 c6 c7 c8
 else
 bif v16 == (2 : Int) then
 bif decide (c5 > (0 : Int)) then
 kr false p0 p1 p2 p3 p4 p5 p6 p7 p8 q0 q1 q2 q3 q4 q5 q6 q7 q8 c0 c1 c2 c3 c4 c5 c6 c7 c8
 else
 rec v14 v15 (IntKind.wrap .i64 (v16 + (1 : Int))) p0 p1 p2 p3 p4 p5 p6 p7 p8 q0 q1 q2 q3 q4 q5 q6 q7 q8 c0 c1 c2 c3 c4 c5 c6 c7 c8
 else
 none
 else
 bif v14 == (2 : Int) then
 bif v16 == (0 : Int) then
 bif decide (c6 > (0 : Int)) then
 kr false p0 p1 p2 p3 p4 p5 p6 p7 p8 q0 q1 q2 q3 q4 q5 q6 q7 q8 c0 c1 c2 c3 c4 c5 c6 c7 c8
 else
 rec v14 v15 (IntKind.wrap .i64 (v16 + (1 : Int))) p0 p1 p2 p3 p4 p5 p6 p7 p8 q0 q1 q2 q3 q4 q5 q6 q7 q8 c0 c1 c2 c3 c4 c5 c6 c7 c8
 else
 bif v16 == (1 : Int) then
 bif decide (c7 > (0 : Int)) then
 kr false p0 p1 p2 p3 p4 p5 p6 p7 p8 q0 q1 q2 q3 q4 q5 q6 q7 q8 c0 c1 c2 c3 c4 c5 c6 c7 c8
 else
 rec v14 v15 (IntKind.wrap .i64 (v16 + (1 : Int))) p0 p1 p2 p3 p4 p5 p6 p7 p8 q0 q1 q2 q3 q4 q5 q6 q7 q8 c0 c1 c2 c3 c4 c5 c6 c7 c8
 else
 bif v16 == (2 : Int) then
 bif decide (c8 > (0 : Int)) then
 kr false p0 p1 p2 p3 p4 p5 p6 p7 p8 q0 q1 q2 q3 q4 q5 q6 q7 q8 c0 c1 c2 c3 c4 c5 c6 c7 c8
 else
 rec v14 v15 (IntKind.wrap .i64 (v16 + (1 : Int))) p0 p1 p2 p3 p4 p5 p6 p7 p8 q0 q1 q2 q3 q4 q5 q6 q7 q8 c0 c1 c2 c3 c4 c5 c6 c7 c8
 else
 none
 else
 none
 else
 rec v14 v15 (IntKind.wrap .i64 (v16 + (1 : Int))) p0 p1 p2 p3 p4 p5 p6 p7 p8 q0 q1 q2 q3 q4 q5 q6 q7 q8 c0 c1 c2 c3 c4 c5 c6 c7 c8
 else
 bif v16 == (2 : Int) then
 bif decide (c5 ≤ (0 : Int)) then
 bif v14 == (0 : Int) then
 bif v16 == (0 : Int) then
 bif decide (c0 > (0 : Int)) then
 kr false p0 p1 p2 p3 p4 p5 p6 p7 p8 q0 q1 q2 q3 q4 q5 q6 q7 q8 c0 c1 c2 c3 c4 c5 c6 c7 c8
 else
 rec v14 v15 (IntKind.wrap .i64 (v16 + (1 : Int))) p0 p1 p2 p3 p4 p5 p6 p7 p8 q0 q1 q2 q3 q4 q5 q6 q7 q8 c0 c1 c2 c3 c4 c5 c6 c7 c8
 else
 bif v16 == (1 : Int) then
 bif decide (c1 > (0 : Int)) then
 kr false p0 p1 p2 p3 p4 p5 p6 p7 p8 q0 q1 q2 q3 q4 q5 q6 q7 q8 c0 c1 c2 c3 c4 c5 c6 c7 c8
 else
 rec v14 v15 (IntKind.wrap .i64 (v16 + (1 : Int))) p0 p1 p2 p3 p4 p5 p6 p7 p8 q0 q1 q2 q3 q4 q5 q6 q7 q8 c0 c1 c2 c3 c4 c5 c6 c7 c8
 else
 bif v16 == (2 : Int) then
 bif decide (c2 > (0 : Int)) then
 kr false p0 p1 p2 p3 p4 p5 p6 p7 p8 q0 q1 q2 q3 q4 q5 q6 q7 q8 c0 c1 c2 c3 c4 c5 c6 c7 c8
 else
 rec v14 v15 (IntKind.wrap .i64 (v16 + (1 : Int))) p0 p1 p2 p3 p4 p5 p6 p7 p8 q0 q1 q2 q3 q4 q5 q6 q7 q8 c0 c1 c2 c3 c4 c5 c6 c7 c8
 else
 none
 else
 bif v14 == (1 : Int) then
 bif v16 == (0 : Int) then
 bif decide (c3 > (0 : Int)) then
 kr false p0 p1 p2 p3 p4 p5 p6 p7 p8 q0 q1 q2 q3 q4 q5 q6 q7 q8 c0 c1 c2 c3 c4 c5 c6 c7 c8
 else
 rec v14 v15 (IntKind.wrap .i64 (v16 + (1 : Int))) p0 p1 p2 p3 p4 p5 p6 p7 p8 q0 q1 q2 q3 q4 q5 q6 q7 q8 c0 c1 c2 c3 c4 c5 c6 c7 c8
 else
 bif v16 == (1 : Int) then
 bif decide (c4 > (0 : Int)) then
 kr false p0 p1 p2 p3 p4 p5 p6 p7 p8 q0 q1 q2 q3 q4 q5 q6 q7 q8 c0 c1 c2 c3 c4 c5 c6 c7 c8
 else
 rec v14 v15 (IntKind.wrap .i64 (v16 + (1 : Int))) p0 p1 p2 p3 p4 p5 p6 p7 p8 q0 q1 q2 q3 q4 q5 q6 q7 q8 c0 c1 c2 c3 c4 c5 c6 c7 c8
 else
 bif v16 == (2 : Int) then
 bif decide (c5 > (0 : Int)) then
 kr false p0 p1 p2 p3 p4 p5 p6 p7 p8 q0 q1 q2 q3 q4 q5 q6 q7 q8 c0 c1 c2 c3 c4 c5 c6 c7 c8
 else
 rec v14 v15 (IntKind.wrap .i64 (v16 + (1 : Int))) p0 p1 p2 p3 p4 p5 p6 p7 p8 q0 q1 q2 q3 q4 q5 q6 q7 q8 c0 c1 c2 c3 c4 c5 c6 c7 c8
 else
 none
 else
 bif v14 == (2 : Int) then
 bif v16 == (0 : Int) then
 bif decide (c6 > (0 : Int)) then
 kr false p0 p1 p2 p3 p4 p5 p6 p7 p8 q0 q1 q2 q3 q4 q5 q6 q7 q8 c0 c1 c2 c3 c4 c5 c6 c7 c8
 else
 rec v14 v15 (IntKind.wrap .i64 (v16 + (1 : Int))) p0 p1 p2 p3 p4 p5 p6 p7 p8 q0 q1 q2 q3 q4 q5 q6 q7 q8 c0 c1 c2 c3 c4 c5 c6 c7 c8
 else
 bif v16 == (1 : Int) then
 bif decide (c7 > (0 : Int)) then
 kr false p0 p1 p2 p3 p4 p5 p6 p7 p8 q0 q1 q2 q3 q4 q5 q6 q7 q8 c0 c1 c2 c3 c4 c5 c6 c7 c8
 else
 rec v14 v15 (IntKind.wrap .i64 (v16 + (1 : Int))) p0 p1 p2 p3 p4 p5 p6 p7 p8 q0 q1 q2 q3 q4 q5 q6 q7 q8 c0 c1 c2 c3 c4 c5 c6 c7 c8
 else
 bif v16 == (2 : Int) then
 bif decide (c8 > (0 : Int)) then
 kr false p0 p1 p2 p3 p4 p5 p6 p7 p8 q0 q1 q2 q3 q4 q5 q6 q7 q8 c0 c1 c2 c3 c4 c5 c6 c7 c8
 else
 rec v14 v15 (IntKind.wrap .i64 (v16 + (1 : Int))) p0 p1 p2 p3 p4 p5 p6 p7 p8 q0 q1 q2 q3 q4 q5 q6 q7 q8 c0 c1 c2 c3 c4 c5 c6 c7 c8
 else
 none
 else
 none
 else
 rec v14 v15 (IntKind.wrap .i64 (v16 + (1 : Int))) p0 p1 p2 p3 p4 p5 p6 p7 p8 q0 q1 q2 q3 q4 q5 q6 q7 q8 c0 c1 c2 c3 c4 c5 c6 c7 c8
 else
 none
 else
 bif v15 == (2 : Int) then
 bif v16 == (0 : Int) then
 bif decide (c6 ≤ (0 : Int)) then
 bif v14 == (0 : Int) then
 bif v16 == (0 : Int) then
 bif decide (c0 > (0 : Int)) then
 kr false p0 p1 p2 p3 p4 p5 p6 p7 p8 q0 q1 q2 q3 q4 q5 q6 q7 q8 c0 c1 c2 c3 c4 c5 c6 c7 c8
 else
 rec v14 v15 (IntKind.wrap .i64 (v16 + (1 : Int))) p0 p1 p2 p3 p4 p5 p6 p7 p8 q0 q1 q2 q3 q4 q5 q6 q7 q8 c0 c1 c2 c3 c4 c5 c6 c7 c8
 else
 bif v16 == (1 : Int) then
 bif decide (c1 > (0 : Int)) then
 kr false p0 p1 p2 p3 p4 p5 p6 p7 p8 q0 q1 q2 q3 q4 q5 q6 q7 q8 c0 c1 c2 c3 c4 c5 c6 c7 c8
 else
 rec v14 v15 (IntKind.wrap .i64 (v16 + (1 : Int))) p0 p1 p2 p3 p4 p5 p6 p7 p8 q0 q1 q2 q3 q4 q5 q6 q7 q8 c0 c1 c2 c3 c4 c5 c6 c7 c8
 else
 bif v16 == (2 : Int) then
 bif decide (c2 > (0 : Int)) then
 kr false p0 p1 p2 p3 p4 p5 p6 p7 p8 q0 q1 q2 q3 q4 q5 q6 q7 q8 c0 c1 c2 c3 c4 c5 c6 c7 c8
 else
 rec v14 v15 (IntKind.wrap .i64 (v16 + (1 : Int))) p0 p1 p2 p3 p4 p5 p6 p7 p8 q0 q1 q2 q3 q4 q5 q6 q7 q8 c0 c1 c2 c3 c4 c5 c6 c7 c8
 else
 none
 else
 bif v14 == (1 : Int) then
 bif v16 == (0 : Int) then
 bif decide (c3 > (0 : Int)) then
 kr false p0 p1 p2 p3 p4 p5 p6 p7 p8 q0 q1 q2 q3 q4 q5 q6 q7 q8 c0 c1 c2 c3 c4 c5 c6 c7 c8
 else
 rec v14 v15 (IntKind.wrap .i64 (v16 + (1 : Int))) p0 p1 p2 p3 p4 p5 p6 p7 p8 q0 q1 q2 q3 q4 q5 q6 q7 q8 c0 c1 c2 c3 c4 c5 c6 c7 c8
 else
 bif v16 == (1 : Int) then
 bif decide (c4 > (0 : Int)) then
 kr false p0 p1 p2 p3 p4 p5 p6 p7 p8 q0 q1 q2 q3 q4 q5 q6 q7 q8 c0 c1 c2 c3 c4 c5 c6 c7 c8
 else
 rec v14 v15 (IntKind.wrap .i64 (v16 + (1 : Int))) p0 p1 p2 p3 p4 p5 p6 p7 p8 q0 q1 q2 q3 q4 q5 q6 q7 q8 c0 c1 c2 c3 c4 c5 c6 c7 c8
 else
 bif v16 == (2 : Int) then
 bif decide (c5 > (0 : Int)) then
 kr false p0 p1 p2 p3 p4 p5 p6 p7 p8 q0 q1 q2 q3 q4 q5 q6 q7 q8 c0 c1 c2 c3 c4 c5 c6 c7 c8
 else
 rec v14 v15 (IntKind.wrap .i64 (v16 + (1 : Int))) p0 p1 p2 p3 p4 p5 p6 p7 p8 q0 q1 q2 q3 q4 q5 q6 q7 q8 c0 c1 c2 c3 c4 c5 c6 c7 c8
 else
 none
 else
 bif v14 == (2 : Int) then
 bif v16 == (0 : Int) then
 bif decide (c6 > (0 : Int)) then
 kr false p0 p1 p2 p3 p4 p5 p6 p7 p8 q0 q1 q2 q3 q4 q5 q6 q7 q8 c0 c1 c2 c3 c4 c5 c6 c7 c8
 else
 rec v14 v15 (IntKind.wrap .i64 (v16 + (1 : Int))) p0 p1 p2 p3 p4 p5 p6 p7 p8 q0 q1 q2 q3 q4 q5 q6 q7 q8 c0 c1 c2 c3 c4 c5 c6 c7 c8
 else
 bif v16 == (1 : Int) then
 bif decide (c7 > (0 : Int)) then
 kr false p0 p1 p2 p3 p4 p5 p6 p7 p8 q0 q1 q2 q3 q4 q5 q6 q7 q8 c0 c1 c2 c3 c4 c5 c6 c7 c8
 else
 rec v14 v15 (IntKind.wrap .i64 (v16 + (1 : Int))) p0 p1 p2 p3 p4 p5 p6 p7 p8 q0 q1 q2 q3 q4 q5 q6 q7 q8 c0 c1 c2 c3 c4 c5 c6 c7 c8
 else
 bif v16 == (2 : Int) then
 bif decide (c8 > (0 : Int)) then
 kr false p0 p1 p2 p3 p4 p5 p6 p7 p8 q0 q1 q2 q3 q4 q5 q6 q7 q8 c0 c1 c2 c3 c4 c5 c6 c7 c8
 else
 rec v14 v15 (IntKind.wrap .i64 (v16 + (1 : Int))) p0 p1 p2 p3 p4 p5 p6 p7 p8 q0 q1 q2 q3 q4 q5 q6 q7 q8 c0 c1 c2 c3 c4 c5 c6 c7 c8
 else
 none
 else
 none
 else
 rec v14 v15 (IntKind.wrap .i64 (v16 + (1 : Int))) p0 p1 p2 p3 p4 p5 p6 p7 p8 q0 q1 q2 q3 q4 q5 q6 q7 q8 c0 c1 c2 c3 c4 c5 c6 c7 c8
 else
 bif v16 == (1 : Int) then
 bif decide (c7 ≤ (0 : Int)) then
 bif v14 == (0 : Int) then
 bif v16 == (0 : Int) then
 bif decide (c0 > (0 : Int)) then
 kr false p0 p1 p2 p3 p4 p5 p6 p7 p8 q0 q1 q2 q3 q4 q5 q6 q7 q8 c0 c1 c2 c3 c4 c5 c6 c7 c8
 else
 rec v14 v15 (IntKind.wrap .i64 (v16 + (1 : Int))) p0 p1 p2 p3 p4 p5 p6 p7 p8 q0 q1 q2 q3 q4 q5 q6 q7 q8 c0 c1 c2 c3 c4 c5 c6 c7 c8
 else
 bif v16 == (1 : Int) then
 bif decide (c1 > (0 : Int)) then
 kr false p0 p1 p2 p3 p4 p5 p6 p7 p8 q0 q1 q2 q3 q4 q5 q6 q7 q8 c0 c1 c2 c3 c4 c5 c6 c7 c8
 else
 rec v14 v15 (IntKind.wrap .i64 (v16 + (1 : Int))) p0 p1 p2 p3 p4 p5 p6 p7 p8 q0 q1 q2 q3 q4 q5 q6 q7 q8 c0 c1 c2 c3 c4 c5 c6 c7 c8
 else
 bif v16 == (2 : Int) then
 bif decide (c2 > (0 : Int)) then
 kr false p0 p1 p2 p3 p4 p5 p6 p7 p8 q0 q1 q2 q3 q4 q5 q6 q7 q8 c0 c1 c2 c3 c4 c5 c6 c7 c8
 else
 rec v14 v15 (IntKind.wrap .i64 (v16 + (1 : Int))) p0 p1 p2 p3 p4 p5 p6 p7 p8 q0 q1 q2 q3 q4 q5 q6 q7 q8 c0 c1 c2 c3 c4 c5 c6 c7 c8
 else
 none
 else
 bif v14 == (1 : Int) then
 bif v16 == (0 : Int) then
 bif decide (c3 > (0 : Int)) then
 kr false p0 p1 p2 p3 p4 p5 p6 p7 p8 q0 q1 q2 q3 q4 q5 q6 q7 q8 c0 c1 c2 c3 c4 c5 c6 c7 c8
 else
 rec v14 v15 (IntKind.wrap .i64 (v16 + (1 : Int))) p0 p1 p2 p3 p4 p5 p6 p7 p8 q0 q1 q2 q3 q4 q5 q6 q7 q8 c0 c1 c2 c3 c4 c5 c6 c7 c8
 else
 bif v16 == (1 : Int) then
 bif decide (c4 > (0 : Int)) then
 kr false p0 p1 p2 p3 p4 p5 p6 p7 p8 q0 q1 q2 q3 q4 q5 q6 q7 q8 c0 c1 c2 c3 c4 c5 c6 c7 c8
 else
 rec v14 v15 (IntKind.wrap .i64 (v16 + (1 : Int))) p0 p1 p2 p3 p4 p5 p6 p7 p8 q0 q1 q2 q3 q4 q5 q6 q7 q8 c0 c1 c2 c3 c4 c5 c6 c7 c8
 else
 bif v16 == (2 : Int) then
 bif decide (c5 > (0 : Int)) then
 kr false p0 p1 p2 p3 p4 p5 p6 p7 p8 q0 q1 q2 q3 q4 q5 q6 q7 q8 c0 c1 c2 c3 c4 c5 c6 c7 c8
 else
 rec v14 v15 (IntKind.wrap .i64 (v16 + (1 : Int))) p0 p1 p2 p3 p4 p5 p6 p7 p8 q0 q1 q2 q3 q4 q5 q6 q7 q8 c0 c1 c2 c3 c4 c5 c6 c7 c8
 else
 none
 else
 bif v14 == (2 : Int) then
 bif v16 == (0 : Int) then
 bif decide (c6 > (0 : Int)) then
 kr false p0 p1 p2 p3 p4 p5 p6 p7 p8 q0 q1 q2 q3 q4 q5 q6 q7 q8 c0 c1 c2 c3 c4 c5 c6 c7 c8
 else
 rec v14 v15 (IntKind.wrap .i64 (v16 + (1 : Int))) p0 p1 p2 p3 p4 p5 p6 p7 p8 q0 q1 q2 q3 q4 q5 q6 q7 q8 c0 c1 c2 c3 c4 c5 c6 c7 c8
 else
 bif v16 == (1 : Int) then
 bif decide (c7 > (0 : Int)) then
 kr false p0 p1 p2 p3 p4 p5 p6 p7 p8 q0 q1 q2 q3 q4 q5 q6 q7 q8 c0 c1 c2 c3 c4 c5 c6 c7 c8
 else
 rec v14 v15 (IntKind.wrap .i64 (v16 + (1 : Int))) p0 p1 p2 p3 p4 p5 p6 p7 p8 q0 q1 q2 q3 q4 q5 q6 q7 q8 c0 c1 c2 c3 c4 c5 c6 c7 c8
 else
 bif v16 == (2 : Int) then
 bif decide (c8 > (0 : Int)) then
 kr false p0 p1 p2 p3 p4 p5 p6 p7 p8 q0 q1 q2 q3 q4 q5 q6 q7 q8 c0 c1 c2 c3 c4 c5 c6 c7 c8
 else
 rec v14 v15 (IntKind.wrap .i64 (v16 + (1 : Int))) p0 p1 p2 p3 p4 p5 p6 p7 p8 q0 q1 q2 q3 q4 q5 q6 q7 q8 c0 c1 c2 c3 c4 c5 c6 c7 c8
 else
 none
 else
 none
 else
 rec v14 v15 (IntKind.wrap .i64 (v16 + (1 : Int))) p0 p1 p2 p3 p4 p5 p6 p7 p8 q0 q1 q2 q3 q4 q5 q6 q7 q8 c0 c1 c2 c3 c4 c5 c6 c7 c8
 else
 bif v16 == (2 : Int) then
 bif decide (c8 ≤ (0 : Int)) then
 bif v14 == (0 : Int) then
 bif v16 == (0 : Int) then
 bif decide (c0 > (0 : Int)) then
 kr false p0 p1 p2 p3 p4 p5 p6 p7 p8 q0 q1 q2 q3 q4 q5 q6 q7 q8 c0 c1 c2 c3 c4 c5 c6 c7 c8
 else
 rec v14 v15 (IntKind.wrap .i64 (v16 + (1 : Int))) p0 p1 p2 p3 p4 p5 p6 p7 p8 q0 q1 q2 q3 q4 q5 q6 q7 q8 c0 c1 c2 c3 c4 c5 c6 c7 c8
 else
 bif v16 == (1 : Int) then
 bif decide (c1 > (0 : Int)) then
 kr false p0 p1 p2 p3 p4 p5 p6 p7 p8 q0 q1 q2 q3 q4 q5 q6 q7 q8 c0 c1 c2 c3 c4 c5 c6 c7 c8
 else
 rec v14 v15 (IntKind.wrap .i64 (v16 + (1 : Int))) p0 p1 p2 p3 p4 p5 p6 p7 p8 q0 q1 q2 q3 q4 q5 q6 q7 q8 c0 c1 c2 c3 c4 c5 c6 c7 c8
 else
 bif v16 == (2 : Int) then
 bif decide (c2 > (0 : Int)) then
 kr false p0 p1 p2 p3 p4 p5 p6 p7 p8 q0 q1 q2 q3 q4 q5 q6 q7 q8 c0 c1 c2 c3 c4 c5 c6 c7 c8
 else
 rec v14 v15 (IntKind.wrap .i64 (v16 + (1 : Int))) p0 p1 p2 p3 p4 p5 p6 p7 p8 q0 q1 q2 q3 q4 q5 q6 q7 q8 c0 c1 c2 c3 c4 c5 c6 c7 c8
 else
 none
 else
 bif v14 == (1 : Int) then
 bif v16 == (0 : Int) then
 bif decide (c3 > (0 : Int)) then
 kr false p0 p1 p2 p3 p4 p5 p6 p7 p8 q0 q1 q2 q3 q4 q5 q6 q7 q8 c0 c1 c2 c3 c4 c5 c6 c7 c8
 else
 rec v14 v15 (IntKind.wrap .i64 (v16 + (1 : Int))) p0 p1 p2 p3 p4 p5 p6 p7 p8 q0 q1 q2 q3 q4 q5 q6 q7 q8 c0 c1 c2 c3 c4 c5 c6 c7 c8
 else
 bif v16 == (1 : Int) then
 bif decide (c4 > (0 : Int)) then
 kr false p0 p1 p2 p3 p4 p5 p6 p7 p8 q0 q1 q2 q3 q4 q5 q6 q7 q8 c0 c1 c2 c3 c4 c5 c6 c7 c8
 else
 rec v14 v15 (IntKind.wrap .i64 (v16 + (1 : Int))) p0 p1 p2 p3 p4 p5 p6 p7 p8 q0 q1 q2 q3 q4 q5 q6 q7 q8 c0 c1 c2 c3 c4 c5 c6 c7 c8
 else
 bif v16 == (2 : Int) then
 bif decide (c5 > (0 : Int)) then
 kr false p0 p1 p2 p3 p4 p5 p6 p7 p8 q0 q1 q2 q3 q4 q5 q6 q7 q8 c0 c1 c2 c3 c4 c5 c6 c7 c8
 else
 rec v14 v15 (IntKind.wrap .i64 (v16 + (1 : Int))) p0 p1 p2 p3 p4 p5 p6 p7 p8 q0 q1 q2 q3 q4 q5 q6 q7 q8 c0 c1 c2 c3 c4 c5 c6 c7 c8
 else
 none
 else
 bif v14 == (2 : Int) then
 bif v16 == (0 : Int) then
 bif decide (c6 > (0 : Int)) then
 kr false p0 p1 p2 p3 p4 p5 p6 p7 p8 q0 q1 q2 q3 q4 q5 q6 q7 q8 c0 c1 c2 c3 c4 c5 c6 c7 c8
 else
 rec v14 v15 (IntKind.wrap .i64 (v16 + (1 : Int))) p0 p1 p2 p3 p4 p5 p6 p7 p8 q0 q1 q2 q3 q4 q5 q6 q7 q8 c0 c1 c2 c3 c4 c5 c6 c7 c8
 else
 bif v16 == (1 : Int) then
 bif decide (c7 > (0 : Int)) then
 kr false p0 p1 p2 p3 p4 p5 p6 p7 p8 q0 q1 q2 q3 q4 q5 q6 q7 q8 c0 c1 c2 c3 c4 c5 c6 c7 c8
 else
 rec v14 v15 (IntKind.wrap .i64 (v16 + (1 : Int))) p0 p1 p2 p3 p4 p5 p6 p7 p8 q0 q1 q2 q3 q4 q5 q6 q7 q8 c0 c1 c2 c3 c4 c5 c6 c7 c8
 else
 bif v16 == (2 : Int) then
 bif decide (c8 > (0 : Int)) then
 kr false p0 p1 p2 p3 p4 p5 p6 p7 p8 q0 q1 q2 q3 q4 q5 q6 q7 q8 c0 c1 c2 c3 c4 c5 c6 c7 c8
 else
 rec v14 v15 (IntKind.wrap .i64 (v16 + (1 : Int))) p0 p1 p2 p3 p4 p5 p6 p7 p8 q0 q1 q2 q3 q4 q5 q6 q7 q8 c0 c1 c2 c3 c4 c5 c6 c7 c8
 else
 none
 else
 none
 else
 rec v14 v15 (IntKind.wrap .i64 (v16 + (1 : Int))) p0 p1 p2 p3 p4 p5 p6 p7 p8 q0 q1 q2 q3 q4 q5 q6 q7 q8 c0 c1 c2 c3 c4 c5 c6 c7 c8
 else
 none
 else
 none
 else
 rec v14 v15 (IntKind.wrap .i64 (v16 + (1 : Int))) p0 p1 p2 p3 p4 p5 p6 p7 p8 q0 q1 q2 q3 q4 q5 q6 q7 q8 c0 c1 c2 c3 c4 c5 c6 c7 c8
 else
 bif v15 == (2 : Int) then
 bif decide (c2 ≤ (0 : Int)) then
 bif v15 == (0 : Int) then
 bif v16 == (0 : Int) then
 bif decide (c0 ≤ (0 : Int)) then
 bif v14 == (0 : Int) then
 bif v16 == (0 : Int) then
 bif decide (c0 > (0 : Int)) then
 kr false p0 p1 p2 p3 p4 p5 p6 p7 p8 q0 q1 q2 q3 q4 q5 q6 q7 q8 c0 c1 c2 c3 c4 c5 c6 c7 c8
 else
 rec v14 v15 (IntKind.wrap .i64 (v16 + (1 : Int))) p0 p1 p2 p3 p4 p5 p6 p7 p8 q0 q1 q2 q3 q4 q5 q6 q7 q8 c0 c1 c2 c3 c4 c5 c6 c7 c8
 else
 bif v16 == (1 : Int) then
 bif decide (c1 > (0 : Int)) then
 kr false p0 p1 p2 p3 p4 p5 p6 p7 p8 q0 q1 q2 q3 q4 q5 q6 q7 q8 c0 c1 c2 c3 c4 c5 c6 c7 c8
 else
 rec v14 v15 (IntKind.wrap .i64 (v16 + (1 : Int))) p0 p1 p2 p3 p4 p5 p6 p7 p8 q0 q1 q2 q3 q4 q5 q6 q7 q8 c0 c1 c2 c3 c4 c5 c6 c7 c8
 else
 bif v16 == (2 : Int) then
 bif decide (c2 > (0 : Int)) then
 kr false p0 p1 p2 p3 p4 p5 p6 p7 p8 q0 q1 q2 q3 q4 q5 q6 q7 q8 c0 c1 c2 c3 c4 c5 c6 c7 c8
 else
 rec v14 v15 (IntKind.wrap .i64 (v16 + (1 : Int))) p0 p1 p2 p3 p4 p5 p6 p7 p8 q0 q1 q2 q3 q4 q5 q6 q7 q8 c0 c1 c2 c3 c4 c5 c6 c7 c8
 else
 none
 else
 bif v14 == (1 : Int) then
 bif v16 == (0 : Int) then
 bif decide (c3 > (0 : Int)) then
 kr false p0 p1 p2 p3 p4 p5 p6 p7 p8 q0 q1 q2 q3 q4 q5 q6 q7 q8 c0 c1 c2 c3 c4 c5 c6 c7 c8
 else
 rec v14 v15 (IntKind.wrap .i64 (v16 + (1 : Int))) p0 p1 p2 p3 p4 p5 p6 p7 p8 q0 q1 q2 q3 q4 q5 q6 q7 q8 c0 c1 c2 c3 c4 c5 c6 c7 c8
 else
 bif v16 == (1 : Int) then
 bif decide (c4 > (0 : Int)) then
 kr false p0 p1 p2 p3 p4 p5 p6 p7 p8 q0 q1 q2 q3 q4 q5 q6 q7 q8 c0 c1 c2 c3 c4 c5 c6 c7 c8
 else
 rec v14 v15 (IntKind.wrap .i64 (v16 + (1 : Int))) p0 p1 p2 p3 p4 p5 p6 p7 p8 q0 q1 q2 q3 q4 q5 q6 q7 q8 c0 c1 c2 c3 c4 c5 c6 c7 c8
 else
 bif v16 == (2 : Int) then
 bif decide (c5 > (0 : Int)) then
 kr false p0 p1 p2 p3 p4 p5 p6 p7 p8 q0 q1 q2 q3 q4 q5 q6 q7 q8 c0 c1 c2 c3 c4 c5 c6 c7 c8
 else
 rec v14 v15 (IntKind.wrap .i64 (v16 + (1 : Int))) p0 p1 p2 p3 p4 p5 p6 p7 p8 q0 q1 q2 q3 q4 q5 q6 q7 q8 c0 c1 c2 c3 c4 c5 c6 c7 c8
 else
 none
 else
 bif v14 == (2 : Int) then
 bif v16 == (0 : Int) then
 bif decide (c6 > (0 : Int)) then
 kr false p0 p1 p2 p3 p4 p5 p6 p7 p8 q0 q1 q2 q3 q4 q5 q6 q7 q8 c0 c1 c2 c3 c4 c5 c6 c7 c8
 else
 rec v14 v15 (IntKind.wrap .i64 (v16 + (1 : Int))) p0 p1 p2 p3 p4 p5 p6 p7 p8 q0 q1 q2 q3 q4 q5 q6 q7 q8 c0 c1 c2 c3 c4 c5 c6 c7 c8
 else
 bif v16 == (1 : Int) then
 bif decide (c7 > (0 : Int)) then
 kr false p0 p1 p2 p3 p4 p5 p6 p7 p8 q0 q1 q2 q3 q4 q5 q6 q7 q8 c0 c1 c2 c3 c4 c5 c6 c7 c8
 else
 rec v14 v15 (IntKind.wrap .i64 (v16 + (1 : Int))) p0 p1 p2 p3 p4 p5 p6 p7 p8 q0 q1 q2 q3 q4 q5 q6 q7 q8 c0 c1 c2 c3 c4 c5 c6 c7 c8
 else
 bif v16 == (2 : Int) then
 bif decide (c8 > (0 : Int)) then
 kr false p0 p1 p2 p3 p4 p5 p6 p7 p8 q0 q1 q2 q3 q4 q5 q6 q7 q8 c0 c1 c2 c3 c4 c5 c6 c7 c8
 else
 rec v14 v15 (IntKind.wrap .i64 (v16 + (1 : Int))) p0 p1 p2 p3 p4 p5 p6 p7 p8 q0 q1 q2 q3 q4 q5 q6 q7 q8 c0 c1 c2 c3 c4 c5 c6 c7 c8
 else
 none
 else
 none
 else
 rec v14 v15 (IntKind.wrap .i64 (v16 + (1 : Int))) p0 p1 p2 p3 p4 p5 p6 p7 p8 q0 q1 q2 q3 q4 q5 q6 q7 q8 c0 c1 c2 c3 c4 c5 c6 c7 c8
 else
 bif v16 == (1 : Int) then
 bif decide (c1 ≤ (0 : Int)) then
 bif v14 == (0 : Int) then
 bif v16 == (0 : Int) then
 bif decide (c0 > (0 : Int)) then
 kr false p0 p1 p2 p3 p4 p5 p6 p7 p8 q0 q1 q2 q3 q4 q5 q6 q7 q8 c0 c1 c2 c3 c4 c5 c6 c7 c8
 else
 rec v14 v15 (IntKind.wrap .i64 (v16 + (1 : Int))) p0 p1 p2 p3 p4 p5 p6 p7 p8 q0 q1 q2 q3 q4 q5 q6 q7 q8 c0 c1 c2 c3 c4 c5 c6 c7 c8
 else
 bif v16 == (1 : Int) then
 bif decide (c1 > (0 : Int)) then
 kr false p0 p1 p2 p3 p4 p5 p6 p7 p8 q0 q1 q2 q3 q4 q5 q6 q7 q8 c0 c1 c2 c3 c4 c5 c6 c7 c8
 else
 rec v14 v15 (IntKind.wrap .i64 (v16 + (1 : Int))) p0 p1 p2 p3 p4 p5 p6 p7 p8 q0 q1 q2 q3 q4 q5 q6 q7 q8 c0 c1 c2 c3 c4 c5 c6 c7 c8
 else
 bif v16 == (2 : Int) then
 bif decide (c2 > (0 : Int)) then
 kr false p0 p1 p2 p3 p4 p5 p6 p7 p8 q0 q1 q2 q3 q4 q5 q6 q7 q8 c0 c1 c2 c3 c4 c5 c6 c7 c8
 else
 rec v14 v15 (IntKind.wrap .i64 (v16 + (1 : Int))) p0 p1 p2 p3 p4 p5 p6 p7 p8 q0 q1 q2 q3 q4 q5 q6 q7 q8 c0 c1 c2 c3 c4 c5 c6 c7 c8
 else
 none
 else
 bif v14 == (1 : Int) then
 bif v16 == (0 : Int) then
 bif decide (c3 > (0 : Int)) then
 kr false p0 p1 p2 p3 p4 p5 p6 p7 p8 q0 q1 q2 q3 q4 q5 q6 q7 q8 c0 c1 c2 c3 c4 c5 c6 c7 c8
 else
 rec v14 v15 (IntKind.wrap .i64 (v16 + (1 : Int))) p0 p1 p2 p3 p4 p5 p6 p7 p8 q0 q1 q2 q3 q4 q5 q6 q7 q8 c0 c1 c2 c3 c4 c5 c6 c7 c8
 else
 bif v16 == (1 : Int) then
 bif decide (c4 > (0 : Int)) then
 kr false p0 p1 p2 p3 p4 p5 p6 p7 p8 q0 q1 q2 q3 q4 q5 q6 q7 q8 c0 c1 c2 c3 c4 c5 c6 c7 c8
 else
 rec v14 v15 (IntKind.wrap .i64 (v16 + (1 : Int))) p0 p1 p2 p3 p4 p5 p6 p7 p8 q0 q1 q2 q3 q4 q5 q6 q7 q8 c0 c1 c2 c3 c4 c5 c6 c7 c8
 else
 bif v16 == (2 : Int) then
 bif decide (c5 > (0 : Int)) then
 kr false p0 p1 p2 p3 p4 p5 p6 p7 p8 q0 q1 q2 q3 q4 q5 q6 q7 q8 c0 c1 c2 c3 c4 c5 c6 c7 c8
 else
 rec v14 v15 (IntKind.wrap .i64 (v16 + (1 : Int))) p0 p1 p2 p3 p4 p5 p6 p7 p8 q0 q1 q2 q3 q4 q5 q6 q7 q8 c0 c1 c2 c3 c4 c5 c6 c7 c8
 else
 none
 else
 bif v14 == (2 : Int) then
 bif v16 == (0 : Int) then
 bif decide (c6 > (0 : Int)) then
 kr false p0 p1 p2 p3 p4 p5 p6 p7 p8 q0 q1 q2 q3 q4 q5 q6 q7 q8 c0 c1 c2 c3 c4 c5 c6 c7 c8
 else
 rec v14 v15 (IntKind.wrap .i64 (v16 + (1 : Int))) p0 p1 p2 p3 p4 p5 p6 p7 p8 q0 q1 q2 q3 q4 q5 q6 q7 q8 c0 c1 c2 c3 c4 c5 c6 c7 c8
 else
 bif v16 == (1 : Int) then
 bif decide (c7 > (0 : Int)) then
 kr false p0 p1 p2 p3 p4 p5 p6 p7 p8 q0 q1 q2 q3 q4 q5 q6 q7 q8 c0 c1 c2 c3 c4 c5 c6 c7 c8
 else
 rec v14 v15 (IntKind.wrap .i64 (v16 + (1 : Int))) p0 p1 p2 p3 p4 p5 p6 p7 p8 q0 q1 q2 q3 q4 q5 q6 q7 q8 c0 c1 c2 c3 c4 c5 c6 c7 c8
 else
 bif v16 == (2 : Int) then
 bif decide (c8 > (0 : Int)) then
 kr false p0 p1 p2 p3 p4 p5 p6 p7 p8 q0 q1 q2 q3 q4 q5 q6 q7 q8 c0 c1 c2 c3 c4 c5 c6 c7 c8
 else
 rec v14 v15 (IntKind.wrap .i64 (v16 + (1 : Int))) p0 p1 p2 p3 p4 p5 p6 p7 p8 q0 q1 q2 q3 q4 q5 q6 q7 q8 c0 c1 c2 c3 c4 c5 c6 c7 c8
 else
 none
 else
 none
 else
 rec v14 v15 (IntKind.wrap .i64 (v16 + (1 : Int))) p0 p1 p2 p3 p4 p5 p6 p7 p8 q0 q1 q2 q3 q4 q5 q6 q7 q8 c0 c1 c2 c3 c4 c5 c6 c7 c8
 else
 bif v16 == (2 : Int) then
 bif decide (c2 ≤ (0 : Int)) then
 bif v14 == (0 : Int) then
 bif v16 == (0 : Int) then
 bif decide (c0 > (0 : Int)) then
 kr false p0 p1 p2 p3 p4 p5 p6 p7 p8 q0 q1 q2 q3 q4 q5 q6 q7 q8 c0 c1 c2 c3 c4 c5 c6 c7 c8
 else
 rec v14 v15 (IntKind.wrap .i64 (v16 + (1 : Int))) p0 p1 p2 p3 p4 p5 p6 p7 p8 q0 q1 q2 q3 q4 q5 q6 q7 q8 c0 c1 c2 c3 c4 c5 c6 c7 c8
 else
 bif v16 == (1 : Int) then
 bif decide (c1 > (0 : Int)) then
 kr false p0 p1 p2 p3 p4 p5 p6 p7 p8 q0 q1 q2 q3 q4 q5 q6 q7 q8 c0 c1 c2 c3 c4 c5 c6 c7 c8
 else
 rec v14 v15 (IntKind.wrap .i64 (v16 + (1 : Int))) p0 p1 p2 p3 p4 p5 p6 p7 p8 q0 q1 q2 q3 q4 q5 q6 q7 q8 c0 c1 c2 c3 c4 c5 c6 c7 c8
 else
 bif v16 == (2 : Int) then
 bif decide (c2 > (0 : Int)) then
 kr false p0 p1 p2 p3 p4 p5 p6 p7 p8 q0 q1 q2 q3 q4 q5 q6 q7 q8 c0 c1 c2 c3 c4 c5 c6 c7 c8
 else
 rec v14 v15 (IntKind.wrap .i64 (v16 + (1 : Int))) p0 p1 p2 p3 p4 p5 p6 p7 p8 q0 q1 q2 q3 q4 q5 q6 q7 q8 c0 c1 c2 c3 c4 c5 c6 c7 c8
 else
 none
 else
 bif v14 == (1 : Int) then
 bif v16 == (0 : Int) then
 bif decide (c3 > (0 : Int)) then
 kr false p0 p1 p2 p3 p4 p5 p6 p7 p8 q0 q1 q2 q3 q4 q5 q6 q7 q8 c0 c1 c2 c3 c4 c5 c6 c7 c8
 else
 rec v14 v15 (IntKind.wrap .i64 (v16 + (1 : Int))) p0 p1 p2 p3 p4 p5 p6 p7 p8 q0 q1 q2 q3 q4 q5 q6 q7 q8 c0 c1 c2 c3 c4 c5 c6 c7 c8
 else
 bif v16 == (1 : Int) then
 bif decide (c4 > (0 : Int)) then
 kr false p0 p1 p2 p3 p4 p5 p6 p7 p8 q0 q1 q2 q3 q4 q5 q6 q7 q8 c0 c1 c2 c3 c4 c5 c6 c7 c8
 else
 rec v14 v15 (IntKind.wrap .i64 (v16 + (1 : Int))) p0 p1 p2 p3 p4 p5 p6 p7 p8 q0 q1 q2 q3 q4 q5 q6 q7 q8 c0 c1 c2 c3 c4 c5 c6 c7 c8
 else
 bif v16 == (2 : Int) then
 bif decide (c5 > (0 : Int)) then
 kr false p0 p1 p2 p3 p4 p5 p6 p7 p8 q0 q1 q2 q3 q4 q5 q6 q7 q8 c0 c1 c2 c3 c4 c5 c6 c7 c8
 else
 rec v14 v15 (IntKind.wrap .i64 (v16 + (1 : Int))) p0 p1 p2 p3 p4 p5 p6 p7 p8 q0 q1 q2 q3 q4 q5 q6 q7 q8 c0 c1 c2 c3 c4 c5 c6 c7 c8
 else
 none
 else
 bif v14 == (2 : Int) then
 bif v16 == (0 : Int) then
 bif decide (c6 > (0 : Int)) then
 kr false p0 p1 p2 p3 p4 p5 p6 p7 p8 q0 q1 q2 q3 q4 q5 q6 q7 q8 c0 c1 c2 c3 c4 c5 c6 c7 c8
 else
 rec v14 v15 (IntKind.wrap .i64 (v16 + (1 : Int))) p0 p1 p2 p3 p4 p5 p6 p7 p8 q0 q1 q2 q3 q4 q5 q6 q7 q8 c0 c1 c2 c3 c4 c5 c6 c7 c8
 else
 bif v16 == (1 : Int) then
 bif decide (c7 > (0 : Int)) then
 kr false p0 p1 p2 p3 p4 p5 p6 p7 p8 q0 q1 q2 q3 q4 q5 q6 q7 q8 c0 c1 c2 c3 c4 c5 c6 c7 c8
 else
 rec v14 v15 (IntKind.wrap .i64 (v16 + (1 : Int))) p0 p1 p2 p3 p4 p5 p6 p7 p8 q0 q1 q2 q3 q4 q5 q6 q7 q8 c0 c1 c2 c3 c4 c5 c6 c7 c8
 else
 bif v16 == (2 : Int) then
 bif decide (c8 > (0 : Int)) then
 kr false p0 p1 p2 p3 p4 p5 p6 p7 p8 q0 q1 q2 q3 q4 q5 q6 q7 q8 c0 c1 c2 c3 c4 c5 c6 c7 c8
 else
 rec v14 v15 (IntKind.wrap .i64 (v16 + (1 : Int))) p0 p1 p2 p3 p4 p5 p6 p7 p8 q0 q1 q2 q3 q4 q5 q6 q7 q8 c0 c1 c2 c3 c4 c5 c6 c7 c8
 else
 none
 else
 none
 else
 rec v14 v15 (IntKind.wrap .i64 (v16 + (1 : Int))) p0 p1 p2 p3 p4 p5 p6 p7 p8 q0 q1 q2 q3 q4 q5 q6 q7 q8 c0 c1 c2 c3 c4 c5 c6 c7 c8
 else
 none
 else
 bif v15 == (1 : Int) then
 bif v16 == (0 : Int) then
 bif decide (c3 ≤ (0 : Int)) then
 bif v14 == (0 : Int) then
 bif v16 == (0 : Int) then
 bif decide (c0 > (0 : Int)) then
 kr false p0 p1 p2 p3 p4 p5 p6 p7 p8 q0 q1 q2 q3 q4 q5 q6 q7 q8 c0 c1 c2 c3 c4 c5 c6 c7 c8
 else
 rec v14 v15 (IntKind.wrap .i64 (v16 + (1 : Int))) p0 p1 p2 p3 p4 p5 p6 p7 p8 q0 q1 q2 q3 q4 q5 q6 q7 q8 c0 c1 c2 c3 c4 c5 c6 c7 c8
 else
 bif v16 == (1 : Int) then
 bif decide (c1 > (0 : Int)) then
 kr false p0 p1 p2 p3 p4 p5 p6 p7 p8 q0 q1 q2 q3 q4 q5 q6 q7 q8 c0 c1 c2 c3 c4 c5 c6 c7 c8
 else
 rec v14 v15 (IntKind.wrap .i64 (v16 + (1 : Int))) p0 p1 p2 p3 p4 p5 p6 p7 p8 q0 q1 q2 q3 q4 q5 q6 q7 q8 c0 c1 c2 c3 c4 c5 c6 c7 c8
 else
 bif v16 == (2 : Int) then
 bif decide (c2 > (0 : Int)) then
 kr false p0 p1 p2 p3 p4 p5 p6 p7 p8 q0 q1 q2 q3 q4 q5 q6 q7 q8 c0 c1 c2 c3 c4 c5 c6 c7 c8
 else
 rec v14 v15 (IntKind.wrap .i64 (v16 + (1 : Int))) p0 p1 p2 p3 p4 p5 p6 p7 p8 q0 q1 q2 q3 q4 q5 q6 q7 q8 c0 c1 c2 c3 c4 c5 c6 c7 c8
 else
 none
 else
 bif v14 == (1 : Int) then
 bif v16 == (0 : Int) then
 bif decide (c3 > (0 : Int)) then
 kr false p0 p1 p2 p3 p4 p5 p6 p7 p8 q0 q1 q2 q3 q4 q5 q6 q7 q8 c0 c1 c2 c3 c4 c5 c6 c7 c8
 else
 rec v14 v15 (IntKind.wrap .i64 (v16 + (1 : Int))) p0 p1 p2 p3 p4 p5 p6 p7 p8 q0 q1 q2 q3 q4 q5 q6 q7 q8 c0 c1 c2 c3 c4 c5 c6 c7 c8
 else
 bif v16 == (1 : Int) then
 bif decide (c4 > (0 : Int)) then
 kr false p0 p1 p2 p3 p4 p5 p6 p7 p8 q0 q1 q2 q3 q4 q5 q6 q7 q8 c0 c1 c2 c3 c4 c5 c6 c7 c8
 else
 rec v14 v15 (IntKind.wrap .i64 (v16 + (1 : Int))) p0 p1 p2 p3 p4 p5 p6 p7 p8 q0 q1 q2 q3 q4 q5 q6 q7 q8 c0 c1 c2 c3 c4 c5 c6 c7 c8
 else
 bif v16 == (2 : Int) then
 bif decide (c5 > (0 : Int)) then
 kr false p0 p1 p2 p3 p4 p5 p6 p7 p8 q0 q1 q2 q3 q4 q5 q6 q7 q8 c0 c1 c2 c3 c4 c5 c6 c7 c8
 else
 rec v14 v15 (IntKind.wrap .i64 (v16 + (1 : Int))) p0 p1 p2 p3 p4 p5 p6 p7 p8 q0 q1 q2 q3 q4 q5 q6 q7 q8 c0 c1 c2 c3 c4 c5 c6 c7 c8
 else
 none
 else
 bif v14 == (2 : Int) then
 bif v16 == (0 : Int) then
 bif decide (c6 > (0 : Int)) then
 kr false p0 p1 p2 p3 p4 p5 p6 p7 p8 q0 q1 q2 q3 q4 q5 q6 q7 q8 c0 c1 c2 c3 c4 c5 c6 c7 c8
 else
 rec v14 v15 (IntKind.wrap .i64 (v16 + (1 : Int))) p0 p1 p2 p3 p4 p5 p6 p7 p8 q0 q1 q2 q3 q4 q5 q6 q7 q8 c0 c1 c2 c3 c4 c5 c6 c7 c8
 else
 bif v16 == (1 : Int) then
 bif decide (c7 > (0 : Int)) then
 kr false p0 p1 p2 p3 p4 p5 p6 p7 p8 q0 q1 q2 q3 q4 q5 q6 q7 q8 c0 c1 c2 c3 c4 c5 c6 c7 c8
 else
 rec v14 v15 (IntKind.wrap .i64 (v16 + (1 : Int))) p0 p1 p2 p3 p4 p5 p6 p7 p8 q0 q1 q2 q3 q4 q5 q6 q7 q8 c0 c1 c2 c3 c4 c5 c6 c7 c8
 else
 bif v16 == (2 : Int) then
 bif decide (c8 > (0 : Int)) then
 kr false p0 p1 p2 p3 p4 p5 p6 p7 p8 q0 q1 q2 q3 q4 q5 q6 q7 q8 c0 c1 c2 c3 c4 c5 c6 c7 c8
 else
 rec v14 v15 (IntKind.wrap .i64 (v16 + (1 : Int))) p0 p1 p2 p3 p4 p5 p6 p7 p8 q0 q1 q2 q3 q4 q5 q6 q7 q8 c0 c1 c2 c3 c4 c5 c6 c7 c8
 else
 none
 else
 none
 else
 rec v14 v15 (IntKind.wrap .i64 (v16 + (1 : Int))) p0 p1 p2 p3 p4 p5 p6 p7 p8 q0 q1 q2 q3 q4 q5 q6 q7 q8 c0 c1 c2 c3 c4 c5 c6 c7 c8
 else
 bif v16 == (1 : Int) then
 bif decide (c4 ≤ (0 : Int)) then
 bif v14 == (0 : Int) then
 bif v16 == (0 : Int) then
 bif decide (c0 > (0 : Int)) then
 kr false p0 p1 p2 p3 p4 p5 p6 p7 p8 q0 q1 q2 q3 q4 q5 q6 q7 q8 c0 c1 c2 c3 c4 c5 c6 c7 c8
 else
 rec v14 v15 (IntKind.wrap .i64 (v16 + (1 : Int))) p0 p1 p2 p3 p4 p5 p6 p7 p8 q0 q1 q2 q3 q4 q5 q6 q7 q8 c0 c1 c2 c3 c4 c5 c6 c7 c8
 else
 bif v16 == (1 : Int) then
 bif decide (c1 > (0 : Int)) then
 kr false p0 p1 p2 p3 p4 p5 p6 p7 p8 q0 q1 q2 q3 q4 q5 q6 q7 q8 c0 c1 c2 c3 c4 c5 c6 c7 c8
 else
 rec v14 v15 (IntKind.wrap .i64 (v16 + (1 : Int))) p0 p1 p2 p3 p4 p5 p6 p7 p8 q0 q1 q2 q3 q4 q5 q6 q7 q8 c0 c1 c2 c3 c4 c5 c6 c7 c8
 else
 bif v16 == (2 : Int) then
 bif decide (c2 > (0 : Int)) then
 kr false p0 p1 p2 p3 p4 p5 p6 p7 p8 q0 q1 q2 q3 q4 q5 q6 q7 q8 c0 c1 c2 c3 c4 c5 c6 c7 c8
 else
 rec v14 v15 (IntKind.wrap .i64 (v16 + (1 : Int))) p0 p1 p2 p3 p4 p5 p6 p7 p8 q0 q1 q2 q3 q4 q5 q6 q7 q8 c0 c1 c2 c3 c4 c5 c6 c7 c8
 else
 none
 else
 bif v14 == (1 : Int) then
 bif v16 == (0 : Int) then
 bif decide (c3 > (0 : Int)) then
 kr false p0 p1 p2 p3 p4 p5 p6 p7 p8 q0 q1 q2 q3 q4 q5 q6 q7 q8 c0 c1 c2 c3 c4 c5 c6 c7 c8
 else
 rec v14 v15 (IntKind.wrap .i64 (v16 + (1 : Int))) p0 p1 p2 p3 p4 p5 p6 p7 p8 q0 q1 q2 q3 q4 q5 q6 q7 q8 c0 c1 c2 c3 c4 c5 c6 c7 c8
 else
 bif v16 == (1 : Int) then
 bif decide (c4 > (0 : Int)) then
 kr false p0 p1 p2 p3 p4 p5 p6 p7 p8 q0 q1 q2 q3 q4 q5 q6 q7 q8 c0 c1 c2 c3 c4 c5 c6 c7 c8
 else
 rec v14 v15 (IntKind.wrap .i64 (v16 + (1 : Int))) p0 p1 p2 p3 p4 p5 p6 p7 p8 q0 q1 q2 q3 q4 q5 q6 q7 q8 c0 c1 c2 c3 c4 c5 c6 c7 c8
 else
 bif v16 == (2 : Int) then
 bif decide (c5 > (0 : Int)) then
 kr false p0 p1 p2 p3 p4 p5 p6 p7 p8 q0 q1 q2 q3 q4 q5 q6 q7 q8 c0 c1 c2 c3 c4 c5 c6 c7 c8
 else
 rec v14 v15 (IntKind.wrap .i64 (v16 + (1 : Int))) p0 p1 p2 p3 p4 p5 p6 p7 p8 q0 q1 q2 q3 q4 q5 q6 q7 q8 c0 c1 c2 c3 c4 c5 c6 c7 c8
 else
 none
 else
 bif v14 == (2 : Int) then
 bif v16 == (0 : Int) then
 bif decide (c6 > (0 : Int)) then
 kr false p0 p1 p2 p3 p4 p5 p6 p7 p8 q0 q1 q2 q3 q4 q5 q6 q7 q8 c0 c1 c2 c3 c4 c5 c6 c7 c8
 else
 rec v14 v15 (IntKind.wrap .i64 (v16 + (1 : Int))) p0 p1 p2 p3 p4 p5 p6 p7 p8 q0 q1 q2 q3 q4 q5 q6 q7 q8 c0 c1 c2 c3 c4 c5 c6 c7 c8
 else
 bif v16 == (1 : Int) then
 bif decide (c7 > (0 : Int)) then
 kr false p0 p1 p2 p3 p4 p5 p6 p7 p8 q0 q1 q2 q3 q4 q5 q6 q7 q8 c0 c1 c2 c3 c4 c5 c6 c7 c8
 else
 rec v14 v15 (IntKind.wrap .i64 (v16 + (1 : Int))) p0 p1 p2 p3 p4 p5 p6 p7 p8 q0 q1 q2 q3 q4 q5 q6 q7 q8 c0 c1 c2 c3 c4 c5 c6 c7 c8
 else
 bif v16 == (2 : Int) then
 bif decide (c8 > (0 : Int)) then
 kr false p0 p1 p2 p3 p4 p5 p6 p7 p8 q0 q1 q2 q3 q4 q5 q6 q7 q8 c0 c1 c2 c3 c4 c5 c6 c7 c8
 else
 rec v14 v15 (IntKind.wrap .i64 (v16 + (1 : Int))) p0 p1 p2 p3 p4 p5 p6 p7 p8 q0 q1 q2 q3 q4 q5 q6 q7 q8 c0 c1 c2 c3 c4 c5 c6 c7 c8
 else
 none
 else
 none
 else
 rec v14 v15 (IntKind.wrap .i64 (v16 + (1 : Int))) p0 p1 p2 p3 p4 p5 p6 p7 p8 q0 q1 q2 q3 q4 q5 q6 q7 q8 c0 c1 c2 c3 c4 c5 c6 c7 c8
 else
 bif v16 == (2 : Int) then
 bif decide (c5 ≤ (0 : Int)) then
 bif v14 == (0 : Int) then
 bif v16 == (0 : Int) then
 bif decide (c0 > (0 : Int)) then
 kr false p0 p1 p2 p3 p4 p5 p6 p7 p8 q0 q1 q2 q3 q4 q5 q6 q7 q8 c0 c1 c2 c3 c4 c5 c6 c7 c8
 else
 rec v14 v15 (IntKind.wrap .i64 (v16 + (1 : Int))) p0 p1 p2 p3 p4 p5 p6 p7 p8 q0 q1 q2 q3 q4 q5 q6 q7 q8 c0 c1 c2 c3 c4 c5 c6 c7 c8
 else
 bif v16 == (1 : Int) then
 bif decide (c1 > (0 : Int)) then
 kr false p0 p1 p2 p3 p4 p5 p6 p7 p8 q0 q1 q2 q3 q4 q5 q6 q7 q8 c0 c1 c2 c3 c4 c5 c6 c7 c8
 else
 rec v14 v15 (IntKind.wrap .i64 (v16 + (1 : Int))) p0 p1 p2 p3 p4 p5 p6 p7 p8 q0 q1 q2 q3 q4 q5 q6 q7 q8 c0 c1 c2 c3 c4 c5 c6 c7 c8
 else
 bif v16 == (2 : Int) then
 bif decide (c2 > (0 : Int)) then
 kr false p0 p1 p2 p3 p4 p5 p6 p7 p8 q0 q1 q2 q3 q4 q5 q6 q7 q8 c0 c1 c2 c3 c4 c5 c6 c7 c8
 else
 rec v14 v15 (IntKind.wrap .i64 (v16 + (1 : Int))) p0 p1 p2 p3 p4 p5 p6 p7 p8 q0 q1 q2 q3 q4 q5 q6 q7 q8 c0 c1 c2 c3 c4 c5 c6 c7 c8
 else
 none
 else
 bif v14 == (1 : Int) then
 bif v16 == (0 : Int) then
 bif decide (c3 > (0 : Int)) then
 kr false p0 p1 p2 p3 p4 p5 p6 p7 p8 q0 q1 q2 q3 q4 q5 q6 q7 q8 c0 c1 c2 c3 c4 c5 c6 c7 c8
 else
 rec v14 v15 (IntKind.wrap .i64 (v16 + (1 : Int))) p0 p1 p2 p3 p4 p5 p6 p7 p8 q0 q1 q2 q3 q4 q5 q6 q7 q8 c0 c1 c2 c3 c4 c5 c6 c7 c8
 else
 bif v16 == (1 : Int) then
 bif decide (c4 > (0 : Int)) then
 kr false p0 p1 p2 p3 p4 p5 p6 p7 p8 q0 q1 q2 q3 q4 q5 q6 q7 q8 c0 c1 c2 c3 c4 c5 c6 c7 c8
 else
 rec v14 v15 (IntKind.wrap .i64 (v16 + (1 : Int))) p0 p1 p2 p3 p4 p5 p6 p7 p8 q0 q1 q2 q3 q4 q5 q6 q7 q8 c0 c1 c2 c3 c4 c5 c6 c7 c8
 else
 bif v16 == (2 : Int) then
 bif decide (c5 > (0 : Int)) then
 kr false p0 p1 p2 p3 p4 p5 p6 p7 p8 q0 q1 q2 q3 q4 q5 q6 q7 q8 c0 c1 c2 c3 c4 c5 c6 c7 c8
 else
 rec v14 v15 (IntKind.wrap .i64 (v16 + (1 : Int))) p0 p1 p2 p3 p4 p5 p6 p7 p8 q0 q1 q2 q3 q4 q5 q6 q7 q8 c0 c1 c2 c3 c4 c5 c6 c7 c8
 else
 none
 else
 bif v14 == (2 : Int) then
 bif v16 == (0 : Int) then
 bif decide (c6 > (0 : Int)) then
 kr false p0 p1 p2 p3 p4 p5 p6 p7 p8 q0 q1 q2 q3 q4 q5 q6 q7 q8 c0 c1 c2 c3 c4 c5 c6 c7 c8
 else
 rec v14 v15 (IntKind.wrap .i64 (v16 + (1 : Int))) p0 p1 p2 p3 p4 p5 p6 p7 p8 q0 q1 q2 q3 q4 q5 q6 q7 q8 c0 c1 c2 c3 c4 c5 c6 c7 c8
 else
 bif v16 == (1 : Int) then
 bif decide (c7 > (0 : Int)) then
 kr false p0 p1 p2 p3 p4 p5 p6 p7 p8 q0 q1 q2 q3 q4 q5 q6 q7 q8 c0 c1 c2 c3 c4 c5 c6 c7 c8
 else
 rec v14 v15 (IntKind.wrap .i64 (v16 + (1 : Int))) p0 p1 p2 p3 p4 p5 p6 p7 p8 q0 q1 q2 q3 q4 q5 q6 q7 q8 c0 c1 c2 c3 c4 c5 c6 c7 c8
 else
 bif v16 == (2 : Int) then
 bif decide (c8 > (0 : Int)) then
 kr false p0 p1 p2 p3 p4 p5 p6 p7 p8 q0 q1 q2 q3 q4 q5 q6 q7 q8 c0 c1 c2 c3 c4 c5 c6 c7 c8
 else
 rec v14 v15 (IntKind.wrap .i64 (v16 + (1 : Int))) p0 p1 p2 p3 p4 p5 p6 p7 p8 q0 q1 q2 q3 q4 q5 q6 q7 q8 c0 c1 c2 c3 c4 c5 c6 c7 c8
 else
 none
 else
 none
 else
 rec v14 v15 (IntKind.wrap .i64 (v16 + (1 : Int))) p0 p1 p2 p3 p4 p5 p6 p7 p8 q0 q1 q2 q3 q4 q5 q6 q7 q8 c0 c1 c2 c3 c4 c5 c6 c7 c8
 else
 none
 else
 bif v15 == (2 : Int) then
 bif v16 == (0 : Int) then
 bif decide (c6 ≤ (0 : Int)) then
 bif v14 == (0 : Int) then
 bif v16 == (0 : Int) then
 bif decide (c0 > (0 : Int)) then
 kr false p0 p1 p2 p3 p4 p5 p6 p7 p8 q0 q1 q2 q3 q4 q5 q6 q7 q8 c0 c1 c2 c3 c4 c5 c6 c7 c8
 else
 rec v14 v15 (IntKind.wrap .i64 (v16 + (1 : Int))) p0 p1 p2 p3 p4 p5 p6 p7 p8 q0 q1 q2 q3 q4 q5 q6 q7 q8 c0 c1 c2 c3 c4 c5 c6 c7 c8
 else
 bif v16 == (1 : Int) then
 bif decide (c1 > (0 : Int)) then
 kr false p0 p1 p2 p3 p4 p5 p6 p7 p8 q0 q1 q2 q3 q4 q5 q6 q7 q8 c0 c1 c2 c3 c4 c5 c6 c7 c8
 else
 rec v14 v15 (IntKind.wrap .i64 (v16 + (1 : Int))) p0 p1 p2 p3 p4 p5 p6 p7 p8 q0 q1 q2 q3 q4 q5 q6 q7 q8 c0 c1 c2 c3 c4 c5 c6 c7 c8
 else
 bif v16 == (2 : Int) then
 bif decide (c2 > (0 : Int)) then
 kr false p0 p1 p2 p3 p4 p5 p6 p7 p8 q0 q1 q2 q3 q4 q5 q6 q7 q8 c0 c1 c2 c3 c4 c5 c6 c7 c8
 else
 rec v14 v15 (IntKind.wrap .i64 (v16 + (1 : Int))) p0 p1 p2 p3 p4 p5 p6 p7 p8 q0 q1 q2 q3 q4 q5 q6 q7 q8 c0 c1 c2 c3 c4 c5 c6 c7 c8
 else
 none
 else
 bif v14 == (1 : Int) then
 bif v16 == (0 : Int) then
 bif decide (c3 > (0 : Int)) then
 kr false p0 p1 p2 p3 p4 p5 p6 p7 p8 q0 q1 q2 q3 q4 q5 q6 q7 q8 c0 c1 c2 c3 c4 c5 c6 c7 c8
 else
 rec v14 v15 (IntKind.wrap .i64 (v16 + (1 : Int))) p0 p1 p2 p3 p4 p5 p6 p7 p8 q0 q1 q2 q3 q4 q5 q6 q7 q8 c0 c1 c2 c3 c4 c5 c6 c7 c8
 else
 bif v16 == (1 : Int) then
 bif decide (c4 > (0 : Int)) then
 kr false p0 p1 p2 p3 p4 p5 p6 p7 p8 q0 q1 q2 q3 q4 q5 q6 q7 q8 c0 c1 c2 c3 c4 c5 c6 c7 c8
 else
 rec v14 v15 (IntKind.wrap .i64 (v16 + (1 : Int))) p0 p1 p2 p3 p4 p5 p6 p7 p8 q0 q1 q2 q3 q4 q5 q6 q7 q8 c0 c1 c2 c3 c4 c5 c6 c7 c8
 else
 bif v16 == (2 : Int) then
 bif decide (c5 > (0 : Int)) then
 kr false p0 p1 p2 p3 p4 p5 p6 p7 p8 q0 q1 q2 q3 q4 q5 q6 q7 q8 c0 c1 c2 c3 c4 c5 c6 c7 c8
 else
 rec v14 v15 (IntKind.wrap .i64 (v16 + (1 : Int))) p0 p1 p2 p3 p4 p5 p6 p7 p8 q0 q1 q2 q3 q4 q5 q6 q7 q8 c0 c1 c2 c3 c4 c5 c6 c7 c8
 else
 none
 else
 bif v14 == (2 : Int) then
 bif v16 == (0 : Int) then
 bif decide (c6 > (0 : Int)) then
 kr false p0 p1 p2 p3 p4 p5 p6 p7 p8 q0 q1 q2 q3 q4 q5 q6 q7 q8 c0 c1 c2 c3 c4 c5 c6 c7 c8
 else
 rec v14 v15 (IntKind.wrap .i64 (v16 + (1 : Int))) p0 p1 p2 p3 p4 p5 p6 p7 p8 q0 q1 q2 q3 q4 q5 q6 q7 q8 c0 c1 c2 c3 c4 c5 c6 c7 c8
 else
 bif v16 == (1 : Int) then
 bif decide (c7 > (0 : Int)) then
 kr false p0 p1 p2 p3 p4 p5 p6 p7 p8 q0 q1 q2 q3 q4 q5 q6 q7 q8 c0 c1 c2 c3 c4 c5 c6 c7 c8
 else
 rec v14 v15 (IntKind.wrap .i64 (v16 + (1 : Int))) p0 p1 p2 p3 p4 p5 p6 p7 p8 q0 q1 q2 q3 q4 q5 q6 q7 q8 c0 c1 c2 c3 c4 c5 c6 c7 c8
 else
 bif v16 == (2 : Int) then
 bif decide (c8 > (0 : Int)) then
 kr false p0 p1 p2 p3 p4 p5 p6 p7 p8 q0 q1 q2 q3 q4 q5 q6 q7 q8 c0 c1 c2 c3 c4 c5 c6 c7 c8
 else
 rec v14 v15 (IntKind.wrap .i64 (v16 + (1 : Int))) p0 p1 p2 p3 p4 p5 p6 p7 p8 q0 q1 q2 q3 q4 q5 q6 q7 q8 c0 c1 c2 c3 c4 c5 c6 c7 c8
 else
 none
 else
 none
 else
 rec v14 v15 (IntKind.wrap .i64 (v16 + (1 : Int))) p0 p1 p2 p3 p4 p5 p6 p7 p8 q0 q1 q2 q3 q4 q5 q6 q7 q8 c0 c1 c2 c3 c4 c5 c6 c7 c8
 else
 bif v16 == (1 : Int) then
 bif decide (c7 ≤ (0 : Int)) then
 bif v14 == (0 : Int) then
 bif v16 == (0 : Int) then
 bif decide (c0 > (0 : Int)) then
 kr false p0 p1 p2 p3 p4 p5 p6 p7 p8 q0 q1 q2 q3 q4 q5 q6 q7 q8 c0 c1 c2 c3 c4 c5 c6 c7 c8
 else
 rec v14 v15 (IntKind.wrap .i64 (v16 + (1 : Int))) p0 p1 p2 p3 p4 p5 p6 p7 p8 q0 q1 q2 q3 q4 q5 q6 q7 q8 c0 c1 c2 c3 c4 c5 c6 c7 c8
 else
 bif v16 == (1 : Int) then
 bif decide (c1 > (0 : Int)) then
 kr false p0 p1 p2 p3 p4 p5 p6 p7 p8 q0 q1 q2 q3 q4 q5 q6 q7 q8 c0 c1 c2 c3 c4 c5 c6 c7 c8
 else
 rec v14 v15 (IntKind.wrap .i64 (v16 + (1 : Int))) p0 p1 p2 p3 p4 p5 p6 p7 p8 q0 q1 q2 q3 q4 q5 q6 q7 q8 c0 c1 c2 c3 c4 c5 c6 c7 c8
 else
 bif v16 == (2 : Int) then
 bif decide (c2 > (0 : Int)) then
 kr false p0 p1 p2 p3 p4 p5 p6 p7 p8 q0 q1 q2 q3 q4 q5 q6 q7 q8 c0 c1 c2 c3 c4 c5 c6 c7 c8
 else
 rec v14 v15 (IntKind.wrap .i64 (v16 + (1 : Int))) p0 p1 p2 p3 p4 p5 p6 p7 p8 q0 q1 q2 q3 q4 q5 q6 q7 q8 c0 c1 c2 c3 c4 c5 c6 c7 c8
 else
 none
 else
 bif v14 == (1 : Int) then
 bif v16 == (0 : Int) then
 bif decide (c3 > (0 : Int)) then
 kr false p0 p1 p2 p3 p4 p5 p6 p7 p8 q0 q1 q2 q3 q4 q5 q6 q7 q8 c0 c1 c2 c3 c4 c5 c6 c7 c8
 else
 rec v14 v15 (IntKind.wrap .i64 (v16 + (1 : Int))) p0 p1 p2 p3 p4 p5 p6 p7 p8 q0 q1 q2 q3 q4 q5 q6 q7 q8 c0 c1 c2 c3 c4 c5 c6 c7 c8
 else
 bif v16 == (1 : Int) then
 bif decide (c4 > (0 : Int)) then
 kr false p0 p1 p2 p3 p4 p5 p6 p7 p8 q0 q1 q2 q3 q4 q5 q6 q7 q8 c0 c1 c2 c3 c4 c5 c6 c7 c8
 else
 rec v14 v15 (IntKind.wrap .i64 (v16 + (1 : Int))) p0 p1 p2 p3 p4 p5 p6 p7 p8 q0 q1 q2 q3 q4 q5 q6 q7 q8 c0 c1 c2 c3 c4 c5 c6 c7 c8
 else
 bif v16 == (2 : Int) then
 bif decide (c5 > (0 : Int)) then
 kr false p0 p1 p2 p3 p4 p5 p6 p7 p8 q0 q1 q2 q3 q4 q5 q6 q7 q8 c0 c1 c2 c3 c4 c5 c6 c7 c8
 else
 rec v14 v15 (IntKind.wrap .i64 (v16 + (1 : Int))) p0 p1 p2 p3 p4 p5 p6 p7 p8 q0 q1 q2 q3 q4 q5 q6 q7 q8 c0 c1 c2 c3 c4 c5 c6 c7 c8
 else
 none
 else
 bif v14 == (2 : Int) then
 bif v16 == (0 : Int) then
 bif decide (c6 > (0 : Int)) then
 kr false p0 p1 p2 p3 p4 p5 p6 p7 p8 q0 q1 q2 q3 q4 q5 q6 q7 q8 c0 c1 c2 c3 c4 c5 c6 c7 c8
 else
 rec v14 v15 (IntKind.wrap .i64 (v16 + (1 : Int))) p0 p1 p2 p3 p4 p5 p6 p7 p8 q0 q1 q2 q3 q4 q5 q6 q7 q8 c0 c1 c2 c3 c4 c5 c6 c7 c8
 else
 bif v16 == (1 : Int) then
 bif decide (c7 > (0 : Int)) then
 kr false p0 p1 p2 p3 p4 p5 p6 p7 p8 q0 q1 q2 q3 q4 q5 q6 q7 q8 c0 c1 c2 c3 c4 c5 c6 c7 c8
 else
 rec v14 v15 (IntKind.wrap .i64 (v16 + (1 : Int))) p0 p1 p2 p3 p4 p5 p6 p7 p8 q0 q1 q2 q3 q4 q5 q6 q7 q8 c0 c1 c2 c3 c4 c5 c6 c7 c8
 else
 bif v16 == (2 : Int) then
 bif decide (c8 > (0 : Int)) then
 kr false p0 p1 p2 p3 p4 p5 p6 p7 p8 q0 q1 q2 q3 q4 q5 q6 q7 q8 c0 c1 c2 c3 c4 c5 c6 c7 c8
 else
 rec v14 v15 (IntKind.wrap .i64 (v16 + (1 : Int))) p0 p1 p2 p3 p4 p5 p6 p7 p8 q0 q1 q2 q3 q4 q5 q6 q7 q8 c0 c1 c2 c3 c4 c5 c6 c7 c8
 else
 none
 else
 none
 else
 rec v14 v15 (IntKind.wrap .i64 (v16 + (1 : Int))) p0 p1 p2 p3 p4 p5 p6 p7 p8 q0 q1 q2 q3 q4 q5 q6 q7 q8 c0 c1 c2 c3 c4 c5 c6 c7 c8
 else
 bif v16 == (2 : Int) then
 bif decide (c8 ≤ (0 : Int)) then
 bif v14 == (0 : Int) then
 bif v16 == (0 : Int) then
 bif decide (c0 > (0 : Int)) then
 kr false p0 p1 p2 p3 p4 p5 p6 p7 p8 q0 q1 q2 q3 q4 q5 q6 q7 q8 c0 c1 c2 c3 c4 c5 c6 c7 c8
 else
 rec v14 v15 (IntKind.wrap .i64 (v16 + (1 : Int))) p0 p1 p2 p3 p4 p5 p6 p7 p8 q0 q1 q2 q3 q4 q5 q6 q7 q8 c0 c1 c2 c3 c4 c5 c6 c7 c8
 else
 bif v16 == (1 : Int) then
 bif decide (c1 > (0 : Int)) then
 kr false p0 p1 p2 p3 p4 p5 p6 p7 p8 q0 q1 q2 q3 q4 q5 q6 q7 q8 c0 c1 c2 c3 c4 c5 c6 c7 c8
 else
 rec v14 v15 (IntKind.wrap .i64 (v16 + (1 : Int))) p0 p1 p2 p3 p4 p5 p6 p7 p8 q0 q1 q2 q3 q4 q5 q6 q7 q8 c0 c1 c2 c3 c4 c5 c6 c7 c8
 else
 bif v16 == (2 : Int) then
 bif decide (c2 > (0 : Int)) then
 kr false p0 p1 p2 p3 p4 p5 p6 p7 p8 q0 q1 q2 q3 q4 q5 q6 q7 q8 c0 c1 c2 c3 c4 c5 c6 c7 c8
 else
 rec v14 v15 (IntKind.wrap .i64 (v16 + (1 : Int))) p0 p1 p2 p3 p4 p5 p6 p7 p8 q0 q1 q2 q3 q4 q5 q6 q7 q8 c0 c1 c2 c3 c4 c5 c6 c7 c8
 else
 none
 else
 bif v14 == (1 : Int) then
 bif v16 == (0 : Int) then
 bif decide (c3 > (0 : Int)) then
 kr false p0 p1 p2 p3 p4 p5 p6 p7 p8 q0 q1 q2 q3 q4 q5 q6 q7 q8 c0 c1 c2 c3 c4 c5 c6 c7 c8
 else
 rec v14 v15 (IntKind.wrap .i64 (v16 + (1 : Int))) p0 p1 p2 p3 p4 p5 p6 p7 p8 q0 q1 q2 q3 q4 q5 q6 q7 q8 c0 c1 c2 c3 c4 c5 c6 c7 c8
 else
 bif v16 == (1 : Int) then
 bif decide (c4 > (0 : Int)) then
 kr false p0 p1 p2 p3 p4 p5 p6 p7 p8 q0 q1 q2 q3 q4 q5 q6 q7 q8 c0 c1 c2 c3 c4 c5 c6 c7 c8
 else
 rec v14 v15 (IntKind.wrap .i64 (v16 + (1 : Int))) p0 p1 p2 p3 p4 p5 p6 p7 p8 q0 q1 q2 q3 q4 q5 q6 q7 q8 c0 c1 c2 c3 c4 c5 c6 c7 c8
 else
 bif v16 == (2 : Int) then
 bif decide (c5 > (0 : Int)) then
 kr false p0 p1 p2 p3 p4 p5 p6 p7 p8 q0 q1 q2 q3 q4 q5 q6 q7 q8 c0 c1 c2 c3 c4 c5 c6 c7 c8
 else
 rec v14 v15 (IntKind.wrap .i64 (v16 + (1 : Int))) p0 p1 p2 p3 p4 p5 p6 p7 p8 q0 q1 q2 q3 q4 q5 q6 q7 q8 c0 c1 c2 c3 c4 c5 c6 c7 c8
 else
 none
 else
 bif v14 == (2 : Int) then
 bif v16 == (0 : Int) then
 bif decide (c6 > (0 : Int)) then
 kr false p0 p1 p2 p3 p4 p5 p6 p7 p8 q0 q1 q2 q3 q4 q5 q6 q7 q8 c0 c1 c2 c3 c4 c5 c6 c7 c8
 else
 rec v14 v15 (IntKind.wrap .i64 (v16 + (1 : Int))) p0 p1 p2 p3 p4 p5 p6 p7 p8 q0 q1 q2 q3 q4 q5 q6 q7 q8 c0 c1 c2 c3 c4 c5 c6 c7 c8
 else
 bif v16 == (1 : Int) then
 bif decide (c7 > (0 : Int)) then
 kr false p0 p1 p2 p3 p4 p5 p6 p7 p8 q0 q1 q2 q3 q4 q5 q6 q7 q8 c0 c1 c2 c3 c4 c5 c6 c7 c8
 else
 rec v14 v15 (IntKind.wrap .i64 (v16 + (1 : Int))) p0 p1 p2 p3 p4 p5 p6 p7 p8 q0 q1 q2 q3 q4 q5 q6 q7 q8 c0 c1 c2 c3 c4 c5 c6 c7 c8
 else
 bif v16 == (2 : Int) then
 bif decide (c8 > (0 : Int)) then
 kr false p0 p1 p2 p3 p4 p5 p6 p7 p8 q0 q1 q2 q3 q4 q5 q6 q7 q8 c0 c1 c2 c3 c4 c5 c6 c7 c8
 else
 rec v14 v15 (IntKind.wrap .i64 (v16 + (1 : Int))) p0 p1 p2 p3 p4 p5 p6 p7 p8 q0 q1 q2 q3 q4 q5 q6 q7 q8 c0 c1 c2 c3 c4 c5 c6 c7 c8
 else
 none
 else
 none
 else
 rec v14 v15 (IntKind.wrap .i64 (v16 + (1 : Int))) p0 p1 p2 p3 p4 p5 p6 p7 p8 q0 q1 q2 q3 q4 q5 q6 q7 q8 c0 c1 c2 c3 c4 c5 c6 c7 c8
 else
 none
 else
 none
 else
 rec v14 v15 (IntKind.wrap .i64 (v16 + (1 : Int))) p0 p1 p2 p3 p4 p5 p6 p7 p8 q0 q1 q2 q3 q4 q5 q6 q7 q8 c0 c1 c2 c3 c4 c5 c6 c7 c8
 else
 none
 else
 bif v14 == (1 : Int) then
 bif v15 == (0 : Int) then
 bif decide (c3 ≤ (0 : Int)) then
 bif v15 == (0 : Int) then
 bif v16 == (0 : Int) then
 bif decide (c0 ≤ (0 : Int)) then
 bif v14 == (0 : Int) then
 bif v16 == (0 : Int) then
 bif decide (c0 > (0 : Int)) then
 kr false p0 p1 p2 p3 p4 p5 p6 p7 p8 q0 q1 q2 q3 q4 q5 q6 q7 q8 c0 c1 c2 c3 c4 c5 c6 c7 c8
 else
 rec v14 v15 (IntKind.wrap .i64 (v16 + (1 : Int))) p0 p1 p2 p3 p4 p5 p6 p7 p8 q0 q1 q2 q3 q4 q5 q6 q7 q8 c0 c1 c2 c3 c4 c5 c6 c7 c8
 else
 bif v16 == (1 : Int) then
 bif decide (c1 > (0 : Int)) then
 kr false p0 p1 p2 p3 p4 p5 p6 p7 p8 q0 q1 q2 q3 q4 q5 q6 q7 q8 c0 c1 c2 c3 c4 c5 c6 c7 c8
 else
 rec v14 v15 (IntKind.wrap .i64 (v16 + (1 : Int))) p0 p1 p2 p3 p4 p5 p6 p7 p8 q0 q1 q2 q3 q4 q5 q6 q7 q8 c0 c1 c2 c3 c4 c5 c6 c7 c8
 else
 bif v16 == (2 : Int) then
 bif decide (c2 > (0 : Int)) then
 kr false p0 p1 p2 p3 p4 p5 p6 p7 p8 q0 q1 q2 q3 q4 q5 q6 q7 q8 c0 c1 c2 c3 c4 c5 c6 c7 c8
 else
 rec v14 v15 (IntKind.wrap .i64 (v16 + (1 : Int))) p0 p1 p2 p3 p4 p5 p6 p7 p8 q0 q1 q2 q3 q4 q5 q6 q7 q8 c0 c1 c2 c3 c4 c5 c6 c7 c8
 else
 none
 else
 bif v14 == (1 : Int) then
 bif v16 == (0 : Int) then
 bif decide (c3 > (0 : Int)) then
 kr false p0 p1 p2 p3 p4 p5 p6 p7 p8 q0 q1 q2 q3 q4 q5 q6 q7 q8 c0 c1 c2 c3 c4 c5 c6 c7 c8
 else
 rec v14 v15 (IntKind.wrap .i64 (v16 + (1 : Int))) p0 p1 p2 p3 p4 p5 p6 p7 p8 q0 q1 q2 q3 q4 q5 q6 q7 q8 c0 c1 c2 c3 c4 c5 c6 c7 c8
 else
 bif v16 == (1 : Int) then
 bif decide (c4 > (0 : Int)) then
 kr false p0 p1 p2 p3 p4 p5 p6 p7 p8 q0 q1 q2 q3 q4 q5 q6 q7 q8 c0 c1 c2 c3 c4 c5 c6 c7 c8
 else
 rec v14 v15 (IntKind.wrap .i64 (v16 + (1 : Int))) p0 p1 p2 p3 p4 p5 p6 p7 p8 q0 q1 q2 q3 q4 q5 q6 q7 q8 c0 c1 c2 c3 c4 c5 c6 c7 c8
 else
 bif v16 == (2 : Int) then
 bif decide (c5 > (0 : Int)) then
 kr false p0 p1 p2 p3 p4 p5 p6 p7 p8 q0 q1 q2 q3 q4 q5 q6 q7 q8 c0 c1 c2 c3 c4 c5 c6 c7 c8
 else
 rec v14 v15 (IntKind.wrap .i64 (v16 + (1 : Int))) p0 p1 p2 p3 p4 p5 p6 p7 p8 q0 q1 q2 q3 q4 q5 q6 q7 q8 c0 c1 c2 c3 c4 c5 c6 c7 c8
 else
 none
 else
 bif v14 == (2 : Int) then
 bif v16 == (0 : Int) then
 bif decide (c6 > (0 : Int)) then
 kr false p0 p1 p2 p3 p4 p5 p6 p7 p8 q0 q1 q2 q3 q4 q5 q6 q7 q8 c0 c1 c2 c3 c4 c5 c6 c7 c8
 else
 rec v14 v15 (IntKind.wrap .i64 (v16 + (1 : Int))) p0 p1 p2 p3 p4 p5 p6 p7 p8 q0 q1 q2 q3 q4 q5 q6 q7 q8 c0 c1 c2 c3 c4 c5 c6 c7 c8
 else
 bif v16 == (1 : Int) then
 bif decide (c7 > (0 : Int)) then
 kr false p0 p1 p2 p3 p4 p5 p6 p7 p8 q0 q1 q2 q3 q4 q5 q6 q7 q8 c0 c1 c2 c3 c4 c5 c6 c7 c8
 else
 rec v14 v15 (IntKind.wrap .i64 (v16 + (1 : Int))) p0 p1 p2 p3 p4 p5 p6 p7 p8 q0 q1 q2 q3 q4 q5 q6 q7 q8 c0 c1 c2 c3 c4 c5 c6 c7 c8
 else
 bif v16 == (2 : Int) then
 bif decide (c8 > (0 : Int)) then
 kr false p0 p1 p2 p3 p4 p5 p6 p7 p8 q0 q1 q2 q3 q4 q5 q6 q7 q8 c0 c1 c2 c3 c4 c5 c6 c7 c8
 else
 rec v14 v15 (IntKind.wrap .i64 (v16 + (1 : Int))) p0 p1 p2 p3 p4 p5 p6 p7 p8 q0 q1 q2 q3 q4 q5 q6 q7 q8 c0 c1 c2 c3 c4 c5 c6 c7 c8
 else
 none
 else
 none
 else
 rec v14 v15 (IntKind.wrap .i64 (v16 + (1 : Int))) p0 p1 p2 p3 p4 p5 p6 p7 p8 q0 q1 q2 q3 q4 q5 q6 q7 q8 c0 c1 c2 c3 c4 c5 c6 c7 c8
 else
 bif v16 == (1 : Int) then
 bif decide (c1 ≤ (0 : Int)) then
 bif v14 == (0 : Int) then
 bif v16 == (0 : Int) then
 bif decide (c0 > (0 : Int)) then
 kr false p0 p1 p2 p3 p4 p5 p6 p7 p8 q0 q1 q2 q3 q4 q5 q6 q7 q8 c0 c1 c2 c3 c4 c5 c6 c7 c8
 else
 rec v14 v15 (IntKind.wrap .i64 (v16 + (1 : Int))) p0 p1 p2 p3 p4 p5 p6 p7 p8 q0 q1 q2 q3 q4 q5 q6 q7 q8 c0 c1 c2 c3 c4 c5 c6 c7 c8
 else
 bif v16 == (1 : Int) then
 bif decide (c1 > (0 : Int)) then
 kr false p0 p1 p2 p3 p4 p5 p6 p7 p8 q0 q1 q2 q3 q4 q5 q6 q7 q8 c0 c1 c2 c3 c4 c5 c6 c7 c8
 else
 rec v14 v15 (IntKind.wrap .i64 (v16 + (1 : Int))) p0 p1 p2 p3 p4 p5 p6 p7 p8 q0 q1 q2 q3 q4 q5 q6 q7 q8 c0 c1 c2 c3 c4 c5 c6 c7 c8
 else
 bif v16 == (2 : Int) then
 bif decide (c2 > (0 : Int)) then
 kr false p0 p1 p2 p3 p4 p5 p6 p7 p8 q0 q1 q2 q3 q4 q5 q6 q7 q8 c0 c1 c2 c3 c4 c5 c6 c7 c8
 else
 rec v14 v15 (IntKind.wrap .i64 (v16 + (1 : Int))) p0 p1 p2 p3 p4 p5 p6 p7 p8 q0 q1 q2 q3 q4 q5 q6 q7 q8 c0 c1 c2 c3 c4 c5 c6 c7 c8
 else
 none
 else
 bif v14 == (1 : Int) then
 bif v16 == (0 : Int) then
 bif decide (c3 > (0 : Int)) then
 kr false p0 p1 p2 p3 p4 p5 p6 p7 p8 q0 q1 q2 q3 q4 q5 q6 q7 q8 c0 c1 c2 c3 c4 c5 c6 c7 c8
 else
 rec v14 v15 (IntKind.wrap .i64 (v16 + (1 : Int))) p0 p1 p2 p3 p4 p5 p6 p7 p8 q0 q1 q2 q3 q4 q5 q6 q7 q8 c0 c1 c2 c3 c4 c5 c6 c7 c8
 else
 bif v16 == (1 : Int) then
 bif decide (c4 > (0 : Int)) then
 kr false p0 p1 p2 p3 p4 p5 p6 p7 p8 q0 q1 q2 q3 q4 q5 q6 q7 q8 c0 c1 c2 c3 c4 c5 c6 c7 c8
 else
 rec v14 v15 (IntKind.wrap .i64 (v16 + (1 : Int))) p0 p1 p2 p3 p4 p5 p6 p7 p8 q0 q1 q2 q3 q4 q5 q6 q7 q8 c0 c1 c2 c3 c4 c5 c6 c7 c8
 else
 bif v16 == (2 : Int) then
 bif decide (c5 > (0 : Int)) then
 kr false p0 p1 p2 p3 p4 p5 p6 p7 p8 q0 q1 q2 q3 q4 q5 q6 q7 q8 c0 c1 c2 c3 c4 c5 c6 c7 c8
 else
 rec v14 v15 (IntKind.wrap .i64 (v16 + (1 : Int))) p0 p1 p2 p3 p4 p5 p6 p7 p8 q0 q1 q2 q3 q4 q5 q6 q7 q8 c0 c1 c2 c3 c4 c5 c6 c7 c8
 else
 none
 else
 bif v14 == (2 : Int) then
 bif v16 == (0 : Int) then
 bif decide (c6 > (0 : Int)) then
 kr false p0 p1 p2 p3 p4 p5 p6 p7 p8 q0 q1 q2 q3 q4 q5 q6 q7 q8 c0 c1 c2 c3 c4 c5 c6 c7 c8
 else
 rec v14 v15 (IntKind.wrap .i64 (v16 + (1 : Int))) p0 p1 p2 p3 p4 p5 p6 p7 p8 q0 q1 q2 q3 q4 q5 q6 q7 q8 c0 c1 c2 c3 c4 c5 c6 c7 c8
 else
 bif v16 == (1 : Int) then
 bif decide (c7 > (0 : Int)) then
 kr false p0 p1 p2 p3 p4 p5 p6 p7 p8 q0 q1 q2 q3 q4 q5 q6 q7 q8 c0 c1 c2 c3 c4 c5 c6 c7 c8
 else
 rec v14 v15 (IntKind.wrap .i64 (v16 + (1 : Int))) p0 p1 p2 p3 p4 p5 p6 p7 p8 q0 q1 q2 q3 q4 q5 q6 q7 q8 c0 c1 c2 c3 c4 c5 c6 c7 c8
 else
 bif v16 == (2 : Int) then
 bif decide (c8 > (0 : Int)) then
 kr false p0 p1 p2 p3 p4 p5 p6 p7 p8 q0 q1 q2 q3 q4 q5 q6 q7 q8 c0 c1 c2 c3 c4 c5 c6 c7 c8
 else
 rec v14 v15 (IntKind.wrap .i64 (v16 + (1 : Int))) p0 p1 p2 p3 p4 p5 p6 p7 p8 q0 q1 q2 q3 q4 q5 q6 q7 q8 c0 c1 c2 c3 c4 c5 c6 c7 c8
 else
 none
 else
 none
 else
 rec v14 v15 (IntKind.wrap .i64 (v16 + (1 : Int))) p0 p1 p2 p3 p4 p5 p6 p7 p8 q0 q1 q2 q3 q4 q5 q6 q7 q8 c0 c1 c2 c3 c4 c5 c6 c7 c8
 else
 bif v16 == (2 : Int) then
 bif decide (c2 ≤ (0 : Int)) then
 bif v14 == (0 : Int) then
 bif v16 == (0 : Int) then
 bif decide (c0 > (0 : Int)) then
 kr false p0 p1 p2 p3 p4 p5 p6 p7 p8 q0 q1 q2 q3 q4 q5 q6 q7 q8 c0 c1 c2 c3 c4 c5 c6 c7 c8
 else
 rec v14 v15 (IntKind.wrap .i64 (v16 + (1 : Int))) p0 p1 p2 p3 p4 p5 p6 p7 p8 q0 q1 q2 q3 q4 q5 q6 q7 q8 c0 c1 c2 c3 c4 c5 c6 c7 c8
 else
 bif v16 == (1 : Int) then
 bif decide (c1 > (0 : Int)) then
 kr false p0 p1 p2 p3 p4 p5 p6 p7 p8 q0 q1 q2 q3 q4 q5 q6 q7 q8 c0 c1 c2 c3 c4 c5 c6 c7 c8
 else
 rec v14 v15 (IntKind.wrap .i64 (v16 + (1 : Int))) p0 p1 p2 p3 p4 p5 p6 p7 p8 q0 q1 q2 q3 q4 q5 q6 q7 q8 c0 c1 c2 c3 c4 c5 c6 c7 c8
 else
 bif v16 == (2 : Int) then
 bif decide (c2 > (0 : Int)) then
 kr false p0 p1 p2 p3 p4 p5 p6 p7 p8 q0 q1 q2 q3 q4 q5 q6 q7 q8 c0 c1 c2 c3 c4 c5 c6 c7 c8
 else
 rec v14 v15 (IntKind.wrap .i64 (v16 + (1 : Int))) p0 p1 p2 p3 p4 p5 p6 p7 p8 q0 q1 q2 q3 q4 q5 q6 q7 q8 c0 c1 c2 c3 c4 c5 c6 c7 c8
 else
 none
 else
 bif v14 == (1 : Int) then
 bif v16 == (0 : Int) then
 bif decide (c3 > (0 : Int)) then
 kr false p0 p1 p2 p3 p4 p5 p6 p7 p8 q0 q1 q2 q3 q4 q5 q6 q7 q8 c0 c1 c2 c3 c4 c5 c6 c7 c8
 else
 rec v14 v15 (IntKind.wrap .i64 (v16 + (1 : Int))) p0 p1 p2 p3 p4 p5 p6 p7 p8 q0 q1 q2 q3 q4 q5 q6 q7 q8 c0 c1 c2 c3 c4 c5 c6 c7 c8
 else
 bif v16 == (1 : Int) then
 bif decide (c4 > (0 : Int)) then
 kr false p0 p1 p2 p3 p4 p5 p6 p7 p8 q0 q1 q2 q3 q4 q5 q6 q7 q8 c0 c1 c2 c3 c4 c5 c6 c7 c8
 else
 rec v14 v15 (IntKind.wrap .i64 (v16 + (1 : Int))) p0 p1 p2 p3 p4 p5 p6 p7 p8 q0 q1 q2 q3 q4 q5 q6 q7 q8 c0 c1 c2 c3 c4 c5 c6 c7 c8
 else
 bif v16 == (2 : Int) then
 bif decide (c5 > (0 : Int)) then
 kr false p0 p1 p2 p3 p4 p5 p6 p7 p8 q0 q1 q2 q3 q4 q5 q6 q7 q8 c0 c1 c2 c3 c4 c5 c6 c7 c8
 else
 rec v14 v15 (IntKind.wrap .i64 (v16 + (1 : Int))) p0 p1 p2 p3 p4 p5 p6 p7 p8 q0 q1 q2 q3 q4 q5 q6 q7 q8 c0 c1 c2 c3 c4 c5 c6 c7 c8
 else
 none
 else
 bif v14 == (2 : Int) then
 bif v16 == (0 : Int) then
 bif decide (c6 > (0 : Int)) then
 kr false p0 p1 p2 p3 p4 p5 p6 p7 p8 q0 q1 q2 q3 q4 q5 q6 q7 q8 c0 c1 c2 c3 c4 c5 c6 c7 c8
 else
 rec v14 v15 (IntKind.wrap .i64 (v16 + (1 : Int))) p0 p1 p2 p3 p4 p5 p6 p7 p8 q0 q1 q2 q3 q4 q5 q6 q7 q8 c0 c1 c2 c3 c4 c5 c6 c7 c8
 else
 bif v16 == (1 : Int) then
 bif decide (c7 > (0 : Int)) then
 kr false p0 p1 p2 p3 p4 p5 p6 p7 p8 q0 q1 q2 q3 q4 q5 q6 q7 q8 c0 c1 c2 c3 c4 c5 c6 c7 c8
 else
 rec v14 v15 (IntKind.wrap .i64 (v16 + (1 : Int))) p0 p1 p2 p3 p4 p5 p6 p7 p8 q0 q1 q2 q3 q4 q5 q6 q7 q8 c0 c1 c2 c3 c4 c5 c6 c7 c8
 else
 bif v16 == (2 : Int) then
 bif decide (c8 > (0 : Int)) then
 kr false p0 p1 p2 p3 p4 p5 p6 p7 p8 q0 q1 q2 q3 q4 q5 q6 q7 q8 c0 c1 c2 c3 c4 c5 c6 c7 c8
 else
 rec v14 v15 (IntKind.wrap .i64 (v16 + (1 : Int))) p0 p1 p2 p3 p4 p5 p6 p7 p8 q0 q1 q2 q3 q4 q5 q6 q7 q8 c0 c1 c2 c3 c4 c5 c6 c7 c8
 else
 none
 else
 none
 else
 rec v14 v15 (IntKind.wrap .i64 (v16 + (1 : Int))) p0 p1 p2 p3 p4 p5 p6 p7 p8 q0 q1 q2 q3 q4 q5 q6 q7 q8 c0 c1 c2 c3 c4 c5 c6 c7 c8
 else
 none
 else
 bif v15 == (1 : Int) then
 bif v16 == (0 : Int) then
 bif decide (c3 ≤ (0 : Int)) then
 bif v14 == (0 : Int) then
 bif v16 == (0 : Int) then
 bif decide (c0 > (0 : Int)) then
 kr false p0 p1 p2 p3 p4 p5 p6 p7 p8 q0 q1 q2 q3 q4 q5 q6 q7 q8 c0 c1 c2 c3 c4 c5 c6 c7 c8
 else
 rec v14 v15 (IntKind.wrap .i64 (v16 + (1 : Int))) p0 p1 p2 p3 p4 p5 p6 p7 p8 q0 q1 q2 q3 q4 q5 q6 q7 q8 c0 c1 c2 c3 c4 c5 c6 c7 c8
 else
 bif v16 == (1 : Int) then
 bif decide (c1 > (0 : Int)) then
 kr false p0 p1 p2 p3 p4 p5 p6 p7 p8 q0 q1 q2 q3 q4 q5 q6 q7 q8 c0 c1 c2 c3 c4 c5 c6 c7 c8
 else
 rec v14 v15 (IntKind.wrap .i64 (v16 + (1 : Int))) p0 p1 p2 p3 p4 p5 p6 p7 p8 q0 q1 q2 q3 q4 q5 q6 q7 q8 c0 c1 c2 c3 c4 c5 c6 c7 c8
 else
 bif v16 == (2 : Int) then
 bif decide (c2 > (0 : Int)) then
 kr false p0 p1 p2 p3 p4 p5 p6 p7 p8 q0 q1 q2 q3 q4 q5 q6 q7 q8 c0 c1 c2 c3 c4 c5 c6 c7 c8
 else
 rec v14 v15 (IntKind.wrap .i64 (v16 + (1 : Int))) p0 p1 p2 p3 p4 p5 p6 p7 p8 q0 q1 q2 q3 q4 q5 q6 q7 q8 c0 c1 c2 c3 c4 c5 c6 c7 c8
 else
 none
 else
 bif v14 == (1 : Int) then
 bif v16 == (0 : Int) then
 bif decide (c3 > (0 : Int)) then
 kr false p0 p1 p2 p3 p4 p5 p6 p7 p8 q0 q1 q2 q3 q4 q5 q6 q7 q8 c0 c1 c2 c3 c4 c5 c6 c7 c8
 else
 rec v14 v15 (IntKind.wrap .i64 (v16 + (1 : Int))) p0 p1 p2 p3 p4 p5 p6 p7 p8 q0 q1 q2 q3 q4 q5 q6 q7 q8 c0 c1 c2 c3 c4 c5 c6 c7 c8
 else
 bif v16 == (1 : Int) then
 bif decide (c4 > (0 : Int)) then
 kr false p0 p1 p2 p3 p4 p5 p6 p7 p8 q0 q1 q2 q3 q4 q5 q6 q7 q8 c0 c1 c2 c3 c4 c5 c6 c7 c8
 else
 rec v14 v15 (IntKind.wrap .i64 (v16 + (1 : Int))) p0 p1 p2 p3 p4 p5 p6 p7 p8 q0 q1 q2 q3 q4 q5 q6 q7 q8 c0 c1 c2 c3 c4 c5 c6 c7 c8
 else
 bif v16 == (2 : Int) then
 bif decide (c5 > (0 : Int)) then
 kr false p0 p1 p2 p3 p4 p5 p6 p7 p8 q0 q1 q2 q3 q4 q5 q6 q7 q8 c0 c1 c2 c3 c4 c5 c6 c7 c8
 else
 rec v14 v15 (IntKind.wrap .i64 (v16 + (1 : Int))) p0 p1 p2 p3 p4 p5 p6 p7 p8 q0 q1 q2 q3 q4 q5 q6 q7 q8 c0 c1 c2 c3 c4 c5 c6 c7 c8
 else
 none
 else
 bif v14 == (2 : Int) then
 bif v16 == (0 : Int) then
 bif decide (c6 > (0 : Int)) then
 kr false p0 p1 p2 p3 p4 p5 p6 p7 p8 q0 q1 q2 q3 q4 q5 q6 q7 q8 c0 c1 c2 c3 c4 c5 c6 c7 c8
 else
 rec v14 v15 (IntKind.wrap .i64 (v16 + (1 : Int))) p0 p1 p2 p3 p4 p5 p6 p7 p8 q0 q1 q2 q3 q4 q5 q6 q7 q8 c0 c1 c2 c3 c4 c5 c6 c7 c8
 else
 bif v16 == (1 : Int) then
 bif decide (c7 > (0 : Int)) then
 kr false p0 p1 p2 p3 p4 p5 p6 p7 p8 q0 q1 q2 q3 q4 q5 q6 q7 q8 c0 c1 c2 c3 c4 c5 c6 c7 c8
 else
 rec v14 v15 (IntKind.wrap .i64 (v16 + (1 : Int))) p0 p1 p2 p3 p4 p5 p6 p7 p8 q0 q1 q2 q3 q4 q5 q6 q7 q8 c0 c1 c2 c3 c4 c5 c6 c7 c8
 else
 bif v16 == (2 : Int) then
 bif decide (c8 > (0 : Int)) then
 kr false p0 p1 p2 p3 p4 p5 p6 p7 p8 q0 q1 q2 q3 q4 q5 q6 q7 q8 c0 c1 c2 c3 c4 c5 c6 c7 c8
 else
 rec v14 v15 (IntKind.wrap .i64 (v16 + (1 : Int))) p0 p1 p2 p3 p4 p5 p6 p7 p8 q0 q1 q2 q3 q4 q5 q6 q7 q8 c0 c1 c2 c3 c4 c5 c6 c7 c8
 else
 none
 else
 none
 else
 rec v14 v15 (IntKind.wrap .i64 (v16 + (1 : Int))) p0 p1 p2 p3 p4 p5 p6 p7 p8 q0 q1 q2 q3 q4 q5 q6 q7 q8 c0 c1 c2 c3 c4 c5 c6 c7 c8
 else
 bif v16 == (1 : Int) then
 bif decide (c4 ≤ (0 : Int)) then
 bif v14 == (0 : Int) then
 bif v16 == (0 : Int) then
 bif decide (c0 > (0 : Int)) then
 kr false p0 p1 p2 p3 p4 p5 p6 p7 p8 q0 q1 q2 q3 q4 q5 q6 q7 q8 c0 c1 c2 c3 c4 c5 c6 c7 c8
 else
 rec v14 v15 (IntKind.wrap .i64 (v16 + (1 : Int))) p0 p1 p2 p3 p4 p5 p6 p7 p8 q0 q1 q2 q3 q4 q5 q6 q7 q8 c0 c1 c2 c3 c4 c5 c6 c7 c8
 else
 bif v16 == (1 : Int) then
 bif decide (c1 > (0 : Int)) then
 kr false p0 p1 p2 p3 p4 p5 p6 p7 p8 q0 q1 q2 q3 q4 q5 q6 q7 q8 c0 c1 c2 c3 c4 c5 c6 c7 c8
 else
 rec v14 v15 (IntKind.wrap .i64 (v16 + (1 : Int))) p0 p1 p2 p3 p4 p5 p6 p7 p8 q0 q1 q2 q3 q4 q5 q6 q7 q8 c0 c1 c2 c3 c4 c5 c6 c7 c8
 else
 bif v16 == (2 : Int) then
 bif decide (c2 > (0 : Int)) then
 kr false p0 p1 p2 p3 p4 p5 p6 p7 p8 q0 q1 q2 q3 q4 q5 q6 q7 q8 c0 c1 c2 c3 c4 c5 c6 c7 c8
 else
 rec v14 v15 (IntKind.wrap .i64 (v16 + (1 : Int))) p0 p1 p2 p3 p4 p5 p6 p7 p8 q0 q1 q2 q3 q4 q5 q6 q7 q8 c0 c1 c2 c3 c4 c5 c6 c7 c8
 else
 none
 else
 bif v14 == (1 : Int) then
 bif v16 == (0 : Int) then
 bif decide (c3 > (0 : Int)) then
 kr false p0 p1 p2 p3 p4 p5 p6 p7 p8 q0 q1 q2 q3 q4 q5 q6 q7 q8 c0 c1 c2 c3 c4 c5 c6 c7 c8
 else
 rec v14 v15 (IntKind.wrap .i64 (v16 + (1 : Int))) p0 p1 p2 p3 p4 p5 p6 p7 p8 q0 q1 q2 q3 q4 q5 q6 q7 q8 c0 c1 c2 c3 c4 c5 c6 c7 c8
 else
 bif v16 == (1 : Int) then
 bif decide (c4 > (0 : Int)) then
 kr false p0 p1 p2 p3 p4 p5 p6 p7 p8 q0 q1 q2 q3 q4 q5 q6 q7 q8 c0 c1 c2 c3 c4 c5 c6 c7 c8
 else
 rec v14 v15 (IntKind.wrap .i64 (v16 + (1 : Int))) p0 p1 p2 p3 p4 p5 p6 p7 p8 q0 q1 q2 q3 q4 q5 q6 q7 q8 c0 c1 c2 c3 c4 c5 c6 c7 c8
 else
 bif v16 == (2 : Int) then
 bif decide (c5 > (0 : Int)) then
 kr false p0 p1 p2 p3 p4 p5 p6 p7 p8 q0 q1 q2 q3 q4 q5 q6 q7 q8 c0 c1 c2 c3 c4 c5 c6 c7 c8
 else
 rec v14 v15 (IntKind.wrap .i64 (v16 + (1 : Int))) p0 p1 p2 p3 p4 p5 p6 p7 p8 q0 q1 q2 q3 q4 q5 q6 q7 q8 c0 c1 c2 c3 c4 c5 c6 c7 c8
 else
 none
 else
 bif v14 == (2 : Int) then
 bif v16 == (0 : Int) then
 bif decide (c6 > (0 : Int)) then
 kr false p0 p1 p2 p3 p4 p5 p6 p7 p8 q0 q1 q2 q3 q4 q5 q6 q7 q8 c0 c1 c2 c3 c4 c5 c6 c7 c8
 else
 rec v14 v15 (IntKind.wrap .i64 (v16 + (1 : Int))) p0 p1 p2 p3 p4 p5 p6 p7 p8 q0 q1 q2 q3 q4 q5 q6 q7 q8 c0 c1 c2 c3 c4 c5 c6 c7 c8
 else
 bif v16 == (1 : Int) then
 bif decide (c7 > (0 : Int)) then
 kr false p0 p1 p2 p3 p4 p5 p6 p7 p8 q0 q1 q2 q3 q4 q5 q6 q7 q8 c0 c1 c2 c3 c4 c5 c6 c7 c8
 else
 rec v14 v15 (IntKind.wrap .i64 (v16 + (1 : Int))) p0 p1 p2 p3 p4 p5 p6 p7 p8 q0 q1 q2 q3 q4 q5 q6 q7 q8 c0 c1 c2 c3 c4 c5 c6 c7 c8
 else
 bif v16 == (2 : Int) then
 bif decide (c8 > (0 : Int)) then
 kr false p0 p1 p2 p3 p4 p5 p6 p7 p8 q0 q1 q2 q3 q4 q5 q6 q7 q8 c0 c1 c2 c3 c4 c5 c6 c7 c8
 else
 rec v14 v15 (IntKind.wrap .i64 (v16 + (1 : Int))) p0 p1 p2 p3 p4 p5 p6 p7 p8 q0 q1 q2 q3 q4 q5 q6 q7 q8 c0 c1 c2 c3 c4 c5 c6 c7 c8
 else
 none
 else
 none
 else
 rec v14 v15 (IntKind.wrap .i64 (v16 + (1 : Int))) p0 p1 p2 p3 p4 p5 p6 p7 p8 q0 q1 q2 q3 q4 q5 q6 q7 q8 c0 c1 c2 c3 c4 c5 c6 c7 c8
 else
 bif v16 == (2 : Int) then
 bif decide (c5 ≤ (0 : Int)) then
 bif v14 == (0 : Int) then
 bif v16 == (0 : Int) then
 bif decide (c0 > (0 : Int)) then
 kr false p0 p1 p2 p3 p4 p5 p6 p7 p8 q0 q1 q2 q3 q4 q5 q6 q7 q8 c0 c1 c2 c3 c4 c5 c6 c7 c8
 else
 rec v14 v15 (IntKind.wrap .i64 (v16 + (1 : Int))) p0 p1 p2 p3 p4 p5 p6 p7 p8 q0 q1 q2 q3 q4 q5 q6 q7 q8 c0 c1 c2 c3 c4 c5 c6 c7 c8
 else
 bif v16 == (1 : Int) then
 bif decide (c1 > (0 : Int)) then
 kr false p0 p1 p2 p3 p4 p5 p6 p7 p8 q0 q1 q2 q3 q4 q5 q6 q7 q8 c0 c1 c2 c3 c4 c5 c6 c7 c8
 else
 rec v14 v15 (IntKind.wrap .i64 (v16 + (1 : Int))) p0 p1 p2 p3 p4 p5 p6 p7 p8 q0 q1 q2 q3 q4 q5 q6 q7 q8 c0 c1 c2 c3 c4 c5 c6 c7 c8
 else
 bif v16 == (2 : Int) then
 bif decide (c2 > (0 : Int)) then
 kr false p0 p1 p2 p3 p4 p5 p6 p7 p8 q0 q1 q2 q3 q4 q5 q6 q7 q8 c0 c1 c2 c3 c4 c5 c6 c7 c8
 else
 rec v14 v15 (IntKind.wrap .i64 (v16 + (1 : Int))) p0 p1 p2 p3 p4 p5 p6 p7 p8 q0 q1 q2 q3 q4 q5 q6 q7 q8 c0 c1 c2 c3 c4 c5 c6 c7 c8
 else
 none
 else
 bif v14 == (1 : Int) then
 bif v16 == (0 : Int) then
 bif decide (c3 > (0 : Int)) then
 kr false p0 p1 p2 p3 p4 p5 p6 p7 p8 q0 q1 q2 q3 q4 q5 q6 q7 q8 c0 c1 c2 c3 c4 c5 c6 c7 c8
 else
 rec v14 v15 (IntKind.wrap .i64 (v16 + (1 : Int))) p0 p1 p2 p3 p4 p5 p6 p7 p8 q0 q1 q2 q3 q4 q5 q6 q7 q8 c0 c1 c2 c3 c4 c5 c6 c7 c8
 else
 bif v16 == (1 : Int) then
 bif decide (c4 > (0 : Int)) then
 kr false p0 p1 p2 p3 p4 p5 p6 p7 p8 q0 q1 q2 q3 q4 q5 q6 q7 q8 c0 c1 c2 c3 c4 c5 c6 c7 c8
 else
 rec v14 v15 (IntKind.wrap .i64 (v16 + (1 : Int))) p0 p1 p2 p3 p4 p5 p6 p7 p8 q0 q1 q2 q3 q4 q5 q6 q7 q8 c0 c1 c2 c3 c4 c5 c6 c7 c8
 else
 bif v16 == (2 : Int) then
 bif decide (c5 > (0 : Int)) then
 kr false p0 p1 p2 p3 p4 p5 p6 p7 p8 q0 q1 q2 q3 q4 q5 q6 q7 q8 c0 c1 c2 c3 c4 c5 c6 c7 c8
 else
 rec v14 v15 (IntKind.wrap .i64 (v16 + (1 : Int))) p0 p1 p2 p3 p4 p5 p6 p7 p8 q0 q1 q2 q3 q4 q5 q6 q7 q8 c0 c1 c2 c3 c4 c5 c6 c7 c8
 else
 none
 else
 bif v14 == (2 : Int) then
 bif v16 == (0 : Int) then
 bif decide (c6 > (0 : Int)) then
 kr false p0 p1 p2 p3 p4 p5 p6 p7 p8 q0 q1 q2 q3 q4 q5 q6 q7 q8 c0 c1 c2 c3 c4 c5 c6 c7 c8
 else
 rec v14 v15 (IntKind.wrap .i64 (v16 + (1 : Int))) p0 p1 p2 p3 p4 p5 p6 p7 p8 q0 q1 q2 q3 q4 q5 q6 q7 q8 c0 c1 c2 c3 c4 c5 c6 c7 c8
 else
 bif v16 == (1 : Int) then
 bif decide (c7 > (0 : Int)) then
 kr false p0 p1 p2 p3 p4 p5 p6 p7 p8 q0 q1 q2 q3 q4 q5 q6 q7 q8 c0 c1 c2 c3 c4 c5 c6 c7 c8
 else
 rec v14 v15 (IntKind.wrap .i64 (v16 + (1 : Int))) p0 p1 p2 p3 p4 p5 p6 p7 p8 q0 q1 q2 q3 q4 q5 q6 q7 q8 c0 c1 c2 c3 c4 c5 c6 c7 c8
 else
 bif v16 == (2 : Int) then
 bif decide (c8 > (0 : Int)) then
 kr false p0 p1 p2 p3 p4 p5 p6 p7 p8 q0 q1 q2 q3 q4 q5 q6 q7 q8 c0 c1 c2 c3 c4 c5 c6 c7 c8
 else
 rec v14 v15 (IntKind.wrap .i64 (v16 + (1 : Int))) p0 p1 p2 p3 p4 p5 p6 p7 p8 q0 q1 q2 q3 q4 q5 q6 q7 q8 c0 c1 c2 c3 c4 c5 c6 c7 c8
 else
 none
 else
 none
 else
 rec v14 v15 (IntKind.wrap .i64 (v16 + (1 : Int))) p0 p1 p2 p3 p4 p5 p6 p7 p8 q0 q1 q2 q3 q4 q5 q6 q7 q8 c0 c1 c2 c3 c4 c5 c6 c7 c8
 else
 none
 else
 bif v15 == (2 : Int) then
 bif v16 == (0 : Int) then
 bif decide (c6 ≤ (0 : Int)) then
 bif v14 == (0 : Int) then
 bif v16 == (0 : Int) then
 bif decide (c0 > (0 : Int)) then
 kr false p0 p1 p2 p3 p4 p5 p6 p7 p8 q0 q1 q2 q3 q4 q5 q6 q7 q8 c0 c1 c2 c3 c4 c5 c6 c7 c8
 else
 rec v14 v15 (IntKind.wrap .i64 (v16 + (1 : Int))) p0 p1 p2 p3 p4 p5 p6 p7 p8 q0 q1 q2 q3 q4 q5 q6 q7 q8 c0 c1 c2 c3 c4 c5 c6 c7 c8
 else
 bif v16 == (1 : Int) then
 bif decide (c1 > (0 : Int)) then
 kr false p0 p1 p2 p3 p4 p5 p6 p7 p8 q0 q1 q2 q3 q4 q5 q6 q7 q8 c0 c1 c2 c3 c4 c5 c6 c7 c8
 else
 rec v14 v15 (IntKind.wrap .i64 (v16 + (1 : Int))) p0 p1 p2 p3 p4 p5 p6 p7 p8 q0 q1 q2 q3 q4 q5 q6 q7 q8 c0 c1 c2 c3 c4 c5 c6 c7 c8
 else
 bif v16 == (2 : Int) then
 bif decide (c2 > (0 : Int)) then
 kr false p0 p1 p2 p3 p4 p5 p6 p7 p8 q0 q1 q2 q3 q4 q5 q6 q7 q8 c0 c1 c2 c3 c4 c5 c6 c7 c8
 else
 rec v14 v15 (IntKind.wrap .i64 (v16 + (1 : Int))) p0 p1 p2 p3 p4 p5 p6 p7 p8 q0 q1 q2 q3 q4 q5 q6 q7 q8 c0 c1 c2 c3 c4 c5 c6 c7 c8
 else
 none
 else
 bif v14 == (1 : Int) then
 bif v16 == (0 : Int) then
 bif decide (c3 > (0 : Int)) then
 kr false p0 p1 p2 p3 p4 p5 p6 p7 p8 q0 q1 q2 q3 q4 q5 q6 q7 q8 c0 c1 c2 c3 c4 c5 c6 c7 c8
 else
 rec v14 v15 (IntKind.wrap .i64 (v16 + (1 : Int))) p0 p1 p2 p3 p4 p5 p6 p7 p8 q0 q1 q2 q3 q4 q5 q6 q7 q8 c0 c1 c2 c3 c4 c5 c6 c7 c8
 else
 bif v16 == (1 : Int) then
 bif decide (c4 > (0 : Int)) then
 kr false p0 p1 p2 p3 p4 p5 p6 p7 p8 q0 q1 q2 q3 q4 q5 q6 q7 q8 c0 c1 c2 c3 c4 c5 c6 c7 c8
 else
 rec v14 v15 (IntKind.wrap .i64 (v16 + (1 : Int))) p0 p1 p2 p3 p4 p5 p6 p7 p8 q0 q1 q2 q3 q4 q5 q6 q7 q8 c0 c1 c2 c3 c4 c5 c6 c7 c8
 else
 bif v16 == (2 : Int) then
 bif decide (c5 > (0 : Int)) then
 kr false p0 p1 p2 p3 p4 p5 p6 p7 p8 q0 q1 q2 q3 q4 q5 q6 q7 q8 c0 c1 c2 c3 c4 c5 c6 c7 c8
 else
 rec v14 v15 (IntKind.wrap .i64 (v16 + (1 : Int))) p0 p1 p2 p3 p4 p5 p6 p7 p8 q0 q1 q2 q3 q4 q5 q6 q7 q8 c0 c1 c2 c3 c4 c5 c6 c7 c8
 else
 none
 else
 bif v14 == (2 : Int) then
 bif v16 == (0 : Int) then
 bif decide (c6 > (0 : Int)) then
 kr false p0 p1 p2 p3 p4 p5 p6 p7 p8 q0 q1 q2 q3 q4 q5 q6 q7 q8 c0 c1 c2 c3 c4 c5 c6 c7 c8
 else
 rec v14 v15 (IntKind.wrap .i64 (v16 + (1 : Int))) p0 p1 p2 p3 p4 p5 p6 p7 p8 q0 q1 q2 q3 q4 q5 q6 q7 q8 c0 c1 c2 c3 c4 c5 c6 c7 c8
 else
 bif v16 == (1 : Int) then
 bif decide (c7 > (0 : Int)) then
 kr false p0 p1 p2 p3 p4 p5 p6 p7 p8 q0 q1 q2 q3 q4 q5 q6 q7 q8 c0 c1 c2 c3 c4 c5 c6 c7 c8
 else
 rec v14 v15 (IntKind.wrap .i64 (v16 + (1 : Int))) p0 p1 p2 p3 p4 p5 p6 p7 p8 q0 q1 q2 q3 q4 q5 q6 q7 q8 c0 c1 c2 c3 c4 c5 c6 c7 c8
 else
 bif v16 == (2 : Int) then
 bif decide (c8 > (0 : Int)) then
 kr false p0 p1 p2 p3 p4 p5 p6 p7 p8 q0 q1 q2 q3 q4 q5 q6 q7 q8 c0 c1 c2 c3 c4 c5 c6 c7 c8
 else
 rec v14 v15 (IntKind.wrap .i64 (v16 + (1 : Int))) p0 p1 p2 p3 p4 p5 p6 p7 p8 q0 q1 q2 q3 q4 q5 q6 q7 q8 c0 c1 c2 c3 c4 c5 c6 c7 c8
 else
 none
 else
 none
 else
 rec v14 v15 (IntKind.wrap .i64 (v16 + (1 : Int))) p0 p1 p2 p3 p4 p5 p6 p7 p8 q0 q1 q2 q3 q4 q5 q6 q7 q8 c0 c1 c2 c3 c4 c5 c6 c7 c8
 else
 bif v16 == (1 : Int) then
 bif decide (c7 ≤ (0 : Int)) then
 bif v14 == (0 : Int) then
 bif v16 == (0 : Int) then
 bif decide (c0 > (0 : Int)) then
 kr false p0 p1 p2 p3 p4 p5 p6 p7 p8 q0 q1 q2 q3 q4 q5 q6 q7 q8 c0 c1 c2 c3 c4 c5 c6 c7 c8
 else
 rec v14 v15 (IntKind.wrap .i64 (v16 + (1 : Int))) p0 p1 p2 p3 p4 p5 p6 p7 p8 q0 q1 q2 q3 q4 q5 q6 q7 q8 c0 c1 c2 c3 c4 c5 c6 c7 c8
 else
 bif v16 == (1 : Int) then
 bif decide (c1 > (0 : Int)) then
 kr false p0 p1 p2 p3 p4 p5 p6 p7 p8 q0 q1 q2 q3 q4 q5 q6 q7 q8 c0 c1 c2 c3 c4 c5 c6 c7 c8
 else
 rec v14 v15 (IntKind.wrap .i64 (v16 + (1 : Int))) p0 p1 p2 p3 p4 p5 p6 p7 p8 q0 q1 q2 q3 q4 q5 q6 q7 q8 c0 c1 c2 c3 c4 c5 c6 c7 c8
 else
 bif v16 == (2 : Int) then
 bif decide (c2 > (0 : Int)) then
 kr false p0 p1 p2 p3 p4 p5 p6 p7 p8 q0 q1 q2 q3 q4 q5 q6 q7 q8 c0 c1 c2 c3 c4 c5 c6 c7 c8
 else
 rec v14 v15 (IntKind.wrap .i64 (v16 + (1 : Int))) p0 p1 p2 p3 p4 p5 p6 p7 p8 q0 q1 q2 q3 q4 q5 q6 q7 q8 c0 c1 c2 c3 c4 c5 c6 c7 c8
 else
 none
 else
 bif v14 == (1 : Int) then
 bif v16 == (0 : Int) then
 bif decide (c3 > (0 : Int)) then
 kr false p0 p1 p2 p3 p4 p5 p6 p7 p8 q0 q1 q2 q3 q4 q5 q6 q7 q8 c0 c1 c2 c3 c4 c5 c6 c7 c8
 else
 rec v14 v15 (IntKind.wrap .i64 (v16 + (1 : Int))) p0 p1 p2 p3 p4 p5 p6 p7 p8 q0 q1 q2 q3 q4 q5 q6 q7 q8 c0 c1 c2 c3 c4 c5 c6 c7 c8
 else
 bif v16 == (1 : Int) then
 bif decide (c4 > (0 : Int)) then
 kr false p0 p1 p2 p3 p4 p5 p6 p7 p8 q0 q1 q2 q3 q4 q5 q6 q7 q8 c0 c1 c2 c3 c4 c5 c6 c7 c8
 else
 rec v14 v15 (IntKind.wrap .i64 (v16 + (1 : Int))) p0 p1 p2 p3 p4 p5 p6 p7 p8 q0 q1 q2 q3 q4 q5 q6 q7 q8 c0 c1 c2 c3 c4 c5 c6 c7 c8
 else
 bif v16 == (2 : Int) then
 bif decide (c5 > (0 : Int)) then
 kr false p0 p1 p2 p3 p4 p5 p6 p7 p8 q0 q1 q2 q3 q4 q5 q6 q7 q8 c0 c1 c2 c3 c4 c5 c6 c7 c8
 else
 rec v14 v15 (IntKind.wrap .i64 (v16 + (1 : Int))) p0 p1 p2 p3 p4 p5 p6 p7 p8 q0 q1 q2 q3 q4 q5 q6 q7 q8 c0 c1 c2 c3 c4 c5 c6 c7 c8
 else
 none
 else
 bif v14 == (2 : Int) then
 bif v16 == (0 : Int) then
 bif decide (c6 > (0 : Int)) then
 kr false p0 p1 p2 p3 p4 p5 p6 p7 p8 q0 q1 q2 q3 q4 q5 q6 q7 q8 c0 c1 c2 c3 c4 c5 c6 c7 c8
 else
 rec v14 v15 (IntKind.wrap .i64 (v16 + (1 : Int))) p0 p1 p2 p3 p4 p5 p6 p7 p8 q0 q1 q2 q3 q4 q5 q6 q7 q8 c0 c1 c2 c3 c4 c5 c6 c7 c8
 else
 bif v16 == (1 : Int) then
 bif decide (c7 > (0 : Int)) then
 kr false p0 p1 p2 p3 p4 p5 p6 p7 p8 q0 q1 q2 q3 q4 q5 q6 q7 q8 c0 c1 c2 c3 c4 c5 c6 c7 c8
 else
 rec v14 v15 (IntKind.wrap .i64 (v16 + (1 : Int))) p0 p1 p2 p3 p4 p5 p6 p7 p8 q0 q1 q2 q3 q4 q5 q6 q7 q8 c0 c1 c2 c3 c4 c5 c6 c7 c8
 else
 bif v16 == (2 : Int) then
 bif decide (c8 > (0 : Int)) then
 kr false p0 p1 p2 p3 p4 p5 p6 p7 p8 q0 q1 q2 q3 q4 q5 q6 q7 q8 c0 c1 c2 c3 c4 c5 c6 c7 c8
 else
 rec v14 v15 (IntKind.wrap .i64 (v16 + (1 : Int))) p0 p1 p2 p3 p4 p5 p6 p7 p8 q0 q1 q2 q3 q4 q5 q6 q7 q8 c0 c1 c2 c3 c4 c5 c6 c7 c8
 else
 none
 else
 none
 else
 rec v14 v15 (IntKind.wrap .i64 (v16 + (1 : Int))) p0 p1 p2 p3 p4 p5 p6 p7 p8 q0 q1 q2 q3 q4 q5 q6 q7 q8 c0 c1 c2 c3 c4 c5 c6 c7 c8
 else
 bif v16 == (2 : Int) then
 bif decide (c8 ≤ (0 : Int)) then
 bif v14 == (0 : Int) then
 bif v16 == (0 : Int) then
 bif decide (c0 > (0 : Int)) then
 kr false p0 p1 p2 p3 p4 p5 p6 p7 p8 q0 q1 q2 q3 q4 q5 q6 q7 q8 c0 c1 c2 c3 c4 c5 c6 c7 c8
 else
 rec v14 v15 (IntKind.wrap .i64 (v16 + (1 : Int))) p0 p1 p2 p3 p4 p5 p6 p7 p8 q0 q1 q2 q3 q4 q5 q6 q7 q8 c0 c1 c2 c3 c4 c5 c6 c7 c8
 else
 bif v16 == (1 : Int) then
 bif decide (c1 > (0 : Int)) then
 kr false p0 p1 p2 p3 p4 p5 p6 p7 p8 q0 q1 q2 q3 q4 q5 q6 q7 q8 c0 c1 c2 c3 c4 c5 c6 c7 c8
 else
 rec v14 v15 (IntKind.wrap .i64 (v16 + (1 : Int))) p0 p1 p2 p3 p4 p5 p6 p7 p8 q0 q1 q2 q3 q4 q5 q6 q7 q8 c0 c1 c2 c3 c4 c5 c6 c7 c8
 else
 bif v16 == (2 : Int) then
 bif decide (c2 > (0 : Int)) then
 kr false p0 p1 p2 p3 p4 p5 p6 p7 p8 q0 q1 q2 q3 q4 q5 q6 q7 q8 c0 c1 c2 c3 c4 c5 c6 c7 c8
 else
 rec v14 v15 (IntKind.wrap .i64 (v16 + (1 : Int))) p0 p1 p2 p3 p4 p5 p6 p7 p8 q0 q1 q2 q3 q4 q5 q6 q7 q8 c0 c1 c2 c3 c4 c5 c6 c7 c8
 else
 none
 else
 bif v14 == (1 : Int) then
 bif v16 == (0 : Int) then
 bif decide (c3 > (0 : Int)) then
 kr false p0 p1 p2 p3 p4 p5 p6 p7 p8 q0 q1 q2 q3 q4 q5 q6 q7 q8 c0 c1 c2 c3 c4 c5 c6 c7 c8
 else
 rec v14 v15 (IntKind.wrap .i64 (v16 + (1 : Int))) p0 p1 p2 p3 p4 p5 p6 p7 p8 q0 q1 q2 q3 q4 q5 q6 q7 q8 c0 c1 c2 c3 c4 c5 c6 c7 c8
 else
 bif v16 == (1 : Int) then
 bif decide (c4 > (0 : Int)) then
 kr false p0 p1 p2 p3 p4 p5 p6 p7 p8 q0 q1 q2 q3 q4 q5 q6 q7 q8 c0 c1 c2 c3 c4 c5 c6 c7 c8
 else
 rec v14 v15 (IntKind.wrap .i64 (v16 + (1 : Int))) p0 p1 p2 p3 p4 p5 p6 p7 p8 q0 q1 q2 q3 q4 q5 q6 q7 q8 c0 c1 c2 c3 c4 c5 c6 c7 c8
 else
 bif v16 == (2 : Int) then
 bif decide (c5 > (0 : Int)) then
 kr false p0 p1 p2 p3 p4 p5 p6 p7 p8 q0 q1 q2 q3 q4 q5 q6 q7 q8 c0 c1 c2 c3 c4 c5 c6 c7 c8
 else
 rec v14 v15 (IntKind.wrap .i64 (v16 + (1 : Int))) p0 p1 p2 p3 p4 p5 p6 p7 p8 q0 q1 q2 q3 q4 q5 q6 q7 q8 c0 c1 c2 c3 c4 c5 c6 c7 c8
 else
 none
 else
 bif v14 == (2 : Int) then
 bif v16 == (0 : Int) then
 bif decide (c6 > (0 : Int)) then
 kr false p0 p1 p2 p3 p4 p5 p6 p7 p8 q0 q1 q2 q3 q4 q5 q6 q7 q8 c0 c1 c2 c3 c4 c5 c6 c7 c8
 else
 rec v14 v15 (IntKind.wrap .i64 (v16 + (1 : Int))) p0 p1 p2 p3 p4 p5 p6 p7 p8 q0 q1 q2 q3 q4 q5 q6 q7 q8 c0 c1 c2 c3 c4 c5 c6 c7 c8
 else
 bif v16 == (1 : Int) then
 bif decide (c7 > (0 : Int)) then
 kr false p0 p1 p2 p3 p4 p5 p6 p7 p8 q0 q1 q2 q3 q4 q5 q6 q7 q8 c0 c1 c2 c3 c4 c5 c6 c7 c8
 else
 rec v14 v15 (IntKind.wrap .i64 (v16 + (1 : Int))) p0 p1 p2 p3 p4 p5 p6 p7 p8 q0 q1 q2 q3 q4 q5 q6 q7 q8 c0 c1 c2 c3 c4 c5 c6 c7 c8
 else
 bif v16 == (2 : Int) then
 bif decide (c8 > (0 : Int)) then
 kr false p0 p1 p2 p3 p4 p5 p6 p7 p8 q0 q1 q2 q3 q4 q5 q6 q7 q8 c0 c1 c2 c3 c4 c5 c6 c7 c8
 else
 rec v14 v15 (IntKind.wrap .i64 (v16 + (1 : Int))) p0 p1 p2 p3 p4 p5 p6 p7 p8 q0 q1 q2 q3 q4 q5 q6 q7 q8 c0 c1 c2 c3 c4 c5 c6 c7 c8
 else
 none
 else
 none
 else
 rec v14 v15 (IntKind.wrap .i64 (v16 + (1 : Int))) p0 p1 p2 p3 p4 p5 p6 p7 p8 q0 q1 q2 q3 q4 q5 q6 q7 q8 c0 c1 c2 c3 c4 c5 c6 c7 c8
 else
 none
 else
 none
 else
 rec v14 v15 (IntKind.wrap .i64 (v16 + (1 : Int))) p0 p1 p2 p3 p4 p5 p6 p7 p8 q0 q1 q2 q3 q4 q5 q6 q7 q8 c0 c1 c2 c3 c4 c5 c6 c7 c8
 else
 bif v15 == (1 : Int) then
 bif decide (c4 ≤ (0 : Int)) then
 bif v15 == (0 : Int) then
 bif v16 == (0 : Int) then
 bif decide (c0 ≤ (0 : Int)) then
 bif v14 == (0 : Int) then
 bif v16 == (0 : Int) then
 bif decide (c0 > (0 : Int)) then
 kr false p0 p1 p2 p3 p4 p5 p6 p7 p8 q0 q1 q2 q3 q4 q5 q6 q7 q8 c0 c1 c2 c3 c4 c5 c6 c7 c8
 else
 rec v14 v15 (IntKind.wrap .i64 (v16 + (1 : Int))) p0 p1 p2 p3 p4 p5 p6 p7 p8 q0 q1 q2 q3 q4 q5 q6 q7 q8 c0 c1 c2 c3 c4 c5 c6 c7 c8
 else
 bif v16 == (1 : Int) then
 bif decide (c1 > (0 : Int)) then
 kr false p0 p1 p2 p3 p4 p5 p6 p7 p8 q0 q1 q2 q3 q4 q5 q6 q7 q8 c0 c1 c2 c3 c4 c5 c6 c7 c8
 else
 rec v14 v15 (IntKind.wrap .i64 (v16 + (1 : Int))) p0 p1 p2 p3 p4 p5 p6 p7 p8 q0 q1 q2 q3 q4 q5 q6 q7 q8 c0 c1 c2 c3 c4 c5 c6 c7 c8
 else
 bif v16 == (2 : Int) then
 bif decide (c2 > (0 : Int)) then
 kr false p0 p1 p2 p3 p4 p5 p6 p7 p8 q0 q1 q2 q3 q4 q5 q6 q7 q8 c0 c1 c2 c3 c4 c5 c6 c7 c8
 else
 rec v14 v15 (IntKind.wrap .i64 (v16 + (1 : Int))) p0 p1 p2 p3 p4 p5 p6 p7 p8 q0 q1 q2 q3 q4 q5 q6 q7 q8 c0 c1 c2 c3 c4 c5 c6 c7 c8
 else
 none
 else
 bif v14 == (1 : Int) then
 bif v16 == (0 : Int) then
 bif decide (c3 > (0 : Int)) then
 kr false p0 p1 p2 p3 p4 p5 p6 p7 p8 q0 q1 q2 q3 q4 q5 q6 q7 q8 c0 c1 c2 c3 c4 c5 c6 c7 c8
 else
 rec v14 v15 (IntKind.wrap .i64 (v16 + (1 : Int))) p0 p1 p2 p3 p4 p5 p6 p7 p8 q0 q1 q2 q3 q4 q5 q6 q7 q8 c0 c1 c2 c3 c4 c5 c6 c7 c8
 else
 bif v16 == (1 : Int) then
 bif decide (c4 > (0 : Int)) then
 kr false p0 p1 p2 p3 p4 p5 p6 p7 p8 q0 q1 q2 q3 q4 q5 q6 q7 q8 c0 c1 c2 c3 c4 c5 c6 c7 c8
 else
 rec v14 v15 (IntKind.wrap .i64 (v16 + (1 : Int))) p0 p1 p2 p3 p4 p5 p6 p7 p8 q0 q1 q2 q3 q4 q5 q6 q7 q8 c0 c1 c2 c3 c4 c5 c6 c7 c8
 else
 bif v16 == (2 : Int) then
 bif decide (c5 > (0 : Int)) then
 kr false p0 p1 p2 p3 p4 p5 p6 p7 p8 q0 q1 q2 q3 q4 q5 q6 q7 q8 c0 c1 c2 c3 c4 c5 c6 c7 c8
 else
 rec v14 v15 (IntKind.wrap .i64 (v16 + (1 : Int))) p0 p1 p2 p3 p4 p5 p6 p7 p8 q0 q1 q2 q3 q4 q5 q6 q7 q8 c0 c1 c2 c3 c4 c5 c6 c7 c8
 else
 none
 else
 bif v14 == (2 : Int) then
 bif v16 == (0 : Int) then
 bif decide (c6 > (0 : Int)) then
 kr false p0 p1 p2 p3 p4 p5 p6 p7 p8 q0 q1 q2 q3 q4 q5 q6 q7 q8 c0 c1 c2 c3 c4 c5 c6 c7 c8
 else
 rec v14 v15 (IntKind.wrap .i64 (v16 + (1 : Int))) p0 p1 p2 p3 p4 p5 p6 p7 p8 q0 q1 q2 q3 q4 q5 q6 q7 q8 c0 c1 c2 c3 c4 c5 c6 c7 c8
 else
 bif v16 == (1 : Int) then
 bif decide (c7 > (0 : Int)) then
 kr false p0 p1 p2 p3 p4 p5 p6 p7 p8 q0 q1 q2 q3 q4 q5 q6 q7 q8 c0 c1 c2 c3 c4 c5 c6 c7 c8
 else
 rec v14 v15 (IntKind.wrap .i64 (v16 + (1 : Int))) p0 p1 p2 p3 p4 p5 p6 p7 p8 q0 q1 q2 q3 q4 q5 q6 q7 q8 c0 c1 c2 c3 c4 c5 c6 c7 c8
 else
 bif v16 == (2 : Int) then
 bif decide (c8 > (0 : Int)) then
 kr false p0 p1 p2 p3 p4 p5 p6 p7 p8 q0 q1 q2 q3 q4 q5 q6 q7 q8 c0 c1 c2 c3 c4 c5 c6 c7 c8
 else
 rec v14 v15 (IntKind.wrap .i64 (v16 + (1 : Int))) p0 p1 p2 p3 p4 p5 p6 p7 p8 q0 q1 q2 q3 q4 q5 q6 q7 q8 c0 c1 c2 c3 c4 c5 c6 c7 c8
 else
 none
 else
 none
 else
 rec v14 v15 (IntKind.wrap .i64 (v16 + (1 : Int))) p0 p1 p2 p3 p4 p5 p6 p7 p8 q0 q1 q2 q3 q4 q5 q6 q7 q8 c0 c1 c2 c3 c4 c5 c6 c7 c8
 else
 bif v16 == (1 : Int) then
 bif decide (c1 ≤ (0 : Int)) then
 bif v14 == (0 : Int) then
 bif v16 == (0 : Int) then
 bif decide (c0 > (0 : Int)) then
 kr false p0 p1 p2 p3 p4 p5 p6 p7 p8 q0 q1 q2 q3 q4 q5 q6 q7 q8 c0 c1 c2 c3 c4 c5 c6 c7 c8
 else
 rec v14 v15 (IntKind.wrap .i64 (v16 + (1 : Int))) p0 p1 p2 p3 p4 p5 p6 p7 p8 q0 q1 q2 q3 q4 q5 q6 q7 q8 c0 c1 c2 c3 c4 c5 c6 c7 c8
 else
 bif v16 == (1 : Int) then
 bif decide (c1 > (0 : Int)) then
 kr false p0 p1 p2 p3 p4 p5 p6 p7 p8 q0 q1 q2 q3 q4 q5 q6 q7 q8 c0 c1 c2 c3 c4 c5 c6 c7 c8
 else
 rec v14 v15 (IntKind.wrap .i64 (v16 + (1 : Int))) p0 p1 p2 p3 p4 p5 p6 p7 p8 q0 q1 q2 q3 q4 q5 q6 q7 q8 c0 c1 c2 c3 c4 c5 c6 c7 c8
 else
 bif v16 == (2 : Int) then
 bif decide (c2 > (0 : Int)) then
 kr false p0 p1 p2 p3 p4 p5 p6 p7 p8 q0 q1 q2 q3 q4 q5 q6 q7 q8 c0 c1 c2 c3 c4 c5 c6 c7 c8
 else
 rec v14 v15 (IntKind.wrap .i64 (v16 + (1 : Int))) p0 p1 p2 p3 p4 p5 p6 p7 p8 q0 q1 q2 q3 q4 q5 q6 q7 q8 c0 c1 c2 c3 c4 c5 c6 c7 c8
 else
 none
 else
 bif v14 == (1 : Int) then
 bif v16 == (0 : Int) then
 bif decide (c3 > (0 : Int)) then
 kr false p0 p1 p2 p3 p4 p5 p6 p7 p8 q0 q1 q2 q3 q4 q5 q6 q7 q8 c0 c1 c2 c3 c4 c5 c6 c7 c8
 else
 rec v14 v15 (IntKind.wrap .i64 (v16 + (1 : Int))) p0 p1 p2 p3 p4 p5 p6 p7 p8 q0 q1 q2 q3 q4 q5 q6 q7 q8 c0 c1 c2 c3 c4 c5 c6 c7 c8
 else
 bif v16 == (1 : Int) then
 bif decide (c4 > (0 : Int)) then
 kr false p0 p1 p2 p3 p4 p5 p6 p7 p8 q0 q1 q2 q3 q4 q5 q6 q7 q8 c0 c1 c2 c3 c4 c5 c6 c7 c8
 else
 rec v14 v15 (IntKind.wrap .i64 (v16 + (1 : Int))) p0 p1 p2 p3 p4 p5 p6 p7 p8 q0 q1 q2 q3 q4 q5 q6 q7 q8 c0 c1 c2 c3 c4 c5 c6 c7 c8
 else
 bif v16 == (2 : Int) then
 bif decide (c5 > (0 : Int)) then
 kr false p0 p1 p2 p3 p4 p5 p6 p7 p8 q0 q1 q2 q3 q4 q5 q6 q7 q8 c0 c1 c2 c3 c4 c5 c6 c7 c8
 else
 rec v14 v15 (IntKind.wrap .i64 (v16 + (1 : Int))) p0 p1 p2 p3 p4 p5 p6 p7 p8 q0 q1 q2 q3 q4 q5 q6 q7 q8 c0 c1 c2 c3 c4 c5 c6 c7 c8
 else
 none
 else
 bif v14 == (2 : Int) then
 bif v16 == (0 : Int) then
 bif decide (c6 > (0 : Int)) then
 kr false p0 p1 p2 p3 p4 p5 p6 p7 p8 q0 q1 q2 q3 q4 q5 q6 q7 q8 c0 c1 c2 c3 c4 c5 c6 c7 c8
 else
 rec v14 v15 (IntKind.wrap .i64 (v16 + (1 : Int))) p0 p1 p2 p3 p4 p5 p6 p7 p8 q0 q1 q2 q3 q4 q5 q6 q7 q8 c0 c1 c2 c3 c4 c5 c6 c7 c8
 else
 bif v16 == (1 : Int) then
 bif decide (c7 > (0 : Int)) then
 kr false p0 p1 p2 p3 p4 p5 p6 p7 p8 q0 q1 q2 q3 q4 q5 q6 q7 q8 c0 c1 c2 c3 c4 c5 c6 c7 c8
 else
 rec v14 v15 (IntKind.wrap .i64 (v16 + (1 : Int))) p0 p1 p2 p3 p4 p5 p6 p7 p8 q0 q1 q2 q3 q4 q5 q6 q7 q8 c0 c1 c2 c3 c4 c5 c6 c7 c8
 else
 bif v16 == (2 : Int) then
 bif decide (c8 > (0 : Int)) then
 kr false p0 p1 p2 p3 p4 p5 p6 p7 p8 q0 q1 q2 q3 q4 q5 q6 q7 q8 c0 c1 c2 c3 c4 c5 c6 c7 c8
 else
 rec v14 v15 (IntKind.wrap .i64 (v16 + (1 : Int))) p0 p1 p2 p3 p4 p5 p6 p7 p8 q0 q1 q2 q3 q4 q5 q6 q7 q8 c0 c1 c2 c3 c4 c5 c6 c7 c8
 else
 none
 else
 none
 else
 rec v14 v15 (IntKind.wrap .i64 (v16 + (1 : Int))) p0 p1 p2 p3 p4 p5 p6 p7 p8 q0 q1 q2 q3 q4 q5 q6 q7 q8 c0 c1 c2 c3 c4 c5 c6 c7 c8
 else
 bif v16 == (2 : Int) then
 bif decide (c2 ≤ (0 : Int)) then
 bif v14 == (0 : Int) then
 bif v16 == (0 : Int) then
 bif decide (c0 > (0 : Int)) then
 kr false p0 p1 p2 p3 p4 p5 p6 p7 p8 q0 q1 q2 q3 q4 q5 q6 q7 q8 c0 c1 c2 c3 c4 c5 c6 c7 c8
 else
 rec v14 v15 (IntKind.wrap .i64 (v16 + (1 : Int))) p0 p1 p2 p3 p4 p5 p6 p7 p8 q0 q1 q2 q3 q4 q5 q6 q7 q8 c0 c1 c2 c3 c4 c5 c6 c7 c8
 else
 bif v16 == (1 : Int) then
 bif decide (c1 > (0 : Int)) then
 kr false p0 p1 p2 p3 p4 p5 p6 p7 p8 q0 q1 q2 q3 q4 q5 q6 q7 q8 c0 c1 c2 c3 c4 c5 c6 c7 c8
 else
 rec v14 v15 (IntKind.wrap .i64 (v16 + (1 : Int))) p0 p1 p2 p3 p4 p5 p6 p7 p8 q0 q1 q2 q3 q4 q5 q6 q7 q8 c0 c1 c2 c3 c4 c5 c6 c7 c8
 else
 bif v16 == (2 : Int) then
 bif decide (c2 > (0 : Int)) then
 kr false p0 p1 p2 p3 p4 p5 p6 p7 p8 q0 q1 q2 q3 q4 q5 q6 q7 q8 c0 c1 c2 c3 c4 c5 c6 c7 c8
 else
 rec v14 v15 (IntKind.wrap .i64 (v16 + (1 : Int))) p0 p1 p2 p3 p4 p5 p6 p7 p8 q0 q1 q2 q3 q4 q5 q6 q7 q8 c0 c1 c2 c3 c4 c5 c6 c7 c8
 else
 none
 else
 bif v14 == (1 : Int) then
 bif v16 == (0 : Int) then
 bif decide (c3 > (0 : Int)) then
 kr false p0 p1 p2 p3 p4 p5 p6 p7 p8 q0 q1 q2 q3 q4 q5 q6 q7 q8 c0 c1 c2 c3 c4 c5 c6 c7 c8
 else
 rec v14 v15 (IntKind.wrap .i64 (v16 + (1 : Int))) p0 p1 p2 p3 p4 p5 p6 p7 p8 q0 q1 q2 q3 q4 q5 q6 q7 q8 c0 c1 c2 c3 c4 c5 c6 c7 c8
 else
 bif v16 == (1 : Int) then
 bif decide (c4 > (0 : Int)) then
 kr false p0 p1 p2 p3 p4 p5 p6 p7 p8 q0 q1 q2 q3 q4 q5 q6 q7 q8 c0 c1 c2 c3 c4 c5 c6 c7 c8
 else
 rec v14 v15 (IntKind.wrap .i64 (v16 + (1 : Int))) p0 p1 p2 p3 p4 p5 p6 p7 p8 q0 q1 q2 q3 q4 q5 q6 q7 q8 c0 c1 c2 c3 c4 c5 c6 c7 c8
 else
 bif v16 == (2 : Int) then
 bif decide (c5 > (0 : Int)) then
 kr false p0 p1 p2 p3 p4 p5 p6 p7 p8 q0 q1 q2 q3 q4 q5 q6 q7 q8 c0 c1 c2 c3 c4 c5 c6 c7 c8
 else
 rec v14 v15 (IntKind.wrap .i64 (v16 + (1 : Int))) p0 p1 p2 p3 p4 p5 p6 p7 p8 q0 q1 q2 q3 q4 q5 q6 q7 q8 c0 c1 c2 c3 c4 c5 c6 c7 c8
 else
 none
 else
 bif v14 == (2 : Int) then
 bif v16 == (0 : Int) then
 bif decide (c6 > (0 : Int)) then
 kr false p0 p1 p2 p3 p4 p5 p6 p7 p8 q0 q1 q2 q3 q4 q5 q6 q7 q8 c0 c1 c2 c3 c4 c5 c6 c7 c8
 else
 rec v14 v15 (IntKind.wrap .i64 (v16 + (1 : Int))) p0 p1 p2 p3 p4 p5 p6 p7 p8 q0 q1 q2 q3 q4 q5 q6 q7 q8 c0 c1 c2 c3 c4 c5 c6 c7 c8
 else
 bif v16 == (1 : Int) then
 bif decide (c7 > (0 : Int)) then
 kr false p0 p1 p2 p3 p4 p5 p6 p7 p8 q0 q1 q2 q3 q4 q5 q6 q7 q8 c0 c1 c2 c3 c4 c5 c6 c7 c8
 else
 rec v14 v15 (IntKind.wrap .i64 (v16 + (1 : Int))) p0 p1 p2 p3 p4 p5 p6 p7 p8 q0 q1 q2 q3 q4 q5 q6 q7 q8 c0 c1 c2 c3 c4 c5 c6 c7 c8
 else
 bif v16 == (2 : Int) then
 bif decide (c8 > (0 : Int)) then
 kr false p0 p1 p2 p3 p4 p5 p6 p7 p8 q0 q1 q2 q3 q4 q5 q6 q7 q8 c0 c1 c2 c3 c4 c5 c6 c7 c8
 else
 rec v14 v15 (IntKind.wrap .i64 (v16 + (1 : Int))) p0 p1 p2 p3 p4 p5 p6 p7 p8 q0 q1 q2 q3 q4 q5 q6 q7 q8 c0 c1 c2 c3 c4 c5 c6 c7 c8
 else
 none
 else
 none
 else
 rec v14 v15 (IntKind.wrap .i64 (v16 + (1 : Int))) p0 p1 p2 p3 p4 p5 p6 p7 p8 q0 q1 q2 q3 q4 q5 q6 q7 q8 c0 c1 c2 c3 c4 c5 c6 c7 c8
 else
 none
 else
 bif v15 == (1 : Int) then
 bif v16 == (0 : Int) then
 bif decide (c3 ≤ (0 : Int)) then
 bif v14 == (0 : Int) then
 bif v16 == (0 : Int) then
 bif decide (c0 > (0 : Int)) then
 kr false p0 p1 p2 p3 p4 p5 p6 p7 p8 q0 q1 q2 q3 q4 q5 q6 q7 q8 c0 c1 c2 c3 c4 c5 c6 c7 c8
 else
 rec v14 v15 (IntKind.wrap .i64 (v16 + (1 : Int))) p0 p1 p2 p3 p4 p5 p6 p7 p8 q0 q1 q2 q3 q4 q5 q6 q7 q8 c0 c1 c2 c3 c4 c5 c6 c7 c8
 else
 bif v16 == (1 : Int) then
 bif decide (c1 > (0 : Int)) then
 kr false p0 p1 p2 p3 p4 p5 p6 p7 p8 q0 q1 q2 q3 q4 q5 q6 q7 q8 c0 c1 c2 c3 c4 c5 c6 c7 c8
 else
 rec v14 v15 (IntKind.wrap .i64 (v16 + (1 : Int))) p0 p1 p2 p3 p4 p5 p6 p7 p8 q0 q1 q2 q3 q4 q5 q6 q7 q8 c0 c1 c2 c3 c4 c5 c6 c7 c8
 else
 bif v16 == (2 : Int) then
 bif decide (c2 > (0 : Int)) then
 kr false p0 p1 p2 p3 p4 p5 p6 p7 p8 q0 q1 q2 q3 q4 q5 q6 q7 q8 c0 c1 c2 c3 c4 c5 c6 c7 c8
 else
 rec v14 v15 (IntKind.wrap .i64 (v16 + (1 : Int))) p0 p1 p2 p3 p4 p5 p6 p7 p8 q0 q1 q2 q3 q4 q5 q6 q7 q8 c0 c1 c2 c3 c4 c5 c6 c7 c8
 else
 none
 else
 bif v14 == (1 : Int) then
 bif v16 == (0 : Int) then
 bif decide (c3 > (0 : Int)) then
 kr false p0 p1 p2 p3 p4 p5 p6 p7 p8 q0 q1 q2 q3 q4 q5 q6 q7 q8 c0 c1 c2 c3 c4 c5 c6 c7 c8
 else
 rec v14 v15 (IntKind.wrap .i64 (v16 + (1 : Int))) p0 p1 p2 p3 p4 p5 p6 p7 p8 q0 q1 q2 q3 q4 q5 q6 q7 q8 c0 c1 c2 c3 c4 c5 c6 c7 c8
 else
 bif v16 == (1 : Int) then
 bif decide (c4 > (0 : Int)) then
 kr false p0 p1 p2 p3 p4 p5 p6 p7 p8 q0 q1 q2 q3 q4 q5 q6 q7 q8 c0 c1 c2 c3 c4 c5 c6 c7 c8
 else
 rec v14 v15 (IntKind.wrap .i64 (v16 + (1 : Int))) p0 p1 p2 p3 p4 p5 p6 p7 p8 q0 q1 q2 q3 q4 q5 q6 q7 q8 c0 c1 c2 c3 c4 c5 c6 c7 c8
 else
 bif v16 == (2 : Int) then
 bif decide (c5 > (0 : Int)) then
 kr false p0 p1 p2 p3 p4 p5 p6 p7 p8 q0 q1 q2 q3 q4 q5 q6 q7 q8 c0 c1 c2 c3 c4 c5 c6 c7 c8
 else
 rec v14 v15 (IntKind.wrap .i64 (v16 + (1 : Int))) p0 p1 p2 p3 p4 p5 p6 p7 p8 q0 q1 q2 q3 q4 q5 q6 q7 q8 c0 c1 c2 c3 c4 c5 c6 c7 c8
 else
 none
 else
 bif v14 == (2 : Int) then
 bif v16 == (0 : Int) then
 bif decide (c6 > (0 : Int)) then
 kr false p0 p1 p2 p3 p4 p5 p6 p7 p8 q0 q1 q2 q3 q4 q5 q6 q7 q8 c0 c1 c2 c3 c4 c5 c6 c7 c8
 else
 rec v14 v15 (IntKind.wrap .i64 (v16 + (1 : Int))) p0 p1 p2 p3 p4 p5 p6 p7 p8 q0 q1 q2 q3 q4 q5 q6 q7 q8 c0 c1 c2 c3 c4 c5 c6 c7 c8
 else
 bif v16 == (1 : Int) then
 bif decide (c7 > (0 : Int)) then
 kr false p0 p1 p2 p3 p4 p5 p6 p7 p8 q0 q1 q2 q3 q4 q5 q6 q7 q8 c0 c1 c2 c3 c4 c5 c6 c7 c8
 else
 rec v14 v15 (IntKind.wrap .i64 (v16 + (1 : Int))) p0 p1 p2 p3 p4 p5 p6 p7 p8 q0 q1 q2 q3 q4 q5 q6 q7 q8 c0 c1 c2 c3 c4 c5 c6 c7 c8
 else
 bif v16 == (2 : Int) then
 bif decide (c8 > (0 : Int)) then
 kr false p0 p1 p2 p3 p4 p5 p6 p7 p8 q0 q1 q2 q3 q4 q5 q6 q7 q8 c0 c1 c2 c3 c4 c5 c6 c7 c8
 else
 rec v14 v15 (IntKind.wrap .i64 (v16 + (1 : Int))) p0 p1 p2 p3 p4 p5 p6 p7 p8 q0 q1 q2 q3 q4 q5 q6 q7 q8 c0 c1 c2 c3 c4 c5 c6 c7 c8
 else
 none
 else
 none
 else
 rec v14 v15 (IntKind.wrap .i64 (v16 + (1 : Int))) p0 p1 p2 p3 p4 p5 p6 p7 p8 q0 q1 q2 q3 q4 q5 q6 q7 q8 c0 c1 c2 c3 c4 c5 c6 c7 c8
 else
 bif v16 == (1 : Int) then
 bif decide (c4 ≤ (0 : Int)) then
 bif v14 == (0 : Int) then
 bif v16 == (0 : Int) then
 bif decide (c0 > (0 : Int)) then
 kr false p0 p1 p2 p3 p4 p5 p6 p7 p8 q0 q1 q2 q3 q4 q5 q6 q7 q8 c0 c1 c2 c3 c4 c5 c6 c7 c8
 else
 rec v14 v15 (IntKind.wrap .i64 (v16 + (1 : Int))) p0 p1 p2 p3 p4 p5 p6 p7 p8 q0 q1 q2 q3 q4 q5 q6 q7 q8 c0 c1 c2 c3 c4 c5 c6 c7 c8
 else
 bif v16 == (1 : Int) then
 bif decide (c1 > (0 : Int)) then
 kr false p0 p1 p2 p3 p4 p5 p6 p7 p8 q0 q1 q2 q3 q4 q5 q6 q7 q8 c0 c1 c2 c3 c4 c5 c6 c7 c8
 else
 rec v14 v15 (IntKind.wrap .i64 (v16 + (1 : Int))) p0 p1 p2 p3 p4 p5 p6 p7 p8 q0 q1 q2 q3 q4 q5 q6 q7 q8 c0 c1 c2 c3 c4 c5 c6 c7 c8
 else
 bif v16 == (2 : Int) then
 bif decide (c2 > (0 : Int)) then
 kr false p0 p1 p2 p3 p4 p5 p6 p7 p8 q0 q1 q2 q3 q4 q5 q6 q7 q8 c0 c1 c2 c3 c4 c5 c6 c7 c8
 else
 rec v14 v15 (IntKind.wrap .i64 (v16 + (1 : Int))) p0 p1 p2 p3 p4 p5 p6 p7 p8 q0 q1 q2 q3 q4 q5 q6 q7 q8 c0 c1 c2 c3 c4 c5 c6 c7 c8
 else
 none
 else
 bif v14 == (1 : Int) then
 bif v16 == (0 : Int) then
 bif decide (c3 > (0 : Int)) then
 kr false p0 p1 p2 p3 p4 p5 p6 p7 p8 q0 q1 q2 q3 q4 q5 q6 q7 q8 c0 c1 c2 c3 c4 c5 c6 c7 c8
 else
 rec v14 v15 (IntKind.wrap .i64 (v16 + (1 : Int))) p0 p1 p2 p3 p4 p5 p6 p7 p8 q0 q1 q2 q3 q4 q5 q6 q7 q8 c0 c1 c2 c3 c4 c5 c6 c7 c8
 else
 bif v16 == (1 : Int) then
 bif decide (c4 > (0 : Int)) then
 kr false p0 p1 p2 p3 p4 p5 p6 p7 p8 q0 q1 q2 q3 q4 q5 q6 q7 q8 c0 c1 c2 c3 c4 c5 c6 c7 c8
 else
 rec v14 v15 (IntKind.wrap .i64 (v16 + (1 : Int))) p0 p1 p2 p3 p4 p5 p6 p7 p8 q0 q1 q2 q3 q4 q5 q6 q7 q8 c0 c1 c2 c3 c4 c5 c6 c7 c8
 else
 bif v16 == (2 : Int) then
 bif decide (c5 > (0 : Int)) then
 kr false p0 p1 p2 p3 p4 p5 p6 p7 p8 q0 q1 q2 q3 q4 q5 q6 q7 q8 c0 c1 c2 c3 c4 c5 c6 c7 c8
 else
 rec v14 v15 (IntKind.wrap .i64 (v16 + (1 : Int))) p0 p1 p2 p3 p4 p5 p6 p7 p8 q0 q1 q2 q3 q4 q5 q6 q7 q8 c0 c1 c2 c3 c4 c5 c6 c7 c8
 else
 none
 else
 bif v14 == (2 : Int) then
 bif v16 == (0 : Int) then
 bif decide (c6 > (0 : Int)) then
 kr false p0 p1 p2 p3 p4 p5 p6 p7 p8 q0 q1 q2 q3 q4 q5 q6 q7 q8 c0 c1 c2 c3 c4 c5 c6 c7 c8
 else
 rec v14 v15 (IntKind.wrap .i64 (v16 + (1 : Int))) p0 p1 p2 p3 p4 p5 p6 p7 p8 q0 q1 q2 q3 q4 q5 q6 q7 q8 c0 c1 c2 c3 c4 c5 c6 c7 c8
 else
 bif v16 == (1 : Int) then
 bif decide (c7 > (0 : Int)) then
 kr false p0 p1 p2 p3 p4 p5 p6 p7 p8 q0 q1 q2 q3 q4 q5 q6 q7 q8 c0 c1 c2 c3 c4 c5 c6 c7 c8
 else
 rec v14 v15 (IntKind.wrap .i64 (v16 + (1 : Int))) p0 p1 p2 p3 p4 p5 p6 p7 p8 q0 q1 q2 q3 q4 q5 q6 q7 q8 c0 c1 c2 c3 c4 c5 c6 c7 c8
 else
 bif v16 == (2 : Int) then
 bif decide (c8 > (0 : Int)) then
 kr false p0 p1 p2 p3 p4 p5 p6 p7 p8 q0 q1 q2 q3 q4 q5 q6 q7 q8 c0 c1 c2 c3 c4 c5 c6 c7 c8
 else
 rec v14 v15 (IntKind.wrap .i64 (v16 + (1 : Int))) p0 p1 p2 p3 p4 p5 p6 p7 p8 q0 q1 q2 q3 q4 q5 q6 q7 q8 c0 c1 c2 c3 c4 c5 c6 c7 c8
 else
 none
 else
 none
 else
 rec v14 v15 (IntKind.wrap .i64 (v16 + (1 : Int))) p0 p1 p2 p3 p4 p5 p6 p7 p8 q0 q1 q2 q3 q4 q5 q6 q7 q8 c0 c1 c2 c3 c4 c5 c6 c7 c8
 else
 bif v16 == (2 : Int) then
 bif decide (c5 ≤ (0 : Int)) then
 bif v14 == (0 : Int) then
 bif v16 == (0 : Int) then
 bif decide (c0 > (0 : Int)) then
 kr false p0 p1 p2 p3 p4 p5 p6 p7 p8 q0 q1 q2 q3 q4 q5 q6 q7 q8 c0 c1 c2 c3 c4 c5 c6 c7 c8
 else
 rec v14 v15 (IntKind.wrap .i64 (v16 + (1 : Int))) p0 p1 p2 p3 p4 p5 p6 p7 p8 q0 q1 q2 q3 q4 q5 q6 q7 q8 c0 c1 c2 c3 c4 c5 c6 c7 c8
 else
 bif v16 == (1 : Int) then
 bif decide (c1 > (0 : Int)) then
 kr false p0 p1 p2 p3 p4 p5 p6 p7 p8 q0 q1 q2 q3 q4 q5 q6 q7 q8 c0 c1 c2 c3 c4 c5 c6 c7 c8
 else
 rec v14 v15 (IntKind.wrap .i64 (v16 + (1 : Int))) p0 p1 p2 p3 p4 p5 p6 p7 p8 q0 q1 q2 q3 q4 q5 q6 q7 q8 c0 c1 c2 c3 c4 c5 c6 c7 c8
 else
 bif v16 == (2 : Int) then
 bif decide (c2 > (0 : Int)) then
 kr false p0 p1 p2 p3 p4 p5 p6 p7 p8 q0 q1 q2 q3 q4 q5 q6 q7 q8 c0 c1 c2 c3 c4 c5 c6 c7 c8
 else
 rec v14 v15 (IntKind.wrap .i64 (v16 + (1 : Int))) p0 p1 p2 p3 p4 p5 p6 p7 p8 q0 q1 q2 q3 q4 q5 q6 q7 q8 c0 c1 c2 c3 c4 c5 c6 c7 c8
 else
 none
 else
 bif v14 == (1 : Int) then
 bif v16 == (0 : Int) then
 bif decide (c3 > (0 : Int)) then
 kr false p0 p1 p2 p3 p4 p5 p6 p7 p8 q0 q1 q2 q3 q4 q5 q6 q7 q8 c0 c1 c2 c3 c4 c5 c6 c7 c8
 else
 rec v14 v15 (IntKind.wrap .i64 (v16 + (1 : Int))) p0 p1 p2 p3 p4 p5 p6 p7 p8 q0 q1 q2 q3 q4 q5 q6 q7 q8 c0 c1 c2 c3 c4 c5 c6 c7 c8
 else
 bif v16 == (1 : Int) then
 bif decide (c4 > (0 : Int)) then
 kr false p0 p1 p2 p3 p4 p5 p6 p7 p8 q0 q1 q2 q3 q4 q5 q6 q7 q8 c0 c1 c2 c3 c4 c5 c6 c7 c8
 else
 rec v14 v15 (IntKind.wrap .i64 (v16 + (1 : Int))) p0 p1 p2 p3 p4 p5 p6 p7 p8 q0 q1 q2 q3 q4 q5 q6 q7 q8 c0 c1 c2 c3 c4 c5 c6 c7 c8
 else
 bif v16 == (2 : Int) then
 bif decide (c5 > (0 : Int)) then
 kr false p0 p1 p2 p3 p4 p5 p6 p7 p8 q0 q1 q2 q3 q4 q5 q6 q7 q8 c0 c1 c2 c3 c4 c5 c6 c7 c8
 else
 rec v14 v15 (IntKind.wrap .i64 (v16 + (1 : Int))) p0 p1 p2 p3 p4 p5 p6 p7 p8 q0 q1 q2 q3 q4 q5 q6 q7 q8 c0 c1 c2 c3 c4 c5 c6 c7 c8
 else
 none
 else
 bif v14 == (2 : Int) then
 bif v16 == (0 : Int) then
 bif decide (c6 > (0 : Int)) then
 kr false p0 p1 p2 p3 p4 p5 p6 p7 p8 q0 q1 q2 q3 q4 q5 q6 q7 q8 c0 c1 c2 c3 c4 c5 c6 c7 c8
 else
 rec v14 v15 (IntKind.wrap .i64 (v16 + (1 : Int))) p0 p1 p2 p3 p4 p5 p6 p7 p8 q0 q1 q2 q3 q4 q5 q6 q7 q8 c0 c1 c2 c3 c4 c5 c6 c7 c8
 else
 bif v16 == (1 : Int) then
 bif decide (c7 > (0 : Int)) then
 kr false p0 p1 p2 p3 p4 p5 p6 p7 p8 q0 q1 q2 q3 q4 q5 q6 q7 q8 c0 c1 c2 c3 c4 c5 c6 c7 c8
 else
 rec v14 v15 (IntKind.wrap .i64 (v16 + (1 : Int))) p0 p1 p2 p3 p4 p5 p6 p7 p8 q0 q1 q2 q3 q4 q5 q6 q7 q8 c0 c1 c2 c3 c4 c5 c6 c7 c8
 else
 bif v16 == (2 : Int) then
 bif decide (c8 > (0 : Int)) then
 kr false p0 p1 p2 p3 p4 p5 p6 p7 p8 q0 q1 q2 q3 q4 q5 q6 q7 q8 c0 c1 c2 c3 c4 c5 c6 c7 c8
 else
 rec v14 v15 (IntKind.wrap .i64 (v16 + (1 : Int))) p0 p1 p2 p3 p4 p5 p6 p7 p8 q0 q1 q2 q3 q4 q5 q6 q7 q8 c0 c1 c2 c3 c4 c5 c6 c7 c8
 else
 none
 else
 none
 else
 rec v14 v15 (IntKind.wrap .i64 (v16 + (1 : Int))) p0 p1 p2 p3 p4 p5 p6 p7 p8 q0 q1 q2 q3 q4 q5 q6 q7 q8 c0 c1 c2 c3 c4 c5 c6 c7 c8
 else
 none
 else
 bif v15 == (2 : Int) then
 bif v16 == (0 : Int) then
 bif decide (c6 ≤ (0 : Int)) then
 bif v14 == (0 : Int) then
 bif v16 == (0 : Int) then
 bif decide (c0 > (0 : Int)) then
 kr false p0 p1 p2 p3 p4 p5 p6 p7 p8 q0 q1 q2 q3 q4 q5 q6 q7 q8 c0 c1 c2 c3 c4 c5 c6 c7 c8
 else
 rec v14 v15 (IntKind.wrap .i64 (v16 + (1 : Int))) p0 p1 p2 p3 p4 p5 p6 p7 p8 q0 q1 q2 q3 q4 q5 q6 q7 q8 c0 c1 c2 c3 c4 c5 c6 c7 c8
 else
 bif v16 == (1 : Int) then
 bif decide (c1 > (0 : Int)) then
 kr false p0 p1 p2 p3 p4 p5 p6 p7 p8 q0 q1 q2 q3 q4 q5 q6 q7 q8 c0 c1 c2 c3 c4 c5 c6 c7 c8
 else
 rec v14 v15 (IntKind.wrap .i64 (v16 + (1 : Int))) p0 p1 p2 p3 p4 p5 p6 p7 p8 q0 q1 q2 q3 q4 q5 q6 q7 q8 c0 c1 c2 c3 c4 c5 c6 c7 c8
 else
 bif v16 == (2 : Int) then
 bif decide (c2 > (0 : Int)) then
 kr false p0 p1 p2 p3 p4 p5 p6 p7 p8 q0 q1 q2 q3 q4 q5 q6 q7 q8 c0 c1 c2 c3 c4 c5 c6 c7 c8
 else
 rec v14 v15 (IntKind.wrap .i64 (v16 + (1 : Int))) p0 p1 p2 p3 p4 p5 p6 p7 p8 q0 q1 q2 q3 q4 q5 q6 q7 q8 c0 c1 c2 c3 c4 c5 c6 c7 c8
 else
 none
 else
 bif v14 == (1 : Int) then
 bif v16 == (0 : Int) then
 bif decide (c3 > (0 : Int)) then
 kr false p0 p1 p2 p3 p4 p5 p6 p7 p8 q0 q1 q2 q3 q4 q5 q6 q7 q8 c0 c1 c2 c3 c4 c5 c6 c7 c8
 else
 rec v14 v15 (IntKind.wrap .i64 (v16 + (1 : Int))) p0 p1 p2 p3 p4 p5 p6 p7 p8 q0 q1 q2 q3 q4 q5 q6 q7 q8 c0 c1 c2 c3 c4 c5 c6 c7 c8
 else
 bif v16 == (1 : Int) then
 bif decide (c4 > (0 : Int)) then
 kr false p0 p1 p2 p3 p4 p5 p6 p7 p8 q0 q1 q2 q3 q4 q5 q6 q7 q8 c0 c1 c2 c3 c4 c5 c6 c7 c8
 else
 rec v14 v15 (IntKind.wrap .i64 (v16 + (1 : Int))) p0 p1 p2 p3 p4 p5 p6 p7 p8 q0 q1 q2 q3 q4 q5 q6 q7 q8 c0 c1 c2 c3 c4 c5 c6 c7 c8
 else
 bif v16 == (2 : Int) then
 bif decide (c5 > (0 : Int)) then
 kr false p0 p1 p2 p3 p4 p5 p6 p7 p8 q0 q1 q2 q3 q4 q5 q6 q7 q8 c0 c1 c2 c3 c4 c5 c6 c7 c8
 else
 rec v14 v15 (IntKind.wrap .i64 (v16 + (1 : Int))) p0 p1 p2 p3 p4 p5 p6 p7 p8 q0 q1 q2 q3 q4 q5 q6 q7 q8 c0 c1 c2 c3 c4 c5 c6 c7 c8
 else
 none
 else
 bif v14 == (2 : Int) then
 bif v16 == (0 : Int) then
 bif decide (c6 > (0 : Int)) then
 kr false p0 p1 p2 p3 p4 p5 p6 p7 p8 q0 q1 q2 q3 q4 q5 q6 q7 q8 c0 c1 c2 c3 c4 c5 c6 c7 c8
 else
 rec v14 v15 (IntKind.wrap .i64 (v16 + (1 : Int))) p0 p1 p2 p3 p4 p5 p6 p7 p8 q0 q1 q2 q3 q4 q5 q6 q7 q8 c0 c1 c2 c3 c4 c5 c6 c7 c8
 else
 bif v16 == (1 : Int) then
 bif decide (c7 > (0 : Int)) then
 kr false p0 p1 p2 p3 p4 p5 p6 p7 p8 q0 q1 q2 q3 q4 q5 q6 q7 q8 c0 c1 c2 c3 c4 c5 c6 c7 c8
 else
 rec v14 v15 (IntKind.wrap .i64 (v16 + (1 : Int))) p0 p1 p2 p3 p4 p5 p6 p7 p8 q0 q1 q2 q3 q4 q5 q6 q7 q8 c0 c1 c2 c3 c4 c5 c6 c7 c8
 else
 bif v16 == (2 : Int) then
 bif decide (c8 > (0 : Int)) then
 kr false p0 p1 p2 p3 p4 p5 p6 p7 p8 q0 q1 q2 q3 q4 q5 q6 q7 q8 c0 c1 c2 c3 c4 c5 c6 c7 c8
 else
 rec v14 v15 (IntKind.wrap .i64 (v16 + (1 : Int))) p0 p1 p2 p3 p4 p5 p6 p7 p8 q0 q1 q2 q3 q4 q5 q6 q7 q8 c0 c1 c2 c3 c4 c5 c6 c7 c8
 else
 none
 else
 none
 else
 rec v14 v15 (IntKind.wrap .i64 (v16 + (1 : Int))) p0 p1 p2 p3 p4 p5 p6 p7 p8 q0 q1 q2 q3 q4 q5 q6 q7 q8 c0 c1 c2 c3 c4 c5 c6 c7 c8
 else
 bif v16 == (1 : Int) then
 bif decide (c7 ≤ (0 : Int)) then
 bif v14 == (0 : Int) then
 bif v16 == (0 : Int) then
 bif decide (c0 > (0 : Int)) then
 kr false p0 p1 p2 p3 p4 p5 p6 p7 p8 q0 q1 q2 q3 q4 q5 q6 q7 q8 c0 c1 c2 c3 c4 c5 c6 c7 c8
 else
 rec v14 v15 (IntKind.wrap .i64 (v16 + (1 : Int))) p0 p1 p2 p3 p4 p5 p6 p7 p8 q0 q1 q2 q3 q4 q5 q6 q7 q8 c0 c1 c2 c3 c4 c5 c6 c7 c8
 else
 bif v16 == (1 : Int) then
 bif decide (c1 > (0 : Int)) then
 kr false p0 p1 p2 p3 p4 p5 p6 p7 p8 q0 q1 q2 q3 q4 q5 q6 q7 q8 c0 c1 c2 c3 c4 c5 c6 c7 c8
 else
 rec v14 v15 (IntKind.wrap .i64 (v16 + (1 : Int))) p0 p1 p2 p3 p4 p5 p6 p7 p8 q0 q1 q2 q3 q4 q5 q6 q7 q8 c0 c1 c2 c3 c4 c5 c6 c7 c8
 else
 bif v16 == (2 : Int) then
 bif decide (c2 > (0 : Int)) then
 kr false p0 p1 p2 p3 p4 p5 p6 p7 p8 q0 q1 q2 q3 q4 q5 q6 q7 q8 c0 c1 c2 c3 c4 c5 c6 c7 c8
 else
 rec v14 v15 (IntKind.wrap .i64 (v16 + (1 : Int))) p0 p1 p2 p3 p4 p5 p6 p7 p8 q0 q1 q2 q3 q4 q5 q6 q7 q8 c0 c1 c2 c3 c4 c5 c6 c7 c8
 else
 none
 else
 bif v14 == (1 : Int) then
 bif v16 == (0 : Int) then
 bif decide (c3 > (0 : Int)) then
 kr false p0 p1 p2 p3 p4 p5 p6 p7 p8 q0 q1 q2 q3 q4 q5 q6 q7 q8 c0 c1 c2 c3 c4 c5 c6 c7 c8
 else
 rec v14 v15 (IntKind.wrap .i64 (v16 + (1 : Int))) p0 p1 p2 p3 p4 p5 p6 p7 p8 q0 q1 q2 q3 q4 q5 q6 q7 q8 c0 c1 c2 c3 c4 c5 c6 c7 c8
 else
 bif v16 == (1 : Int) then
 bif decide (c4 > (0 : Int)) then
 kr false p0 p1 p2 p3 p4 p5 p6 p7 p8 q0 q1 q2 q3 q4 q5 q6 q7 q8 c0 c1 c2 c3 c4 c5 c6 c7 c8
 else
 rec v14 v15 (IntKind.wrap .i64 (v16 + (1 : Int))) p0 p1 p2 p3 p4 p5 p6 p7 p8 q0 q1 q2 q3 q4 q5 q6 q7 q8 c0 c1 c2 c3 c4 c5 c6 c7 c8
 else
 bif v16 == (2 : Int) then
 bif decide (c5 > (0 : Int)) then
 kr false p0 p1 p2 p3 p4 p5 p6 p7 p8 q0 q1 q2 q3 q4 q5 q6 q7 q8 c0 c1 c2 c3 c4 c5 c6 c7 c8
 else
 rec v14 v15 (IntKind.wrap .i64 (v16 + (1 : Int))) p0 p1 p2 p3 p4 p5 p6 p7 p8 q0 q1 q2 q3 q4 q5 q6 q7 q8 c0 c1 c2 c3 c4 c5 c6 c7 c8
 else
 none
 else
 bif v14 == (2 : Int) then
 bif v16 == (0 : Int) then
 bif decide (c6 > (0 : Int)) then
 kr false p0 p1 p2 p3 p4 p5 p6 p7 p8 q0 q1 q2 q3 q4 q5 q6 q7 q8 c0 c1 c2 c3 c4 c5 c6 c7 c8
 else
 rec v14 v15 (IntKind.wrap .i64 (v16 + (1 : Int))) p0 p1 p2 p3 p4 p5 p6 p7 p8 q0 q1 q2 q3 q4 q5 q6 q7 q8 c0 c1 c2 c3 c4 c5 c6 c7 c8
 else
 bif v16 == (1 : Int) then
 bif decide (c7 > (0 : Int)) then
 kr false p0 p1 p2 p3 p4 p5 p6 p7 p8 q0 q1 q2 q3 q4 q5 q6 q7 q8 c0 c1 c2 c3 c4 c5 c6 c7 c8
 else
 rec v14 v15 (IntKind.wrap .i64 (v16 + (1 : Int))) p0 p1 p2 p3 p4 p5 p6 p7 p8 q0 q1 q2 q3 q4 q5 q6 q7 q8 c0 c1 c2 c3 c4 c5 c6 c7 c8
 else
 bif v16 == (2 : Int) then
 bif decide (c8 > (0 : Int)) then
 kr false p0 p1 p2 p3 p4 p5 p6 p7 p8 q0 q1 q2 q3 q4 q5 q6 q7 q8 c0 c1 c2 c3 c4 c5 c6 c7 c8
 else
 rec v14 v15 (IntKind.wrap .i64 (v16 + (1 : Int))) p0 p1 p2 p3 p4 p5 p6 p7 p8 q0 q1 q2 q3 q4 q5 q6 q7 q8 c0 c1 c2 c3 c4 c5 c6 c7 c8
 else
 none
 else
 none
 else
 rec v14 v15 (IntKind.wrap .i64 (v16 + (1 : Int))) p0 p1 p2 p3 p4 p5 p6 p7 p8 q0 q1 q2 q3 q4 q5 q6 q7 q8 c0 c1 c2 c3 c4 c5 c6 c7 c8
 else
 bif v16 == (2 : Int) then
 bif decide (c8 ≤ (0 : Int)) then
 bif v14 == (0 : Int) then
 bif v16 == (0 : Int) then
 bif decide (c0 > (0 : Int)) then
 kr false p0 p1 p2 p3 p4 p5 p6 p7 p8 q0 q1 q2 q3 q4 q5 q6 q7 q8 c0 c1 c2 c3 c4 c5 c6 c7 c8
 else
 rec v14 v15 (IntKind.wrap .i64 (v16 + (1 : Int))) p0 p1 p2 p3 p4 p5 p6 p7 p8 q0 q1 q2 q3 q4 q5 q6 q7 q8 c0 c1 c2 c3 c4 c5 c6 c7 c8
 else
 bif v16 == (1 : Int) then
 bif decide (c1 > (0 : Int)) then
 kr false p0 p1 p2 p3 p4 p5 p6 p7 p8 q0 q1 q2 q3 q4 q5 q6 q7 q8 c0 c1 c2 c3 c4 c5 c6 c7 c8
 else
 rec v14 v15 (IntKind.wrap .i64 (v16 + (1 : Int))) p0 p1 p2 p3 p4 p5 p6 p7 p8 q0 q1 q2 q3 q4 q5 q6 q7 q8 c0 c1 c2 c3 c4 c5 c6 c7 c8
 else
 bif v16 == (2 : Int) then
 bif decide (c2 > (0 : Int)) then
 kr false p0 p1 p2 p3 p4 p5 p6 p7 p8 q0 q1 q2 q3 q4 q5 q6 q7 q8 c0 c1 c2 c3 c4 c5 c6 c7 c8
 else
 rec v14 v15 (IntKind.wrap .i64 (v16 + (1 : Int))) p0 p1 p2 p3 p4 p5 p6 p7 p8 q0 q1 q2 q3 q4 q5 q6 q7 q8 c0 c1 c2 c3 c4 c5 c6 c7 c8
 else
 none
 else
 bif v14 == (1 : Int) then
 bif v16 == (0 : Int) then
 bif decide (c3 > (0 : Int)) then
 kr false p0 p1 p2 p3 p4 p5 p6 p7 p8 q0 q1 q2 q3 q4 q5 q6 q7 q8 c0 c1 c2 c3 c4 c5 c6 c7 c8
 else
 rec v14 v15 (IntKind.wrap .i64 (v16 + (1 : Int))) p0 p1 p2 p3 p4 p5 p6 p7 p8 q0 q1 q2 q3 q4 q5 q6 q7 q8 c0 c1 c2 c3 c4 c5 c6 c7 c8
 else
 bif v16 == (1 : Int) then
 bif decide (c4 > (0 : Int)) then
 kr false p0 p1 p2 p3 p4 p5 p6 p7 p8 q0 q1 q2 q3 q4 q5 q6 q7 q8 c0 c1 c2 c3 c4 c5 c6 c7 c8
 else
 rec v14 v15 (IntKind.wrap .i64 (v16 + (1 : Int))) p0 p1 p2 p3 p4 p5 p6 p7 p8 q0 q1 q2 q3 q4 q5 q6 q7 q8 c0 c1 c2 c3 c4 c5 c6 c7 c8
 else
 bif v16 == (2 : Int) then
 bif decide (c5 > (0 : Int)) then
 kr false p0 p1 p2 p3 p4 p5 p6 p7 p8 q0 q1 q2 q3 q4 q5 q6 q7 q8 c0 c1 c2 c3 c4 c5 c6 c7 c8
 else
 rec v14 v15 (IntKind.wrap .i64 (v16 + (1 : Int))) p0 p1 p2 p3 p4 p5 p6 p7 p8 q0 q1 q2 q3 q4 q5 q6 q7 q8 c0 c1 c2 c3 c4 c5 c6 c7 c8
 else
 none
 else
 bif v14 == (2 : Int) then
 bif v16 == (0 : Int) then
 bif decide (c6 > (0 : Int)) then
 kr false p0 p1 p2 p3 p4 p5 p6 p7 p8 q0 q1 q2 q3 q4 q5 q6 q7 q8 c0 c1 c2 c3 c4 c5 c6 c7 c8
 else
 rec v14 v15 (IntKind.wrap .i64 (v16 + (1 : Int))) p0 p1 p2 p3 p4 p5 p6 p7 p8 q0 q1 q2 q3 q4 q5 q6 q7 q8 c0 c1 c2 c3 c4 c5 c6 c7 c8
 else
 bif v16 == (1 : Int) then
 bif decide (c7 > (0 : Int)) then
 kr false p0 p1 p2 p3 p4 p5 p6 p7 p8 q0 q1 q2 q3 q4 q5 q6 q7 q8 c0 c1 c2 c3 c4 c5 c6 c7 c8
 else
 rec v14 v15 (IntKind.wrap .i64 (v16 + (1 : Int))) p0 p1 p2 p3 p4 p5 p6 p7 p8 q0 q1 q2 q3 q4 q5 q6 q7 q8 c0 c1 c2 c3 c4 c5 c6 c7 c8
 else
 bif v16 == (2 : Int) then
 bif decide (c8 > (0 : Int)) then
 kr false p0 p1 p2 p3 p4 p5 p6 p7 p8 q0 q1 q2 q3 q4 q5 q6 q7 q8 c0 c1 c2 c3 c4 c5 c6 c7 c8
 else
 rec v14 v15 (IntKind.wrap .i64 (v16 + (1 : Int))) p0 p1 p2 p3 p4 p5 p6 p7 p8 q0 q1 q2 q3 q4 q5 q6 q7 q8 c0 c1 c2 c3 c4 c5 c6 c7 c8
 else
 none
 else
 none
 else
 rec v14 v15 (IntKind.wrap .i64 (v16 + (1 : Int))) p0 p1 p2 p3 p4 p5 p6 p7 p8 q0 q1 q2 q3 q4 q5 q6 q7 q8 c0 c1 c2 c3 c4 c5 c6 c7 c8
 else
 none
 else
 none
 else
 rec v14 v15 (IntKind.wrap .i64 (v16 + (1 : Int))) p0 p1 p2 p3 p4 p5 p6 p7 p8 q0 q1 q2 q3 q4 q5 q6 q7 q8 c0 c1 c2 c3 c4 c5 c6 c7 c8
 else
 bif v15 == (2 : Int) then
 bif decide (c5 ≤ (0 : Int)) then
 bif v15 == (0 : Int) then
 bif v16 == (0 : Int) then
 bif decide (c0 ≤ (0 : Int)) then
 bif v14 == (0 : Int) then
 bif v16 == (0 : Int) then
 bif decide (c0 > (0 : Int)) then
 kr false p0 p1 p2 p3 p4 p5 p6 p7 p8 q0 q1 q2 q3 q4 q5 q6 q7 q8 c0 c1 c2 c3 c4 c5 c6 c7 c8
 else
 rec v14 v15 (IntKind.wrap .i64 (v16 + (1 : Int))) p0 p1 p2 p3 p4 p5 p6 p7 p8 q0 q1 q2 q3 q4 q5 q6 q7 q8 c0 c1 c2 c3 c4 c5 c6 c7 c8
 else
 bif v16 == (1 : Int) then
 bif decide (c1 > (0 : Int)) then
 kr false p0 p1 p2 p3 p4 p5 p6 p7 p8 q0 q1 q2 q3 q4 q5 q6 q7 q8 c0 c1 c2 c3 c4 c5 c6 c7 c8
 else
 rec v14 v15 (IntKind.wrap .i64 (v16 + (1 : Int))) p0 p1 p2 p3 p4 p5 p6 p7 p8 q0 q1 q2 q3 q4 q5 q6 q7 q8 c0 c1 c2 c3 c4 c5 c6 c7 c8
 else
 bif v16 == (2 : Int) then
 bif decide (c2 > (0 : Int)) then
 kr false p0 p1 p2 p3 p4 p5 p6 p7 p8 q0 q1 q2 q3 q4 q5 q6 q7 q8 c0 c1 c2 c3 c4 c5 c6 c7 c8
 else
 rec v14 v15 (IntKind.wrap .i64 (v16 + (1 : Int))) p0 p1 p2 p3 p4 p5 p6 p7 p8 q0 q1 q2 q3 q4 q5 q6 q7 q8 c0 c1 c2 c3 c4 c5 c6 c7 c8
 else
 none
 else
 bif v14 == (1 : Int) then
 bif v16 == (0 : Int) then
 bif decide (c3 > (0 : Int)) then
 kr false p0 p1 p2 p3 p4 p5 p6 p7 p8 q0 q1 q2 q3 q4 q5 q6 q7 q8 c0 c1 c2 c3 c4 c5 c6 c7 c8
 else
 rec v14 v15 (IntKind.wrap .i64 (v16 + (1 : Int))) p0 p1 p2 p3 p4 p5 p6 p7 p8 q0 q1 q2 q3 q4 q5 q6 q7 q8 c0 c1 c2 c3 c4 c5 c6 c7 c8
 else
 bif v16 == (1 : Int) then
 bif decide (c4 > (0 : Int)) then
 kr false p0 p1 p2 p3 p4 p5 p6 p7 p8 q0 q1 q2 q3 q4 q5 q6 q7 q8 c0 c1 c2 c3 c4 c5 c6 c7 c8
 else
 rec v14 v15 (IntKind.wrap .i64 (v16 + (1 : Int))) p0 p1 p2 p3 p4 p5 p6 p7 p8 q0 q1 q2 q3 q4 q5 q6 q7 q8 c0 c1 c2 c3 c4 c5 c6 c7 c8
 else
 bif v16 == (2 : Int) then
 bif decide (c5 > (0 : Int)) then
 kr false p0 p1 p2 p3 p4 p5 p6 p7 p8 q0 q1 q2 q3 q4 q5 q6 q7 q8 c0 c1 c2 c3 c4 c5 c6 c7 c8
 else
 rec v14 v15 (IntKind.wrap .i64 (v16 + (1 : Int))) p0 p1 p2 p3 p4 p5 p6 p7 p8 q0 q1 q2 q3 q4 q5 q6 q7 q8 c0 c1 c2 c3 c4 c5 c6 c7 c8
 else
 none
 else
 bif v14 == (2 : Int) then
 bif v16 == (0 : Int) then
 bif decide (c6 > (0 : Int)) then
 kr false p0 p1 p2 p3 p4 p5 p6 p7 p8 q0 q1 q2 q3 q4 q5 q6 q7 q8 c0 c1 c2 c3 c4 c5 c6 c7 c8
 else
 rec v14 v15 (IntKind.wrap .i64 (v16 + (1 : Int))) p0 p1 p2 p3 p4 p5 p6 p7 p8 q0 q1 q2 q3 q4 q5 q6 q7 q8 c0 c1 c2 c3 c4 c5 c6 c7 c8
 else
 bif v16 == (1 : Int) then
 bif decide (c7 > (0 : Int)) then
 kr false p0 p1 p2 p3 p4 p5 p6 p7 p8 q0 q1 q2 q3 q4 q5 q6 q7 q8 c0 c1 c2 c3 c4 c5 c6 c7 c8
 else
 rec v14 v15 (IntKind.wrap .i64 (v16 + (1 : Int))) p0 p1 p2 p3 p4 p5 p6 p7 p8 q0 q1 q2 q3 q4 q5 q6 q7 q8 c0 c1 c2 c3 c4 c5 c6 c7 c8
 else
 bif v16 == (2 : Int) then
 bif decide (c8 > (0 : Int)) then
 kr false p0 p1 p2 p3 p4 p5 p6 p7 p8 q0 q1 q2 q3 q4 q5 q6 q7 q8 c0 c1 c2 c3 c4 c5 c6 c7 c8
 else
 rec v14 v15 (IntKind.wrap .i64 (v16 + (1 : Int))) p0 p1 p2 p3 p4 p5 p6 p7 p8 q0 q1 q2 q3 q4 q5 q6 q7 q8 c0 c1 c2 c3 c4 c5 c6 c7 c8
 else
 none
 else
 none
 else
 rec v14 v15 (IntKind.wrap .i64 (v16 + (1 : Int))) p0 p1 p2 p3 p4 p5 p6 p7 p8 q0 q1 q2 q3 q4 q5 q6 q7 q8 c0 c1 c2 c3 c4 c5 c6 c7 c8
 else
 bif v16 == (1 : Int) then
 bif decide (c1 ≤ (0 : Int)) then
 bif v14 == (0 : Int) then
 bif v16 == (0 : Int) then
 bif decide (c0 > (0 : Int)) then
 kr false p0 p1 p2 p3 p4 p5 p6 p7 p8 q0 q1 q2 q3 q4 q5 q6 q7 q8 c0 c1 c2 c3 c4 c5 c6 c7 c8
 else
 rec v14 v15 (IntKind.wrap .i64 (v16 + (1 : Int))) p0 p1 p2 p3 p4 p5 p6 p7 p8 q0 q1 q2 q3 q4 q5 q6 q7 q8 c0 c1 c2 c3 c4 c5 c6 c7 c8
 else
 bif v16 == (1 : Int) then
 bif decide (c1 > (0 : Int)) then
 kr false p0 p1 p2 p3 p4 p5 p6 p7 p8 q0 q1 q2 q3 q4 q5 q6 q7 q8 c0 c1 c2 c3 c4 c5 c6 c7 c8
 else
 rec v14 v15 (IntKind.wrap .i64 (v16 + (1 : Int))) p0 p1 p2 p3 p4 p5 p6 p7 p8 q0 q1 q2 q3 q4 q5 q6 q7 q8 c0 c1 c2 c3 c4 c5 c6 c7 c8
 else
 bif v16 == (2 : Int) then
 bif decide (c2 > (0 : Int)) then
 kr false p0 p1 p2 p3 p4 p5 p6 p7 p8 q0 q1 q2 q3 q4 q5 q6 q7 q8 c0 c1 c2 c3 c4 c5 c6 c7 c8
 else
 rec v14 v15 (IntKind.wrap .i64 (v16 + (1 : Int))) p0 p1 p2 p3 p4 p5 p6 p7 p8 q0 q1 q2 q3 q4 q5 q6 q7 q8 c0 c1 c2 c3 c4 c5 c6 c7 c8
 else
 none
 else
 bif v14 == (1 : Int) then
 bif v16 == (0 : Int) then
 bif decide (c3 > (0 : Int)) then
 kr false p0 p1 p2 p3 p4 p5 p6 p7 p8 q0 q1 q2 q3 q4 q5 q6 q7 q8 c0 c1 c2 c3 c4 c5 c6 c7 c8
 else
 rec v14 v15 (IntKind.wrap .i64 (v16 + (1 : Int))) p0 p1 p2 p3 p4 p5 p6 p7 p8 q0 q1 q2 q3 q4 q5 q6 q7 q8 c0 c1 c2 c3 c4 c5 c6 c7 c8
 else
 bif v16 == (1 : Int) then
 bif decide (c4 > (0 : Int)) then
 kr false p0 p1 p2 p3 p4 p5 p6 p7 p8 q0 q1 q2 q3 q4 q5 q6 q7 q8 c0 c1 c2 c3 c4 c5 c6 c7 c8
 else
 rec v14 v15 (IntKind.wrap .i64 (v16 + (1 : Int))) p0 p1 p2 p3 p4 p5 p6 p7 p8 q0 q1 q2 q3 q4 q5 q6 q7 q8 c0 c1 c2 c3 c4 c5 c6 c7 c8
 else
 bif v16 == (2 : Int) then
 bif decide (c5 > (0 : Int)) then
 kr false p0 p1 p2 p3 p4 p5 p6 p7 p8 q0 q1 q2 q3 q4 q5 q6 q7 q8 c0 c1 c2 c3 c4 c5 c6 c7 c8
 else
 rec v14 v15 (IntKind.wrap .i64 (v16 + (1 : Int))) p0 p1 p2 p3 p4 p5 p6 p7 p8 q0 q1 q2 q3 q4 q5 q6 q7 q8 c0 c1 c2 c3 c4 c5 c6 c7 c8
 else
 none
 else
 bif v14 == (2 : Int) then
 bif v16 == (0 : Int) then
 bif decide (c6 > (0 : Int)) then
 kr false p0 p1 p2 p3 p4 p5 p6 p7 p8 q0 q1 q2 q3 q4 q5 q6 q7 q8 c0 c1 c2 c3 c4 c5 c6 c7 c8
 else
 rec v14 v15 (IntKind.wrap .i64 (v16 + (1 : Int))) p0 p1 p2 p3 p4 p5 p6 p7 p8 q0 q1 q2 q3 q4 q5 q6 q7 q8 c0 c1 c2 c3 c4 c5 c6 c7 c8
 else
 bif v16 == (1 : Int) then
 bif decide (c7 > (0 : Int)) then
 kr false p0 p1 p2 p3 p4 p5 p6 p7 p8 q0 q1 q2 q3 q4 q5 q6 q7 q8 c0 c1 c2 c3 c4 c5 c6 c7 c8
 else
 rec v14 v15 (IntKind.wrap .i64 (v16 + (1 : Int))) p0 p1 p2 p3 p4 p5 p6 p7 p8 q0 q1 q2 q3 q4 q5 q6 q7 q8 c0 c1 c2 c3 c4 c5 c6 c7 c8
 else
 bif v16 == (2 : Int) then
 bif decide (c8 > (0 : Int)) then
 kr false p0 p1 p2 p3 p4 p5 p6 p7 p8 q0 q1 q2 q3 q4 q5 q6 q7 q8 c0 c1 c2 c3 c4 c5 c6 c7 c8
 else
 rec v14 v15 (IntKind.wrap .i64 (v16 + (1 : Int))) p0 p1 p2 p3 p4 p5 p6 p7 p8 q0 q1 q2 q3 q4 q5 q6 q7 q8 c0 c1 c2 c3 c4 c5 c6 c7 c8
 else
 none
 else
 none
 else
 rec v14 v15 (IntKind.wrap .i64 (v16 + (1 : Int))) p0 p1 p2 p3 p4 p5 p6 p7 p8 q0 q1 q2 q3 q4 q5 q6 q7 q8 c0 c1 c2 c3 c4 c5 c6 c7 c8
 else
 bif v16 == (2 : Int) then
 bif decide (c2 ≤ (0 : Int)) then
 bif v14 == (0 : Int) then
 bif v16 == (0 : Int) then
 bif decide (c0 > (0 : Int)) then
 kr false p0 p1 p2 p3 p4 p5 p6 p7 p8 q0 q1 q2 q3 q4 q5 q6 q7 q8 c0 c1 c2 c3 c4 c5 c6 c7 c8
 else
 rec v14 v15 (IntKind.wrap .i64 (v16 + (1 : Int))) p0 p1 p2 p3 p4 p5 p6 p7 p8 q0 q1 q2 q3 q4 q5 q6 q7 q8 c0 c1 c2 c3 c4 c5 c6 c7 c8
 else
 bif v16 == (1 : Int) then
 bif decide (c1 > (0 : Int)) then
 kr false p0 p1 p2 p3 p4 p5 p6 p7 p8 q0 q1 q2 q3 q4 q5 q6 q7 q8 c0 c1 c2 c3 c4 c5 c6 c7 c8
 else
 rec v14 v15 (IntKind.wrap .i64 (v16 + (1 : Int))) p0 p1 p2 p3 p4 p5 p6 p7 p8 q0 q1 q2 q3 q4 q5 q6 q7 q8 c0 c1 c2 c3 c4 c5 c6 c7 c8
 else
 bif v16 == (2 : Int) then
 bif decide (c2 > (0 : Int)) then
 kr false p0 p1 p2 p3 p4 p5 p6 p7 p8 q0 q1 q2 q3 q4 q5 q6 q7 q8 c0 c1 c2 c3 c4 c5 c6 c7 c8
 else
 rec v14 v15 (IntKind.wrap .i64 (v16 + (1 : Int))) p0 p1 p2 p3 p4 p5 p6 p7 p8 q0 q1 q2 q3 q4 q5 q6 q7 q8 c0 c1 c2 c3 c4 c5 c6 c7 c8
 else
 none
 else
 bif v14 == (1 : Int) then
 bif v16 == (0 : Int) then
 bif decide (c3 > (0 : Int)) then
 kr false p0 p1 p2 p3 p4 p5 p6 p7 p8 q0 q1 q2 q3 q4 q5 q6 q7 q8 c0 c1 c2 c3 c4 c5 c6 c7 c8
 else
 rec v14 v15 (IntKind.wrap .i64 (v16 + (1 : Int))) p0 p1 p2 p3 p4 p5 p6 p7 p8 q0 q1 q2 q3 q4 q5 q6 q7 q8 c0 c1 c2 c3 c4 c5 c6 c7 c8
 else
 bif v16 == (1 : Int) then
 bif decide (c4 > (0 : Int)) then
 kr false p0 p1 p2 p3 p4 p5 p6 p7 p8 q0 q1 q2 q3 q4 q5 q6 q7 q8 c0 c1 c2 c3 c4 c5 c6 c7 c8
 else
 rec v14 v15 (IntKind.wrap .i64 (v16 + (1 : Int))) p0 p1 p2 p3 p4 p5 p6 p7 p8 q0 q1 q2 q3 q4 q5 q6 q7 q8 c0 c1 c2 c3 c4 c5 c6 c7 c8
 else
 bif v16 == (2 : Int) then
 bif decide (c5 > (0 : Int)) then
 kr false p0 p1 p2 p3 p4 p5 p6 p7 p8 q0 q1 q2 q3 q4 q5 q6 q7 q8 c0 c1 c2 c3 c4 c5 c6 c7 c8
 else
 rec v14 v15 (IntKind.wrap .i64 (v16 + (1 : Int))) p0 p1 p2 p3 p4 p5 p6 p7 p8 q0 q1 q2 q3 q4 q5 q6 q7 q8 c0 c1 c2 c3 c4 c5 c6 c7 c8
 else
 none
 else
 bif v14 == (2 : Int) then
 bif v16 == (0 : Int) then
 bif decide (c6 > (0 : Int)) then
 kr false p0 p1 p2 p3 p4 p5 p6 p7 p8 q0 q1 q2 q3 q4 q5 q6 q7 q8 c0 c1 c2 c3 c4 c5 c6 c7 c8
 else
 rec v14 v15 (IntKind.wrap .i64 (v16 + (1 : Int))) p0 p1 p2 p3 p4 p5 p6 p7 p8 q0 q1 q2 q3 q4 q5 q6 q7 q8 c0 c1 c2 c3 c4 c5 c6 c7 c8
 else
 bif v16 == (1 : Int) then
 bif decide (c7 > (0 : Int)) then
 kr false p0 p1 p2 p3 p4 p5 p6 p7 p8 q0 q1 q2 q3 q4 q5 q6 q7 q8 c0 c1 c2 c3 c4 c5 c6 c7 c8
 else
 rec v14 v15 (IntKind.wrap .i64 (v16 + (1 : Int))) p0 p1 p2 p3 p4 p5 p6 p7 p8 q0 q1 q2 q3 q4 q5 q6 q7 q8 c0 c1 c2 c3 c4 c5 c6 c7 c8
 else
 bif v16 == (2 : Int) then
 bif decide (c8 > (0 : Int)) then
 kr false p0 p1 p2 p3 p4 p5 p6 p7 p8 q0 q1 q2 q3 q4 q5 q6 q7 q8 c0 c1 c2 c3 c4 c5 c6 c7 c8
 else
 rec v14 v15 (IntKind.wrap .i64 (v16 + (1 : Int))) p0 p1 p2 p3 p4 p5 p6 p7 p8 q0 q1 q2 q3 q4 q5 q6 q7 q8 c0 c1 c2 c3 c4 c5 c6 c7 c8
 else
 none
 else
 none
 else
 rec v14 v15 (IntKind.wrap .i64 (v16 + (1 : Int))) p0 p1 p2 p3 p4 p5 p6 p7 p8 q0 q1 q2 q3 q4 q5 q6 q7 q8 c0 c1 c2 c3 c4 c5 c6 c7 c8
 else
 none
 else
 bif v15 == (1 : Int) then
 bif v16 == (0 : Int) then
 bif decide (c3 ≤ (0 : Int)) then
 bif v14 == (0 : Int) then
 bif v16 == (0 : Int) then
 bif decide (c0 > (0 : Int)) then
 kr false p0 p1 p2 p3 p4 p5 p6 p7 p8 q0 q1 q2 q3 q4 q5 q6 q7 q8 c0 c1 c2 c3 c4 c5 c6 c7 c8
 else
 rec v14 v15 (IntKind.wrap .i64 (v16 + (1 : Int))) p0 p1 p2 p3 p4 p5 p6 p7 p8 q0 q1 q2 q3 q4 q5 q6 q7 q8 c0 c1 c2 c3 c4 c5 c6 c7 c8
 else
 bif v16 == (1 : Int) then
 bif decide (c1 > (0 : Int)) then
 kr false p0 p1 p2 p3 p4 p5 p6 p7 p8 q0 q1 q2 q3 q4 q5 q6 q7 q8 c0 c1 c2 c3 c4 c5 c6 c7 c8
 else
 rec v14 v15 (IntKind.wrap .i64 (v16 + (1 : Int))) p0 p1 p2 p3 p4 p5 p6 p7 p8 q0 q1 q2 q3 q4 q5 q6 q7 q8 c0 c1 c2 c3 c4 c5 c6 c7 c8
 else
 bif v16 == (2 : Int) then
 bif decide (c2 > (0 : Int)) then
 kr false p0 p1 p2 p3 p4 p5 p6 p7 p8 q0 q1 q2 q3 q4 q5 q6 q7 q8 c0 c1 c2 c3 c4 c5 c6 c7 c8
 else
 rec v14 v15 (IntKind.wrap .i64 (v16 + (1 : Int))) p0 p1 p2 p3 p4 p5 p6 p7 p8 q0 q1 q2 q3 q4 q5 q6 q7 q8 c0 c1 c2 c3 c4 c5 c6 c7 c8
 else
 none
 else
 bif v14 == (1 : Int) then
 bif v16 == (0 : Int) then
 bif decide (c3 > (0 : Int)) then
 kr false p0 p1 p2 p3 p4 p5 p6 p7 p8 q0 q1 q2 q3 q4 q5 q6 q7 q8 c0 c1 c2 c3 c4 c5 c6 c7 c8
 else
 rec v14 v15 (IntKind.wrap .i64 (v16 + (1 : Int))) p0 p1 p2 p3 p4 p5 p6 p7 p8 q0 q1 q2 q3 q4 q5 q6 q7 q8 c0 c1 c2 c3 c4 c5 c6 c7 c8
 else
 bif v16 == (1 : Int) then
 bif decide (c4 > (0 : Int)) then
 kr false p0 p1 p2 p3 p4 p5 p6 p7 p8 q0 q1 q2 q3 q4 q5 q6 q7 q8 c0 c1 c2 c3 c4 c5 c6 c7 c8
 else
 rec v14 v15 (IntKind.wrap .i64 (v16 + (1 : Int))) p0 p1 p2 p3 p4 p5 p6 p7 p8 q0 q1 q2 q3 q4 q5 q6 q7 q8 c0 c1 c2 c3 c4 c5 c6 c7 c8
 else
 bif v16 == (2 : Int) then
 bif decide (c5 > (0 : Int)) then
 kr false p0 p1 p2 p3 p4 p5 p6 p7 p8 q0 q1 q2 q3 q4 q5 q6 q7 q8 c0 c1 c2 c3 c4 c5 c6 c7 c8
 else
 rec v14 v15 (IntKind.wrap .i64 (v16 + (1 : Int))) p0 p1 p2 p3 p4 p5 p6 p7 p8 q0 q1 q2 q3 q4 q5 q6 q7 q8 c0 c1 c2 c3 c4 c5 c6 c7 c8
 else
 none
 else
 bif v14 == (2 : Int) then
 bif v16 == (0 : Int) then
 bif decide (c6 > (0 : Int)) then
 kr false p0 p1 p2 p3 p4 p5 p6 p7 p8 q0 q1 q2 q3 q4 q5 q6 q7 q8 c0 c1 c2 c3 c4 c5 c6 c7 c8
 else
 rec v14 v15 (IntKind.wrap .i64 (v16 + (1 : Int))) p0 p1 p2 p3 p4 p5 p6 p7 p8 q0 q1 q2 q3 q4 q5 q6 q7 q8 c0 c1 c2 c3 c4 c5 c6 c7 c8
 else
 bif v16 == (1 : Int) then
 bif decide (c7 > (0 : Int)) then
 kr false p0 p1 p2 p3 p4 p5 p6 p7 p8 q0 q1 q2 q3 q4 q5 q6 q7 q8 c0 c1 c2 c3 c4 c5 c6 c7 c8
 else
 rec v14 v15 (IntKind.wrap .i64 (v16 + (1 : Int))) p0 p1 p2 p3 p4 p5 p6 p7 p8 q0 q1 q2 q3 q4 q5 q6 q7 q8 c0 c1 c2 c3 c4 c5 c6 c7 c8
 else
 bif v16 == (2 : Int) then
 bif decide (c8 > (0 : Int)) then
 kr false p0 p1 p2 p3 p4 p5 p6 p7 p8 q0 q1 q2 q3 q4 q5 q6 q7 q8 c0 c1 c2 c3 c4 c5 c6 c7 c8
 else
 rec v14 v15 (IntKind.wrap .i64 (v16 + (1 : Int))) p0 p1 p2 p3 p4 p5 p6 p7 p8 q0 q1 q2 q3 q4 q5 q6 q7 q8 c0 c1 c2 c3 c4 c5 c6 c7 c8
 else
 none
 else
 none
 else
 rec v14 v15 (IntKind.wrap .i64 (v16 + (1 : Int))) p0 p1 p2 p3 p4 p5 p6 p7 p8 q0 q1 q2 q3 q4 q5 q6 q7 q8 c0 c1 c2 c3 c4 c5 c6 c7 c8
 else
 bif v16 == (1 : Int) then
 bif decide (c4 ≤ (0 : Int)) then
 bif v14 == (0 : Int) then
 bif v16 == (0 : Int) then
 bif decide (c0 > (0 : Int)) then
 kr false p0 p1 p2 p3 p4 p5 p6 p7 p8 q0 q1 q2 q3 q4 q5 q6 q7 q8 c0 c1 c2 c3 c4 c5 c6 c7 c8
 else
 rec v14 v15 (IntKind.wrap .i64 (v16 + (1 : Int))) p0 p1 p2 p3 p4 p5 p6 p7 p8 q0 q1 q2 q3 q4 q5 q6 q7 q8 c0 c1 c2 c3 c4 c5 c6 c7 c8
 else
 bif v16 == (1 : Int) then
 bif decide (c1 > (0 : Int)) then
 kr false p0 p1 p2 p3 p4 p5 p6 p7 p8 q0 q1 q2 q3 q4 q5 q6 q7 q8 c0 c1 c2 c3 c4 c5 c6 c7 c8
 else
 rec v14 v15 (IntKind.wrap .i64 (v16 + (1 : Int))) p0 p1 p2 p3 p4 p5 p6 p7 p8 q0 q1 q2 q3 q4 q5 q6 q7 q8 c0 c1 c2 c3 c4 c5 c6 c7 c8
 else
 bif v16 == (2 : Int) then
 bif decide (c2 > (0 : Int)) then
 kr false p0 p1 p2 p3 p4 p5 p6 p7 p8 q0 q1 q2 q3 q4 q5 q6 q7 q8 c0 c1 c2 c3 c4 c5 c6 c7 c8
 else
 rec v14 v15 (IntKind.wrap .i64 (v16 + (1 : Int))) p0 p1 p2 p3 p4 p5 p6 p7 p8 q0 q1 q2 q3 q4 q5 q6 q7 q8 c0 c1 c2 c3 c4 c5 c6 c7 c8
 else
 none
 else
 bif v14 == (1 : Int) then
 bif v16 == (0 : Int) then
 bif decide (c3 > (0 : Int)) then
 kr false p0 p1 p2 p3 p4 p5 p6 p7 p8 q0 q1 q2 q3 q4 q5 q6 q7 q8 c0 c1 c2 c3 c4 c5 c6 c7 c8
 else
 rec v14 v15 (IntKind.wrap .i64 (v16 + (1 : Int))) p0 p1 p2 p3 p4 p5 p6 p7 p8 q0 q1 q2 q3 q4 q5 q6 q7 q8 c0 c1 c2 c3 c4 c5 c6 c7 c8
 else
 bif v16 == (1 : Int) then
 bif decide (c4 > (0 : Int)) then
 kr false p0 p1 p2 p3 p4 p5 p6 p7 p8 q0 q1 q2 q3 q4 q5 q6 q7 q8 c0 c1 c2 c3 c4 c5 c6 c7 c8
 else
 rec v14 v15 (IntKind.wrap .i64 (v16 + (1 : Int))) p0 p1 p2 p3 p4 p5 p6 p7 p8 q0 q1 q2 q3 q4 q5 q6 q7 q8 c0 c1 c2 c3 c4 c5 c6 c7 c8
 else
 bif v16 == (2 : Int) then
 bif decide (c5 > (0 : Int)) then
 kr false p0 p1 p2 p3 p4 p5 p6 p7 p8 q0 q1 q2 q3 q4 q5 q6 q7 q8 c0 c1 c2 c3 c4 c5 c6 c7 c8
 else
 rec v14 v15 (IntKind.wrap .i64 (v16 + (1 : Int))) p0 p1 p2 p3 p4 p5 p6 p7 p8 q0 q1 q2 q3 q4 q5 q6 q7 q8 c0 c1 c2 c3 c4 c5 c6 c7 c8
 else
 none
 else
 bif v14 == (2 : Int) then
 bif v16 == (0 : Int) then
 bif decide (c6 > (0 : Int)) then
 kr false p0 p1 p2 p3 p4 p5 p6 p7 p8 q0 q1 q2 q3 q4 q5 q6 q7 q8 c0 c1 c2 c3 c4 c5 c6 c7 c8
 else
 rec v14 v15 (IntKind.wrap .i64 (v16 + (1 : Int))) p0 p1 p2 p3 p4 p5 p6 p7 p8 q0 q1 q2 q3 q4 q5 q6 q7 q8 c0 c1 c2 c3 c4 c5 c6 c7 c8
 else
 bif v16 == (1 : Int) then
 bif decide (c7 > (0 : Int)) then
 kr false p0 p1 p2 p3 p4 p5 p6 p7 p8 q0 q1 q2 q3 q4 q5 q6 q7 q8 c0 c1 c2 c3 c4 c5 c6 c7 c8
 else
 rec v14 v15 (IntKind.wrap .i64 (v16 + (1 : Int))) p0 p1 p2 p3 p4 p5 p6 p7 p8 q0 q1 q2 q3 q4 q5 q6 q7 q8 c0 c1 c2 c3 c4 c5 c6 c7 c8
 else
 bif v16 == (2 : Int) then
 bif decide (c8 > (0 : Int)) then
 kr false p0 p1 p2 p3 p4 p5 p6 p7 p8 q0 q1 q2 q3 q4 q5 q6 q7 q8 c0 c1 c2 c3 c4 c5 c6 c7 c8
 else
 rec v14 v15 (IntKind.wrap .i64 (v16 + (1 : Int))) p0 p1 p2 p3 p4 p5 p6 p7 p8 q0 q1 q2 q3 q4 q5 q6 q7 q8 c0 c1 c2 c3 c4 c5 c6 c7 c8
 else
 none
 else
 none
 else
 rec v14 v15 (IntKind.wrap .i64 (v16 + (1 : Int))) p0 p1 p2 p3 p4 p5 p6 p7 p8 q0 q1 q2 q3 q4 q5 q6 q7 q8 c0 c1 c2 c3 c4 c5 c6 c7 c8
 else
 bif v16 == (2 : Int) then
 bif decide (c5 ≤ (0 : Int)) then
 bif v14 == (0 : Int) then
 bif v16 == (0 : Int) then
 bif decide (c0 > (0 : Int)) then
 kr false p0 p1 p2 p3 p4 p5 p6 p7 p8 q0 q1 q2 q3 q4 q5 q6 q7 q8 c0 c1 c2 c3 c4 c5 c6 c7 c8
 else
 rec v14 v15 (IntKind.wrap .i64 (v16 + (1 : Int))) p0 p1 p2 p3 p4 p5 p6 p7 p8 q0 q1 q2 q3 q4 q5 q6 q7 q8 c0 c1 c2 c3 c4 c5 c6 c7 c8
 else
 bif v16 == (1 : Int) then
 bif decide (c1 > (0 : Int)) then
 kr false p0 p1 p2 p3 p4 p5 p6 p7 p8 q0 q1 q2 q3 q4 q5 q6 q7 q8 c0 c1 c2 c3 c4 c5 c6 c7 c8
 else
 rec v14 v15 (IntKind.wrap .i64 (v16 + (1 : Int))) p0 p1 p2 p3 p4 p5 p6 p7 p8 q0 q1 q2 q3 q4 q5 q6 q7 q8 c0 c1 c2 c3 c4 c5 c6 c7 c8
 else
 bif v16 == (2 : Int) then
 bif decide (c2 > (0 : Int)) then
 kr false p0 p1 p2 p3 p4 p5 p6 p7 p8 q0 q1 q2 q3 q4 q5 q6 q7 q8 c0 c1 c2 c3 c4 c5 c6 c7 c8
 else
 rec v14 v15 (IntKind.wrap .i64 (v16 + (1 : Int))) p0 p1 p2 p3 p4 p5 p6 p7 p8 q0 q1 q2 q3 q4 q5 q6 q7 q8 c0 c1 c2 c3 c4 c5 c6 c7 c8
 else
 none
 else
 bif v14 == (1 : Int) then
 bif v16 == (0 : Int) then
 bif decide (c3 > (0 : Int)) then
 kr false p0 p1 p2 p3 p4 p5 p6 p7 p8 q0 q1 q2 q3 q4 q5 q6 q7 q8 c0 c1 c2 c3 c4 c5 c6 c7 c8
 else
 rec v14 v15 (IntKind.wrap .i64 (v16 + (1 : Int))) p0 p1 p2 p3 p4 p5 p6 p7 p8 q0 q1 q2 q3 q4 q5 q6 q7 q8 c0 c1 c2 c3 c4 c5 c6 c7 c8
 else
 bif v16 == (1 : Int) then
 bif decide (c4 > (0 : Int)) then
 kr false p0 p1 p2 p3 p4 p5 p6 p7 p8 q0 q1 q2 q3 q4 q5 q6 q7 q8 c0 c1 c2 c3 c4 c5 c6 c7 c8
 else
 rec v14 v15 (IntKind.wrap .i64 (v16 + (1 : Int))) p0 p1 p2 p3 p4 p5 p6 p7 p8 q0 q1 q2 q3 q4 q5 q6 q7 q8 c0 c1 c2 c3 c4 c5 c6 c7 c8
 else
 bif v16 == (2 : Int) then
 bif decide (c5 > (0 : Int)) then
 kr false p0 p1 p2 p3 p4 p5 p6 p7 p8 q0 q1 q2 q3 q4 q5 q6 q7 q8 c0 c1 c2 c3 c4 c5 c6 c7 c8
 else
 rec v14 v15 (IntKind.wrap .i64 (v16 + (1 : Int))) p0 p1 p2 p3 p4 p5 p6 p7 p8 q0 q1 q2 q3 q4 q5 q6 q7 q8 c0 c1 c2 c3 c4 c5 c6 c7 c8
 else
 none
 else
 bif v14 == (2 : Int) then
 bif v16 == (0 : Int) then
 bif decide (c6 > (0 : Int)) then
 kr false p0 p1 p2 p3 p4 p5 p6 p7 p8 q0 q1 q2 q3 q4 q5 q6 q7 q8 c0 c1 c2 c3 c4 c5 c6 c7 c8
 else
 rec v14 v15 (IntKind.wrap .i64 (v16 + (1 : Int))) p0 p1 p2 p3 p4 p5 p6 p7 p8 q0 q1 q2 q3 q4 q5 q6 q7 q8 c0 c1 c2 c3 c4 c5 c6 c7 c8
 else
 bif v16 == (1 : Int) then
 bif decide (c7 > (0 : Int)) then
 kr false p0 p1 p2 p3 p4 p5 p6 p7 p8 q0 q1 q2 q3 q4 q5 q6 q7 q8 c0 c1 c2 c3 c4 c5 c6 c7 c8
 else
 rec v14 v15 (IntKind.wrap .i64 (v16 + (1 : Int))) p0 p1 p2 p3 p4 p5 p6 p7 p8 q0 q1 q2 q3 q4 q5 q6 q7 q8 c0 c1 c2 c3 c4 c5 c6 c7 c8
 else
 bif v16 == (2 : Int) then
 bif decide (c8 > (0 : Int)) then
 kr false p0 p1 p2 p3 p4 p5 p6 p7 p8 q0 q1 q2 q3 q4 q5 q6 q7 q8 c0 c1 c2 c3 c4 c5 c6 c7 c8
 else
 rec v14 v15 (IntKind.wrap .i64 (v16 + (1 : Int))) p0 p1 p2 p3 p4 p5 p6 p7 p8 q0 q1 q2 q3 q4 q5 q6 q7 q8 c0 c1 c2 c3 c4 c5 c6 c7 c8
 else
 none
 else
 none
 else
 rec v14 v15 (IntKind.wrap .i64 (v16 + (1 : Int))) p0 p1 p2 p3 p4 p5 p6 p7 p8 q0 q1 q2 q3 q4 q5 q6 q7 q8 c0 c1 c2 c3 c4 c5 c6 c7 c8
 else
 none
 else
 bif v15 == (2 : Int) then
 bif v16 == (0 : Int) then
 bif decide (c6 ≤ (0 : Int)) then
 bif v14 == (0 : Int) then
 bif v16 == (0 : Int) then
 bif decide (c0 > (0 : Int)) then
 kr false p0 p1 p2 p3 p4 p5 p6 p7 p8 q0 q1 q2 q3 q4 q5 q6 q7 q8 c0 c1 c2 c3 c4 c5 c6 c7 c8
 else
 rec v14 v15 (IntKind.wrap .i64 (v16 + (1 : Int))) p0 p1 p2 p3 p4 p5 p6 p7 p8 q0 q1 q2 q3 q4 q5 q6 q7 q8 c0 c1 c2 c3 c4 c5 c6 c7 c8
 else
 bif v16 == (1 : Int) then
 bif decide (c1 > (0 : Int)) then
 kr false p0 p1 p2 p3 p4 p5 p6 p7 p8 q0 q1 q2 q3 q4 q5 q6 q7 q8 c0 c1 c2 c3 c4 c5 c6 c7 c8
 else
 rec v14 v15 (IntKind.wrap .i64 (v16 + (1 : Int))) p0 p1 p2 p3 p4 p5 p6 p7 p8 q0 q1 q2 q3 q4 q5 q6 q7 q8 c0 c1 c2 c3 c4 c5 c6 c7 c8
 else
 bif v16 == (2 : Int) then
 bif decide (c2 > (0 : Int)) then
 kr false p0 p1 p2 p3 p4 p5 p6 p7 p8 q0 q1 q2 q3 q4 q5 q6 q7 q8 c0 c1 c2 c3 c4 c5 c6 c7 c8
 else
 rec v14 v15 (IntKind.wrap .i64 (v16 + (1 : Int))) p0 p1 p2 p3 p4 p5 p6 p7 p8 q0 q1 q2 q3 q4 q5 q6 q7 q8 c0 c1 c2 c3 c4 c5 c6 c7 c8
 else
 none
 else
 bif v14 == (1 : Int) then
 bif v16 == (0 : Int) then
 bif decide (c3 > (0 : Int)) then
 kr false p0 p1 p2 p3 p4 p5 p6 p7 p8 q0 q1 q2 q3 q4 q5 q6 q7 q8 c0 c1 c2 c3 c4 c5 c6 c7 c8
 else
 rec v14 v15 (IntKind.wrap .i64 (v16 + (1 : Int))) p0 p1 p2 p3 p4 p5 p6 p7 p8 q0 q1 q2 q3 q4 q5 q6 q7 q8 c0 c1 c2 c3 c4 c5 c6 c7 c8
 else
 bif v16 == (1 : Int) then
 bif decide (c4 > (0 : Int)) then
 kr false p0 p1 p2 p3 p4 p5 p6 p7 p8 q0 q1 q2 q3 q4 q5 q6 q7 q8 c0 c1 c2 c3 c4 c5 c6 c7 c8
 else
 rec v14 v15 (IntKind.wrap .i64 (v16 + (1 : Int))) p0 p1 p2 p3 p4 p5 p6 p7 p8 q0 q1 q2 q3 q4 q5 q6 q7 q8 c0 c1 c2 c3 c4 c5 c6 c7 c8
 else
 bif v16 == (2 : Int) then
 bif decide (c5 > (0 : Int)) then
 kr false p0 p1 p2 p3 p4 p5 p6 p7 p8 q0 q1 q2 q3 q4 q5 q6 q7 q8 c0 c1 c2 c3 c4 c5 c6 c7 c8
 else
 rec v14 v15 (IntKind.wrap .i64 (v16 + (1 : Int))) p0 p1 p2 p3 p4 p5 p6 p7 p8 q0 q1 q2 q3 q4 q5 q6 q7 q8 c0 c1 c2 c3 c4 c5 c6 c7 c8
 else
 none
 else
 bif v14 == (2 : Int) then
 bif v16 == (0 : Int) then
 bif decide (c6 > (0 : Int)) then
 kr false p0 p1 p2 p3 p4 p5 p6 p7 p8 q0 q1 q2 q3 q4 q5 q6 q7 q8 c0 c1 c2 c3 c4 c5 c6 c7 c8
 else
 rec v14 v15 (IntKind.wrap .i64 (v16 + (1 : Int))) p0 p1 p2 p3 p4 p5 p6 p7 p8 q0 q1 q2 q3 q4 q5 q6 q7 q8 c0 c1 c2 c3 c4 c5 c6 c7 c8
 else
 bif v16 == (1 : Int) then
 bif decide (c7 > (0 : Int)) then
 kr false p0 p1 p2 p3 p4 p5 p6 p7 p8 q0 q1 q2 q3 q4 q5 q6 q7 q8 c0 c1 c2 c3 c4 c5 c6 c7 c8
 else
 rec v14 v15 (IntKind.wrap .i64 (v16 + (1 : Int))) p0 p1 p2 p3 p4 p5 p6 p7 p8 q0 q1 q2 q3 q4 q5 q6 q7 q8 c0 c1 c2 c3 c4 c5 c6 c7 c8
 else
 bif v16 == (2 : Int) then
 bif decide (c8 > (0 : Int)) then
 kr false p0 p1 p2 p3 p4 p5 p6 p7 p8 q0 q1 q2 q3 q4 q5 q6 q7 q8 c0 c1 c2 c3 c4 c5 c6 c7 c8
 else
 rec v14 v15 (IntKind.wrap .i64 (v16 + (1 : Int))) p0 p1 p2 p3 p4 p5 p6 p7 p8 q0 q1 q2 q3 q4 q5 q6 q7 q8 c0 c1 c2 c3 c4 c5 c6 c7 c8
 else
 none
 else
 none
 else
 rec v14 v15 (IntKind.wrap .i64 (v16 + (1 : Int))) p0 p1 p2 p3 p4 p5 p6 p7 p8 q0 q1 q2 q3 q4 q5 q6 q7 q8 c0 c1 c2 c3 c4 c5 c6 c7 c8
 else
 bif v16 == (1 : Int) then
 bif decide (c7 ≤ (0 : Int)) then
 bif v14 == (0 : Int) then
 bif v16 == (0 : Int) then
 bif decide (c0 > (0 : Int)) then
 kr false p0 p1 p2 p3 p4 p5 p6 p7 p8 q0 q1 q2 q3 q4 q5 q6 q7 q8 c0 c1 c2 c3 c4 c5 c6 c7 c8
 else
 rec v14 v15 (IntKind.wrap .i64 (v16 + (1 : Int))) p0 p1 p2 p3 p4 p5 p6 p7 p8 q0 q1 q2 q3 q4 q5 q6 q7 q8 c0 c1 c2 c3 c4 c5 c6 c7 c8
 else
 bif v16 == (1 : Int) then
 bif decide (c1 > (0 : Int)) then
 kr false p0 p1 p2 p3 p4 p5 p6 p7 p8 q0 q1 q2 q3 q4 q5 q6 q7 q8 c0 c1 c2 c3 c4 c5 c6 c7 c8
 else
 rec v14 v15 (IntKind.wrap .i64 (v16 + (1 : Int))) p0 p1 p2 p3 p4 p5 p6 p7 p8 q0 q1 q2 q3 q4 q5 q6 q7 q8 c0 c1 c2 c3 c4 c5 c6 c7 c8
 else
 bif v16 == (2 : Int) then
 bif decide (c2 > (0 : Int)) then
 kr false p0 p1 p2 p3 p4 p5 p6 p7 p8 q0 q1 q2 q3 q4 q5 q6 q7 q8 c0 c1 c2 c3 c4 c5 c6 c7 c8
 else
 rec v14 v15 (IntKind.wrap .i64 (v16 + (1 : Int))) p0 p1 p2 p3 p4 p5 p6 p7 p8 q0 q1 q2 q3 q4 q5 q6 q7 q8 c0 c1 c2 c3 c4 c5 c6 c7 c8
 else
 none
 else
 bif v14 == (1 : Int) then
 bif v16 == (0 : Int) then
 bif decide (c3 > (0 : Int)) then
 kr false p0 p1 p2 p3 p4 p5 p6 p7 p8 q0 q1 q2 q3 q4 q5 q6 q7 q8 c0 c1 c2 c3 c4 c5 c6 c7 c8
 else
 rec v14 v15 (IntKind.wrap .i64 (v16 + (1 : Int))) p0 p1 p2 p3 p4 p5 p6 p7 p8 q0 q1 q2 q3 q4 q5 q6 q7 q8 c0 c1 c2 c3 c4 c5 c6 c7 c8
 else
 bif v16 == (1 : Int) then
 bif decide (c4 > (0 : Int)) then
 kr false p0 p1 p2 p3 p4 p5 p6 p7 p8 q0 q1 q2 q3 q4 q5 q6 q7 q8 c0 c1 c2 c3 c4 c5 c6 c7 c8
 else
 rec v14 v15 (IntKind.wrap .i64 (v16 + (1 : Int))) p0 p1 p2 p3 p4 p5 p6 p7 p8 q0 q1 q2 q3 q4 q5 q6 q7 q8 c0 c1 c2 c3 c4 c5 c6 c7 c8
 else
 bif v16 == (2 : Int) then
 bif decide (c5 > (0 : Int)) then
 kr false p0 p1 p2 p3 p4 p5 p6 p7 p8 q0 q1 q2 q3 q4 q5 q6 q7 q8 c0 c1 c2 c3 c4 c5 c6 c7 c8
 else
 rec v14 v15 (IntKind.wrap .i64 (v16 + (1 : Int))) p0 p1 p2 p3 p4 p5 p6 p7 p8 q0 q1 q2 q3 q4 q5 q6 q7 q8 c0 c1 c2 c3 c4 c5 c6 c7 c8
 else
 none
 else
 bif v14 == (2 : Int) then
 bif v16 == (0 : Int) then
 bif decide (c6 > (0 : Int)) then
 kr false p0 p1 p2 p3 p4 p5 p6 p7 p8 q0 q1 q2 q3 q4 q5 q6 q7 q8 c0 c1 c2 c3 c4 c5 c6 c7 c8
 else
 rec v14 v15 (IntKind.wrap .i64 (v16 + (1 : Int))) p0 p1 p2 p3 p4 p5 p6 p7 p8 q0 q1 q2 q3 q4 q5 q6 q7 q8 c0 c1 c2 c3 c4 c5 c6 c7 c8
 else
 bif v16 == (1 : Int) then
 bif decide (c7 > (0 : Int)) then
 kr false p0 p1 p2 p3 p4 p5 p6 p7 p8 q0 q1 q2 q3 q4 q5 q6 q7 q8 c0 c1 c2 c3 c4 c5 c6 c7 c8
 else
 rec v14 v15 (IntKind.wrap .i64 (v16 + (1 : Int))) p0 p1 p2 p3 p4 p5 p6 p7 p8 q0 q1 q2 q3 q4 q5 q6 q7 q8 c0 c1 c2 c3 c4 c5 c6 c7 c8
 else
 bif v16 == (2 : Int) then
 bif decide (c8 > (0 : Int)) then
 kr false p0 p1 p2 p3 p4 p5 p6 p7 p8 q0 q1 q2 q3 q4 q5 q6 q7 q8 c0 c1 c2 c3 c4 c5 c6 c7 c8
 else
 rec v14 v15 (IntKind.wrap .i64 (v16 + (1 : Int))) p0 p1 p2 p3 p4 p5 p6 p7 p8 q0 q1 q2 q3 q4 q5 q6 q7 q8 c0 c1 c2 c3 c4 c5 c6 c7 c8
 else
 none
 else
 none
 else
 rec v14 v15 (IntKind.wrap .i64 (v16 + (1 : Int))) p0 p1 p2 p3 p4 p5 p6 p7 p8 q0 q1 q2 q3 q4 q5 q6 q7 q8 c0 c1 c2 c3 c4 c5 c6 c7 c8
 else
 bif v16 == (2 : Int) then
 bif decide (c8 ≤ (0 : Int)) then
 bif v14 == (0 : Int) then
 bif v16 == (0 : Int) then
 bif decide (c0 > (0 : Int)) then
 kr false p0 p1 p2 p3 p4 p5 p6 p7 p8 q0 q1 q2 q3 q4 q5 q6 q7 q8 c0 c1 c2 c3 c4 c5 c6 c7 c8
 else
 rec v14 v15 (IntKind.wrap .i64 (v16 + (1 : Int))) p0 p1 p2 p3 p4 p5 p6 p7 p8 q0 q1 q2 q3 q4 q5 q6 q7 q8 c0 c1 c2 c3 c4 c5 c6 c7 c8
 else
 bif v16 == (1 : Int) then
 bif decide (c1 > (0 : Int)) then
 kr false p0 p1 p2 p3 p4 p5 p6 p7 p8 q0 q1 q2 q3 q4 q5 q6 q7 q8 c0 c1 c2 c3 c4 c5 c6 c7 c8
 else
 rec v14 v15 (IntKind.wrap .i64 (v16 + (1 : Int))) p0 p1 p2 p3 p4 p5 p6 p7 p8 q0 q1 q2 q3 q4 q5 q6 q7 q8 c0 c1 c2 c3 c4 c5 c6 c7 c8
 else
 bif v16 == (2 : Int) then
 bif decide (c2 > (0 : Int)) then
 kr false p0 p1 p2 p3 p4 p5 p6 p7 p8 q0 q1 q2 q3 q4 q5 q6 q7 q8 c0 c1 c2 c3 c4 c5 c6 c7 c8
 else
 rec v14 v15 (IntKind.wrap .i64 (v16 + (1 : Int))) p0 p1 p2 p3 p4 p5 p6 p7 p8 q0 q1 q2 q3 q4 q5 q6 q7 q8 c0 c1 c2 c3 c4 c5 c6 c7 c8
 else
 none
 else
 bif v14 == (1 : Int) then
 bif v16 == (0 : Int) then
 bif decide (c3 > (0 : Int)) then
 kr false p0 p1 p2 p3 p4 p5 p6 p7 p8 q0 q1 q2 q3 q4 q5 q6 q7 q8 c0 c1 c2 c3 c4 c5 c6 c7 c8
 else
 rec v14 v15 (IntKind.wrap .i64 (v16 + (1 : Int))) p0 p1 p2 p3 p4 p5 p6 p7 p8 q0 q1 q2 q3 q4 q5 q6 q7 q8 c0 c1 c2 c3 c4 c5 c6 c7 c8
 else
 bif v16 == (1 : Int) then
 bif decide (c4 > (0 : Int)) then
 kr false p0 p1 p2 p3 p4 p5 p6 p7 p8 q0 q1 q2 q3 q4 q5 q6 q7 q8 c0 c1 c2 c3 c4 c5 c6 c7 c8
 else
 rec v14 v15 (IntKind.wrap .i64 (v16 + (1 : Int))) p0 p1 p2 p3 p4 p5 p6 p7 p8 q0 q1 q2 q3 q4 q5 q6 q7 q8 c0 c1 c2 c3 c4 c5 c6 c7 c8
 else
 bif v16 == (2 : Int) then
 bif decide (c5 > (0 : Int)) then
 kr false p0 p1 p2 p3 p4 p5 p6 p7 p8 q0 q1 q2 q3 q4 q5 q6 q7 q8 c0 c1 c2 c3 c4 c5 c6 c7 c8
 else
 rec v14 v15 (IntKind.wrap .i64 (v16 + (1 : Int))) p0 p1 p2 p3 p4 p5 p6 p7 p8 q0 q1 q2 q3 q4 q5 q6 q7 q8 c0 c1 c2 c3 c4 c5 c6 c7 c8
 else
 none
 else
 bif v14 == (2 : Int) then
 bif v16 == (0 : Int) then
 bif decide (c6 > (0 : Int)) then
 kr false p0 p1 p2 p3 p4 p5 p6 p7 p8 q0 q1 q2 q3 q4 q5 q6 q7 q8 c0 c1 c2 c3 c4 c5 c6 c7 c8
 else
 rec v14 v15 (IntKind.wrap .i64 (v16 + (1 : Int))) p0 p1 p2 p3 p4 p5 p6 p7 p8 q0 q1 q2 q3 q4 q5 q6 q7 q8 c0 c1 c2 c3 c4 c5 c6 c7 c8
 else
 bif v16 == (1 : Int) then
 bif decide (c7 > (0 : Int)) then
 kr false p0 p1 p2 p3 p4 p5 p6 p7 p8 q0 q1 q2 q3 q4 q5 q6 q7 q8 c0 c1 c2 c3 c4 c5 c6 c7 c8
 else
 rec v14 v15 (IntKind.wrap .i64 (v16 + (1 : Int))) p0 p1 p2 p3 p4 p5 p6 p7 p8 q0 q1 q2 q3 q4 q5 q6 q7 q8 c0 c1 c2 c3 c4 c5 c6 c7 c8
 else
 bif v16 == (2 : Int) then
 bif decide (c8 > (0 : Int)) then
 kr false p0 p1 p2 p3 p4 p5 p6 p7 p8 q0 q1 q2 q3 q4 q5 q6 q7 q8 c0 c1 c2 c3 c4 c5 c6 c7 c8
 else
 rec v14 v15 (IntKind.wrap .i64 (v16 + (1 : Int))) p0 p1 p2 p3 p4 p5 p6 p7 p8 q0 q1 q2 q3 q4 q5 q6 q7 q8 c0 c1 c2 c3 c4 c5 c6 c7 c8
 else
 none
 else
 none
 else
 rec v14 v15 (IntKind.wrap .i64 (v16 + (1 : Int))) p0 p1 p2 p3 p4 p5 p6 p7 p8 q0 q1 q2 q3 q4 q5 q6 q7 q8 c0 c1 c2 c3 c4 c5 c6 c7 c8
 else
 none
 else
 none
 else
 rec v14 v15 (IntKind.wrap .i64 (v16 + (1 : Int))) p0 p1 p2 p3 p4 p5 p6 p7 p8 q0 q1 q2 q3 q4 q5 q6 q7 q8 c0 c1 c2 c3 c4 c5 c6 c7 c8
 else
 none
 else
 bif v14 == (2 : Int) then
 bif v15 == (0 : Int) then
 bif decide (c6 ≤ (0 : Int)) then
 bif v15 == (0 : Int) then
 bif v16 == (0 : Int) then
 bif decide (c0 ≤ (0 : Int)) then
 bif v14 == (0 : Int) then
 bif v16 == (0 : Int) then
 bif decide (c0 > (0 : Int)) then
 kr false p0 p1 p2 p3 p4 p5 p6 p7 p8 q0 q1 q2 q3 q4 q5 q6 q7 q8 c0 c1 c2 c3 c4 c5 c6 c7 c8
 else
 rec v14 v15 (IntKind.wrap .i64 (v16 + (1 : Int))) p0 p1 p2 p3 p4 p5 p6 p7 p8 q0 q1 q2 q3 q4 q5 q6 q7 q8 c0 c1 c2 c3 c4 c5 c6 c7 c8
 else
 bif v16 == (1 : Int) then
 bif decide (c1 > (0 : Int)) then
 kr false p0 p1 p2 p3 p4 p5 p6 p7 p8 q0 q1 q2 q3 q4 q5 q6 q7 q8 c0 c1 c2 c3 c4 c5 c6 c7 c8
 else
 rec v14 v15 (IntKind.wrap .i64 (v16 + (1 : Int))) p0 p1 p2 p3 p4 p5 p6 p7 p8 q0 q1 q2 q3 q4 q5 q6 q7 q8 c0 c1 c2 c3 c4 c5 c6 c7 c8
 else
 bif v16 == (2 : Int) then
 bif decide (c2 > (0 : Int)) then
 kr false p0 p1 p2 p3 p4 p5 p6 p7 p8 q0 q1 q2 q3 q4 q5 q6 q7 q8 c0 c1 c2 c3 c4 c5 c6 c7 c8
 else
 rec v14 v15 (IntKind.wrap .i64 (v16 + (1 : Int))) p0 p1 p2 p3 p4 p5 p6 p7 p8 q0 q1 q2 q3 q4 q5 q6 q7 q8 c0 c1 c2 c3 c4 c5 c6 c7 c8
 else
 none
 else
 bif v14 == (1 : Int) then
 bif v16 == (0 : Int) then
 bif decide (c3 > (0 : Int)) then
 kr false p0 p1 p2 p3 p4 p5 p6 p7 p8 q0 q1 q2 q3 q4 q5 q6 q7 q8 c0 c1 c2 c3 c4 c5 c6 c7 c8
 else
 rec v14 v15 (IntKind.wrap .i64 (v16 + (1 : Int))) p0 p1 p2 p3 p4 p5 p6 p7 p8 q0 q1 q2 q3 q4 q5 q6 q7 q8 c0 c1 c2 c3 c4 c5 c6 c7 c8
 else
 bif v16 == (1 : Int) then
 bif decide (c4 > (0 : Int)) then
 kr false p0 p1 p2 p3 p4 p5 p6 p7 p8 q0 q1 q2 q3 q4 q5 q6 q7 q8 c0 c1 c2 c3 c4 c5 c6 c7 c8
 else
 rec v14 v15 (IntKind.wrap .i64 (v16 + (1 : Int))) p0 p1 p2 p3 p4 p5 p6 p7 p8 q0 q1 q2 q3 q4 q5 q6 q7 q8 c0 c1 c2 c3 c4 c5 c6 c7 c8
 else
 bif v16 == (2 : Int) then
 bif decide (c5 > (0 : Int)) then
 kr false p0 p1 p2 p3 p4 p5 p6 p7 p8 q0 q1 q2 q3 q4 q5 q6 q7 q8 c0 c1 c2 c3 c4 c5 c6 c7 c8
 else
 rec v14 v15 (IntKind.wrap .i64 (v16 + (1 : Int))) p0 p1 p2 p3 p4 p5 p6 p7 p8 q0 q1 q2 q3 q4 q5 q6 q7 q8 c0 c1 c2 c3 c4 c5 c6 c7 c8
 else
 none
 else
 bif v14 == (2 : Int) then
 bif v16 == (0 : Int) then
 bif decide (c6 > (0 : Int)) then
 kr false p0 p1 p2 p3 p4 p5 p6 p7 p8 q0 q1 q2 q3 q4 q5 q6 q7 q8 c0 c1 c2 c3 c4 c5 c6 c7 c8
 else
 rec v14 v15 (IntKind.wrap .i64 (v16 + (1 : Int))) p0 p1 p2 p3 p4 p5 p6 p7 p8 q0 q1 q2 q3 q4 q5 q6 q7 q8 c0 c1 c2 c3 c4 c5 c6 c7 c8
 else
 bif v16 == (1 : Int) then
 bif decide (c7 > (0 : Int)) then
 kr false p0 p1 p2 p3 p4 p5 p6 p7 p8 q0 q1 q2 q3 q4 q5 q6 q7 q8 c0 c1 c2 c3 c4 c5 c6 c7 c8
 else
 rec v14 v15 (IntKind.wrap .i64 (v16 + (1 : Int))) p0 p1 p2 p3 p4 p5 p6 p7 p8 q0 q1 q2 q3 q4 q5 q6 q7 q8 c0 c1 c2 c3 c4 c5 c6 c7 c8
 else
 bif v16 == (2 : Int) then
 bif decide (c8 > (0 : Int)) then
 kr false p0 p1 p2 p3 p4 p5 p6 p7 p8 q0 q1 q2 q3 q4 q5 q6 q7 q8 c0 c1 c2 c3 c4 c5 c6 c7 c8
 else
 rec v14 v15 (IntKind.wrap .i64 (v16 + (1 : Int))) p0 p1 p2 p3 p4 p5 p6 p7 p8 q0 q1 q2 q3 q4 q5 q6 q7 q8 c0 c1 c2 c3 c4 c5 c6 c7 c8
 else
 none
 else
 none
 else
 rec v14 v15 (IntKind.wrap .i64 (v16 + (1 : Int))) p0 p1 p2 p3 p4 p5 p6 p7 p8 q0 q1 q2 q3 q4 q5 q6 q7 q8 c0 c1 c2 c3 c4 c5 c6 c7 c8
 else
 bif v16 == (1 : Int) then
 bif decide (c1 ≤ (0 : Int)) then
 bif v14 == (0 : Int) then
 bif v16 == (0 : Int) then
 bif decide (c0 > (0 : Int)) then
 kr false p0 p1 p2 p3 p4 p5 p6 p7 p8 q0 q1 q2 q3 q4 q5 q6 q7 q8 c0 c1 c2 c3 c4 c5 c6 c7 c8
 else
 rec v14 v15 (IntKind.wrap .i64 (v16 + (1 : Int))) p0 p1 p2 p3 p4 p5 p6 p7 p8 q0 q1 q2 q3 q4 q5 q6 q7 q8 c0 c1 c2 c3 c4 c5 c6 c7 c8
 else
 bif v16 == (1 : Int) then
 bif decide (c1 > (0 : Int)) then
 kr false p0 p1 p2 p3 p4 p5 p6 p7 p8 q0 q1 q2 q3 q4 q5 q6 q7 q8 c0 c1 c2 c3 c4 c5 c6 c7 c8
 else
 rec v14 v15 (IntKind.wrap .i64 (v16 + (1 : Int))) p0 p1 p2 p3 p4 p5 p6 p7 p8 q0 q1 q2 q3 q4 q5 q6 q7 q8 c0 c1 c2 c3 c4 c5 c6 c7 c8
 else
 bif v16 == (2 : Int) then
 bif decide (c2 > (0 : Int)) then
 kr false p0 p1 p2 p3 p4 p5 p6 p7 p8 q0 q1 q2 q3 q4 q5 q6 q7 q8 c0 c1 c2 c3 c4 c5 c6 c7 c8
 else
 rec v14 v15 (IntKind.wrap .i64 (v16 + (1 : Int))) p0 p1 p2 p3 p4 p5 p6 p7 p8 q0 q1 q2 q3 q4 q5 q6 q7 q8 c0 c1 c2 c3 c4 c5 c6 c7 c8
 else
 none
 else
 bif v14 == (1 : Int) then
 bif v16 == (0 : Int) then
 bif decide (c3 > (0 : Int)) then
 kr false p0 p1 p2 p3 p4 p5 p6 p7 p8 q0 q1 q2 q3 q4 q5 q6 q7 q8 c0 c1 c2 c3 c4 c5 c6 c7 c8
 else
 rec v14 v15 (IntKind.wrap .i64 (v16 + (1 : Int))) p0 p1 p2 p3 p4 p5 p6 p7 p8 q0 q1 q2 q3 q4 q5 q6 q7 q8 c0 c1 c2 c3 c4 c5 c6 c7 c8
 else
 bif v16 == (1 : Int) then
 bif decide (c4 > (0 : Int)) then
 kr false p0 p1 p2 p3 p4 p5 p6 p7 p8 q0 q1 q2 q3 q4 q5 q6 q7 q8 c0 c1 c2 c3 c4 c5 c6 c7 c8
 else
 rec v14 v15 (IntKind.wrap .i64 (v16 + (1 : Int))) p0 p1 p2 p3 p4 p5 p6 p7 p8 q0 q1 q2 q3 q4 q5 q6 q7 q8 c0 c1 c2 c3 c4 c5 c6 c7 c8
 else
 bif v16 == (2 : Int) then
 bif decide (c5 > (0 : Int)) then
 kr false p0 p1 p2 p3 p4 p5 p6 p7 p8 q0 q1 q2 q3 q4 q5 q6 q7 q8 c0 c1 c2 c3 c4 c5 c6 c7 c8
 else
 rec v14 v15 (IntKind.wrap .i64 (v16 + (1 : Int))) p0 p1 p2 p3 p4 p5 p6 p7 p8 q0 q1 q2 q3 q4 q5 q6 q7 q8 c0 c1 c2 c3 c4 c5 c6 c7 c8
 else
 none
 else
 bif v14 == (2 : Int) then
 bif v16 == (0 : Int) then
 bif decide (c6 > (0 : Int)) then
 kr false p0 p1 p2 p3 p4 p5 p6 p7 p8 q0 q1 q2 q3 q4 q5 q6 q7 q8 c0 c1 c2 c3 c4 c5 c6 c7 c8
 else
 rec v14 v15 (IntKind.wrap .i64 (v16 + (1 : Int))) p0 p1 p2 p3 p4 p5 p6 p7 p8 q0 q1 q2 q3 q4 q5 q6 q7 q8 c0 c1 c2 c3 c4 c5 c6 c7 c8
 else
 bif v16 == (1 : Int) then
 bif decide (c7 > (0 : Int)) then
 kr false p0 p1 p2 p3 p4 p5 p6 p7 p8 q0 q1 q2 q3 q4 q5 q6 q7 q8 c0 c1 c2 c3 c4 c5 c6 c7 c8
 else
 rec v14 v15 (IntKind.wrap .i64 (v16 + (1 : Int))) p0 p1 p2 p3 p4 p5 p6 p7 p8 q0 q1 q2 q3 q4 q5 q6 q7 q8 c0 c1 c2 c3 c4 c5 c6 c7 c8
 else
 bif v16 == (2 : Int) then
 bif decide (c8 > (0 : Int)) then
 kr false p0 p1 p2 p3 p4 p5 p6 p7 p8 q0 q1 q2 q3 q4 q5 q6 q7 q8 c0 c1 c2 c3 c4 c5 c6 c7 c8
 else
 rec v14 v15 (IntKind.wrap .i64 (v16 + (1 : Int))) p0 p1 p2 p3 p4 p5 p6 p7 p8 q0 q1 q2 q3 q4 q5 q6 q7 q8 c0 c1 c2 c3 c4 c5 c6 c7 c8
 else
 none
 else
 none
 else
 rec v14 v15 (IntKind.wrap .i64 (v16 + (1 : Int))) p0 p1 p2 p3 p4 p5 p6 p7 p8 q0 q1 q2 q3 q4 q5 q6 q7 q8 c0 c1 c2 c3 c4 c5 c6 c7 c8
 else
 bif v16 == (2 : Int) then
 bif decide (c2 ≤ (0 : Int)) then
 bif v14 == (0 : Int) then
 bif v16 == (0 : Int) then
 bif decide (c0 > (0 : Int)) then
 kr false p0 p1 p2 p3 p4 p5 p6 p7 p8 q0 q1 q2 q3 q4 q5 q6 q7 q8 c0 c1 c2 c3 c4 c5 c6 c7 c8
 else
 rec v14 v15 (IntKind.wrap .i64 (v16 + (1 : Int))) p0 p1 p2 p3 p4 p5 p6 p7 p8 q0 q1 q2 q3 q4 q5 q6 q7 q8 c0 c1 c2 c3 c4 c5 c6 c7 c8
 else
 bif v16 == (1 : Int) then
 bif decide (c1 > (0 : Int)) then
 kr false p0 p1 p2 p3 p4 p5 p6 p7 p8 q0 q1 q2 q3 q4 q5 q6 q7 q8 c0 c1 c2 c3 c4 c5 c6 c7 c8
 else
 rec v14 v15 (IntKind.wrap .i64 (v16 + (1 : Int))) p0 p1 p2 p3 p4 p5 p6 p7 p8 q0 q1 q2 q3 q4 q5 q6 q7 q8 c0 c1 c2 c3 c4 c5 c6 c7 c8
 else
 bif v16 == (2 : Int) then
 bif decide (c2 > (0 : Int)) then
 kr false p0 p1 p2 p3 p4 p5 p6 p7 p8 q0 q1 q2 q3 q4 q5 q6 q7 q8 c0 c1 c2 c3 c4 c5 c6 c7 c8
 else
 rec v14 v15 (IntKind.wrap .i64 (v16 + (1 : Int))) p0 p1 p2 p3 p4 p5 p6 p7 p8 q0 q1 q2 q3 q4 q5 q6 q7 q8 c0 c1 c2 c3 c4 c5 c6 c7 c8
 else
 none
 else
 bif v14 == (1 : Int) then
 bif v16 == (0 : Int) then
 bif decide (c3 > (0 : Int)) then
 kr false p0 p1 p2 p3 p4 p5 p6 p7 p8 q0 q1 q2 q3 q4 q5 q6 q7 q8 c0 c1 c2 c3 c4 c5 c6 c7 c8
 else
 rec v14 v15 (IntKind.wrap .i64 (v16 + (1 : Int))) p0 p1 p2 p3 p4 p5 p6 p7 p8 q0 q1 q2 q3 q4 q5 q6 q7 q8 c0 c1 c2 c3 c4 c5 c6 c7 c8
 else
 bif v16 == (1 : Int) then
 bif decide (c4 > (0 : Int)) then
 kr false p0 p1 p2 p3 p4 p5 p6 p7 p8 q0 q1 q2 q3 q4 q5 q6 q7 q8 c0 c1 c2 c3 c4 c5 c6 c7 c8
 else
 rec v14 v15 (IntKind.wrap .i64 (v16 + (1 : Int))) p0 p1 p2 p3 p4 p5 p6 p7 p8 q0 q1 q2 q3 q4 q5 q6 q7 q8 c0 c1 c2 c3 c4 c5 c6 c7 c8
 else
 bif v16 == (2 : Int) then
 bif decide (c5 > (0 : Int)) then
 kr false p0 p1 p2 p3 p4 p5 p6 p7 p8 q0 q1 q2 q3 q4 q5 q6 q7 q8 c0 c1 c2 c3 c4 c5 c6 c7 c8
 else
 rec v14 v15 (IntKind.wrap .i64 (v16 + (1 : Int))) p0 p1 p2 p3 p4 p5 p6 p7 p8 q0 q1 q2 q3 q4 q5 q6 q7 q8 c0 c1 c2 c3 c4 c5 c6 c7 c8
 else
 none
 else
 bif v14 == (2 : Int) then
 bif v16 == (0 : Int) then
 bif decide (c6 > (0 : Int)) then
 kr false p0 p1 p2 p3 p4 p5 p6 p7 p8 q0 q1 q2 q3 q4 q5 q6 q7 q8 c0 c1 c2 c3 c4 c5 c6 c7 c8
 else
 rec v14 v15 (IntKind.wrap .i64 (v16 + (1 : Int))) p0 p1 p2 p3 p4 p5 p6 p7 p8 q0 q1 q2 q3 q4 q5 q6 q7 q8 c0 c1 c2 c3 c4 c5 c6 c7 c8
 else
 bif v16 == (1 : Int) then
 bif decide (c7 > (0 : Int)) then
 kr false p0 p1 p2 p3 p4 p5 p6 p7 p8 q0 q1 q2 q3 q4 q5 q6 q7 q8 c0 c1 c2 c3 c4 c5 c6 c7 c8
 else
 rec v14 v15 (IntKind.wrap .i64 (v16 + (1 : Int))) p0 p1 p2 p3 p4 p5 p6 p7 p8 q0 q1 q2 q3 q4 q5 q6 q7 q8 c0 c1 c2 c3 c4 c5 c6 c7 c8
 else
 bif v16 == (2 : Int) then
 bif decide (c8 > (0 : Int)) then
 kr false p0 p1 p2 p3 p4 p5 p6 p7 p8 q0 q1 q2 q3 q4 q5 q6 q7 q8 c0 c1 c2 c3 c4 c5 c6 c7 c8
 else
 rec v14 v15 (IntKind.wrap .i64 (v16 + (1 : Int))) p0 p1 p2 p3 p4 p5 p6 p7 p8 q0 q1 q2 q3 q4 q5 q6 q7 q8 c0 c1 c2 c3 c4 c5 c6 c7 c8
 else
 none
 else
 none
 else
 rec v14 v15 (IntKind.wrap .i64 (v16 + (1 : Int))) p0 p1 p2 p3 p4 p5 p6 p7 p8 q0 q1 q2 q3 q4 q5 q6 q7 q8 c0 c1 c2 c3 c4 c5 c6 c7 c8
 else
 none
 else
 bif v15 == (1 : Int) then
 bif v16 == (0 : Int) then
 bif decide (c3 ≤ (0 : Int)) then
 bif v14 == (0 : Int) then
 bif v16 == (0 : Int) then
 bif decide (c0 > (0 : Int)) then
 kr false p0 p1 p2 p3 p4 p5 p6 p7 p8 q0 q1 q2 q3 q4 q5 q6 q7 q8 c0 c1 c2 c3 c4 c5 c6 c7 c8
 else
 rec v14 v15 (IntKind.wrap .i64 (v16 + (1 : Int))) p0 p1 p2 p3 p4 p5 p6 p7 p8 q0 q1 q2 q3 q4 q5 q6 q7 q8 c0 c1 c2 c3 c4 c5 c6 c7 c8
 else
 bif v16 == (1 : Int) then
 bif decide (c1 > (0 : Int)) then
 kr false p0 p1 p2 p3 p4 p5 p6 p7 p8 q0 q1 q2 q3 q4 q5 q6 q7 q8 c0 c1 c2 c3 c4 c5 c6 c7 c8
 else
 rec v14 v15 (IntKind.wrap .i64 (v16 + (1 : Int))) p0 p1 p2 p3 p4 p5 p6 p7 p8 q0 q1 q2 q3 q4 q5 q6 q7 q8 c0 c1 c2 c3 c4 c5 c6 c7 c8
 else
 bif v16 == (2 : Int) then
 bif decide (c2 > (0 : Int)) then
 kr false p0 p1 p2 p3 p4 p5 p6 p7 p8 q0 q1 q2 q3 q4 q5 q6 q7 q8 c0 c1 c2 c3 c4 c5 c6 c7 c8
 else
 rec v14 v15 (IntKind.wrap .i64 (v16 + (1 : Int))) p0 p1 p2 p3 p4 p5 p6 p7 p8 q0 q1 q2 q3 q4 q5 q6 q7 q8 c0 c1 c2 c3 c4 c5 c6 c7 c8
 else
 none
 else
 bif v14 == (1 : Int) then
 bif v16 == (0 : Int) then
 bif decide (c3 > (0 : Int)) then
 kr false p0 p1 p2 p3 p4 p5 p6 p7 p8 q0 q1 q2 q3 q4 q5 q6 q7 q8 c0 c1 c2 c3 c4 c5 c6 c7 c8
 else
 rec v14 v15 (IntKind.wrap .i64 (v16 + (1 : Int))) p0 p1 p2 p3 p4 p5 p6 p7 p8 q0 q1 q2 q3 q4 q5 q6 q7 q8 c0 c1 c2 c3 c4 c5 c6 c7 c8
 else
 bif v16 == (1 : Int) then
 bif decide (c4 > (0 : Int)) then
 kr false p0 p1 p2 p3 p4 p5 p6 p7 p8 q0 q1 q2 q3 q4 q5 q6 q7 q8 c0 c1 c2 c3 c4 c5 c6 c7 c8
 else
 rec v14 v15 (IntKind.wrap .i64 (v16 + (1 : Int))) p0 p1 p2 p3 p4 p5 p6 p7 p8 q0 q1 q2 q3 q4 q5 q6 q7 q8 c0 c1 c2 c3 c4 c5 c6 c7 c8
 else
 bif v16 == (2 : Int) then
 bif decide (c5 > (0 : Int)) then
 kr false p0 p1 p2 p3 p4 p5 p6 p7 p8 q0 q1 q2 q3 q4 q5 q6 q7 q8 c0 c1 c2 c3 c4 c5 c6 c7 c8
 else
 rec v14 v15 (IntKind.wrap .i64 (v16 + (1 : Int))) p0 p1 p2 p3 p4 p5 p6 p7 p8 q0 q1 q2 q3 q4 q5 q6 q7 q8 c0 c1 c2 c3 c4 c5 c6 c7 c8
 else
 none
 else
 bif v14 == (2 : Int) then
 bif v16 == (0 : Int) then
 bif decide (c6 > (0 : Int)) then
 kr false p0 p1 p2 p3 p4 p5 p6 p7 p8 q0 q1 q2 q3 q4 q5 q6 q7 q8 c0 c1 c2 c3 c4 c5 c6 c7 c8
 else
 rec v14 v15 (IntKind.wrap .i64 (v16 + (1 : Int))) p0 p1 p2 p3 p4 p5 p6 p7 p8 q0 q1 q2 q3 q4 q5 q6 q7 q8 c0 c1 c2 c3 c4 c5 c6 c7 c8
 else
 bif v16 == (1 : Int) then
 bif decide (c7 > (0 : Int)) then
 kr false p0 p1 p2 p3 p4 p5 p6 p7 p8 q0 q1 q2 q3 q4 q5 q6 q7 q8 c0 c1 c2 c3 c4 c5 c6 c7 c8
 else
 rec v14 v15 (IntKind.wrap .i64 (v16 + (1 : Int))) p0 p1 p2 p3 p4 p5 p6 p7 p8 q0 q1 q2 q3 q4 q5 q6 q7 q8 c0 c1 c2 c3 c4 c5 c6 c7 c8
 else
 bif v16 == (2 : Int) then
 bif decide (c8 > (0 : Int)) then
 kr false p0 p1 p2 p3 p4 p5 p6 p7 p8 q0 q1 q2 q3 q4 q5 q6 q7 q8 c0 c1 c2 c3 c4 c5 c6 c7 c8
 else
 rec v14 v15 (IntKind.wrap .i64 (v16 + (1 : Int))) p0 p1 p2 p3 p4 p5 p6 p7 p8 q0 q1 q2 q3 q4 q5 q6 q7 q8 c0 c1 c2 c3 c4 c5 c6 c7 c8
 else
 none
 else
 none
 else
 rec v14 v15 (IntKind.wrap .i64 (v16 + (1 : Int))) p0 p1 p2 p3 p4 p5 p6 p7 p8 q0 q1 q2 q3 q4 q5 q6 q7 q8 c0 c1 c2 c3 c4 c5 c6 c7 c8
 else
 bif v16 == (1 : Int) then
 bif decide (c4 ≤ (0 : Int)) then
 bif v14 == (0 : Int) then
 bif v16 == (0 : Int) then
 bif decide (c0 > (0 : Int)) then
 kr false p0 p1 p2 p3 p4 p5 p6 p7 p8 q0 q1 q2 q3 q4 q5 q6 q7 q8 c0 c1 c2 c3 c4 c5 c6 c7 c8
 else
 rec v14 v15 (IntKind.wrap .i64 (v16 + (1 : Int))) p0 p1 p2 p3 p4 p5 p6 p7 p8 q0 q1 q2 q3 q4 q5 q6 q7 q8 c0 c1 c2 c3 c4 c5 c6 c7 c8
 else
 bif v16 == (1 : Int) then
 bif decide (c1 > (0 : Int)) then
 kr false p0 p1 p2 p3 p4 p5 p6 p7 p8 q0 q1 q2 q3 q4 q5 q6 q7 q8 c0 c1 c2 c3 c4 c5 c6 c7 c8
 else
 rec v14 v15 (IntKind.wrap .i64 (v16 + (1 : Int))) p0 p1 p2 p3 p4 p5 p6 p7 p8 q0 q1 q2 q3 q4 q5 q6 q7 q8 c0 c1 c2 c3 c4 c5 c6 c7 c8
 else
 bif v16 == (2 : Int) then
 bif decide (c2 > (0 : Int)) then
 kr false p0 p1 p2 p3 p4 p5 p6 p7 p8 q0 q1 q2 q3 q4 q5 q6 q7 q8 c0 c1 c2 c3 c4 c5 c6 c7 c8
 else
 rec v14 v15 (IntKind.wrap .i64 (v16 + (1 : Int))) p0 p1 p2 p3 p4 p5 p6 p7 p8 q0 q1 q2 q3 q4 q5 q6 q7 q8 c0 c1 c2 c3 c4 c5 c6 c7 c8
 else
 none
 else
 bif v14 == (1 : Int) then
 bif v16 == (0 : Int) then
 bif decide (c3 > (0 : Int)) then
 kr false p0 p1 p2 p3 p4 p5 p6 p7 p8 q0 q1 q2 q3 q4 q5 q6 q7 q8 c0 c1 c2 c3 c4 c5 c6 c7 c8
 else
 rec v14 v15 (IntKind.wrap .i64 (v16 + (1 : Int))) p0 p1 p2 p3 p4 p5 p6 p7 p8 q0 q1 q2 q3 q4 q5 q6 q7 q8 c0 c1 c2 c3 c4 c5 c6 c7 c8
 else
 bif v16 == (1 : Int) then
 bif decide (c4 > (0 : Int)) then
 kr false p0 p1 p2 p3 p4 p5 p6 p7 p8 q0 q1 q2 q3 q4 q5 q6 q7 q8 c0 c1 c2 c3 c4 c5 c6 c7 c8
 else
 rec v14 v15 (IntKind.wrap .i64 (v16 + (1 : Int))) p0 p1 p2 p3 p4 p5 p6 p7 p8 q0 q1 q2 q3 q4 q5 q6 q7 q8 c0 c1 c2 c3 c4 c5 c6 c7 c8
 else
 bif v16 == (2 : Int) then
 bif decide (c5 > (0 : Int)) then
 kr false p0 p1 p2 p3 p4 p5 p6 p7 p8 q0 q1 q2 q3 q4 q5 q6 q7 q8 c0 c1 c2 c3 c4 c5 c6 c7 c8
 else
 rec v14 v15 (IntKind.wrap .i64 (v16 + (1 : Int))) p0 p1 p2 p3 p4 p5 p6 p7 p8 q0 q1 q2 q3 q4 q5 q6 q7 q8 c0 c1 c2 c3 c4 c5 c6 c7 c8
 else
 none
 else
 bif v14 == (2 : Int) then
 bif v16 == (0 : Int) then
 bif decide (c6 > (0 : Int)) then
 kr false p0 p1 p2 p3 p4 p5 p6 p7 p8 q0 q1 q2 q3 q4 q5 q6 q7 q8 c0 c1 c2 c3 c4 c5 c6 c7 c8
 else
 rec v14 v15 (IntKind.wrap .i64 (v16 + (1 : Int))) p0 p1 p2 p3 p4 p5 p6 p7 p8 q0 q1 q2 q3 q4 q5 q6 q7 q8 c0 c1 c2 c3 c4 c5 c6 c7 c8
 else
 bif v16 == (1 : Int) then
 bif decide (c7 > (0 : Int)) then
 kr false p0 p1 p2 p3 p4 p5 p6 p7 p8 q0 q1 q2 q3 q4 q5 q6 q7 q8 c0 c1 c2 c3 c4 c5 c6 c7 c8
 else
 rec v14 v15 (IntKind.wrap .i64 (v16 + (1 : Int))) p0 p1 p2 p3 p4 p5 p6 p7 p8 q0 q1 q2 q3 q4 q5 q6 q7 q8 c0 c1 c2 c3 c4 c5 c6 c7 c8
 else
 bif v16 == (2 : Int) then
 bif decide (c8 > (0 : Int)) then
 kr false p0 p1 p2 p3 p4 p5 p6 p7 p8 q0 q1 q2 q3 q4 q5 q6 q7 q8 c0 c1 c2 c3 c4 c5 c6 c7 c8
 else
 rec v14 v15 (IntKind.wrap .i64 (v16 + (1 : Int))) p0 p1 p2 p3 p4 p5 p6 p7 p8 q0 q1 q2 q3 q4 q5 q6 q7 q8 c0 c1 c2 c3 c4 c5 c6 c7 c8
 else
 none
 else
 none
 else
 rec v14 v15 (IntKind.wrap .i64 (v16 + (1 : Int))) p0 p1 p2 p3 p4 p5 p6 p7 p8 q0 q1 q2 q3 q4 q5 q6 q7 q8 c0 c1 c2 c3 c4 c5 c6 c7 c8
 else
 bif v16 == (2 : Int) then
 bif decide (c5 ≤ (0 : Int)) then
 bif v14 == (0 : Int) then
 bif v16 == (0 : Int) then
 bif decide (c0 > (0 : Int)) then
 kr false p0 p1 p2 p3 p4 p5 p6 p7 p8 q0 q1 q2 q3 q4 q5 q6 q7 q8 c0 c1 c2 c3 c4 c5 c6 c7 c8
 else
 rec v14 v15 (IntKind.wrap .i64 (v16 + (1 : Int))) p0 p1 p2 p3 p4 p5 p6 p7 p8 q0 q1 q2 q3 q4 q5 q6 q7 q8 c0 c1 c2 c3 c4 c5 c6 c7 c8
 else
 bif v16 == (1 : Int) then
 bif decide (c1 > (0 : Int)) then
 kr false p0 p1 p2 p3 p4 p5 p6 p7 p8 q0 q1 q2 q3 q4 q5 q6 q7 q8 c0 c1 c2 c3 c4 c5 c6 c7 c8
 else
 rec v14 v15 (IntKind.wrap .i64 (v16 + (1 : Int))) p0 p1 p2 p3 p4 p5 p6 p7 p8 q0 q1 q2 q3 q4 q5 q6 q7 q8 c0 c1 c2 c3 c4 c5 c6 c7 c8
 else
 bif v16 == (2 : Int) then
 bif decide (c2 > (0 : Int)) then
 kr false p0 p1 p2 p3 p4 p5 p6 p7 p8 q0 q1 q2 q3 q4 q5 q6 q7 q8 c0 c1 c2 c3 c4 c5 c6 c7 c8
 else
 rec v14 v15 (IntKind.wrap .i64 (v16 + (1 : Int))) p0 p1 p2 p3 p4 p5 p6 p7 p8 q0 q1 q2 q3 q4 q5 q6 q7 q8 c0 c1 c2 c3 c4 c5 c6 c7 c8
 else
 none
 else
 bif v14 == (1 : Int) then
 bif v16 == (0 : Int) then
 bif decide (c3 > (0 : Int)) then
 kr false p0 p1 p2 p3 p4 p5 p6 p7 p8 q0 q1 q2 q3 q4 q5 q6 q7 q8 c0 c1 c2 c3 c4 c5 c6 c7 c8
 else
 rec v14 v15 (IntKind.wrap .i64 (v16 + (1 : Int))) p0 p1 p2 p3 p4 p5 p6 p7 p8 q0 q1 q2 q3 q4 q5 q6 q7 q8 c0 c1 c2 c3 c4 c5 c6 c7 c8
 else
 bif v16 == (1 : Int) then
 bif decide (c4 > (0 : Int)) then
 kr false p0 p1 p2 p3 p4 p5 p6 p7 p8 q0 q1 q2 q3 q4 q5 q6 q7 q8 c0 c1 c2 c3 c4 c5 c6 c7 c8
 else
 rec v14 v15 (IntKind.wrap .i64 (v16 + (1 : Int))) p0 p1 p2 p3 p4 p5 p6 p7 p8 q0 q1 q2 q3 q4 q5 q6 q7 q8 c0 c1 c2 c3 c4 c5 c6 c7 c8
 else
 bif v16 == (2 : Int) then
 bif decide (c5 > (0 : Int)) then
 kr false p0 p1 p2 p3 p4 p5 p6 p7 p8 q0 q1 q2 q3 q4 q5 q6 q7 q8 c0 c1 c2 c3 c4 c5 c6 c7 c8
 else
 rec v14 v15 (IntKind.wrap .i64 (v16 + (1 : Int))) p0 p1 p2 p3 p4 p5 p6 p7 p8 q0 q1 q2 q3 q4 q5 q6 q7 q8 c0 c1 c2 c3 c4 c5 c6 c7 c8
 else
 none
 else
 bif v14 == (2 : Int) then
 bif v16 == (0 : Int) then
 bif decide (c6 > (0 : Int)) then
 kr false p0 p1 p2 p3 p4 p5 p6 p7 p8 q0 q1 q2 q3 q4 q5 q6 q7 q8 c0 c1 c2 c3 c4 c5 c6 c7 c8
 else
 rec v14 v15 (IntKind.wrap .i64 (v16 + (1 : Int))) p0 p1 p2 p3 p4 p5 p6 p7 p8 q0 q1 q2 q3 q4 q5 q6 q7 q8 c0 c1 c2 c3 c4 c5 c6 c7 c8
 else
 bif v16 == (1 : Int) then
 bif decide (c7 > (0 : Int)) then
 kr false p0 p1 p2 p3 p4 p5 p6 p7 p8 q0 q1 q2 q3 q4 q5 q6 q7 q8 c0 c1 c2 c3 c4 c5 c6 c7 c8
 else
 rec v14 v15 (IntKind.wrap .i64 (v16 + (1 : Int))) p0 p1 p2 p3 p4 p5 p6 p7 p8 q0 q1 q2 q3 q4 q5 q6 q7 q8 c0 c1 c2 c3 c4 c5 c6 c7 c8
 else
 bif v16 == (2 : Int) then
 bif decide (c8 > (0 : Int)) then
 kr false p0 p1 p2 p3 p4 p5 p6 p7 p8 q0 q1 q2 q3 q4 q5 q6 q7 q8 c0 c1 c2 c3 c4 c5 c6 c7 c8
 else
 rec v14 v15 (IntKind.wrap .i64 (v16 + (1 : Int))) p0 p1 p2 p3 p4 p5 p6 p7 p8 q0 q1 q2 q3 q4 q5 q6 q7 q8 c0 c1 c2 c3 c4 c5 c6 c7 c8
 else
 none
 else
 none
 else
 rec v14 v15 (IntKind.wrap .i64 (v16 + (1 : Int))) p0 p1 p2 p3 p4 p5 p6 p7 p8 q0 q1 q2 q3 q4 q5 q6 q7 q8 c0 c1 c2 c3 c4 c5 c6 c7 c8
 else
 none
 else
 bif v15 == (2 : Int) then
 bif v16 == (0 : Int) then
 bif decide (c6 ≤ (0 : Int)) then
 bif v14 == (0 : Int) then
 bif v16 == (0 : Int) then
 bif decide (c0 > (0 : Int)) then
 kr false p0 p1 p2 p3 p4 p5 p6 p7 p8 q0 q1 q2 q3 q4 q5 q6 q7 q8 c0 c1 c2 c3 c4 c5 c6 c7 c8
 else
 rec v14 v15 (IntKind.wrap .i64 (v16 + (1 : Int))) p0 p1 p2 p3 p4 p5 p6 p7 p8 q0 q1 q2 q3 q4 q5 q6 q7 q8 c0 c1 c2 c3 c4 c5 c6 c7 c8
 else
 bif v16 == (1 : Int) then
 bif decide (c1 > (0 : Int)) then
 kr false p0 p1 p2 p3 p4 p5 p6 p7 p8 q0 q1 q2 q3 q4 q5 q6 q7 q8 c0 c1 c2 c3 c4 c5 c6 c7 c8
 else
 rec v14 v15 (IntKind.wrap .i64 (v16 + (1 : Int))) p0 p1 p2 p3 p4 p5 p6 p7 p8 q0 q1 q2 q3 q4 q5 q6 q7 q8 c0 c1 c2 c3 c4 c5 c6 c7 c8
 else
 bif v16 == (2 : Int) then
 bif decide (c2 > (0 : Int)) then
 kr false p0 p1 p2 p3 p4 p5 p6 p7 p8 q0 q1 q2 q3 q4 q5 q6 q7 q8 c0 c1 c2 c3 c4 c5 c6 c7 c8
 else
 rec v14 v15 (IntKind.wrap .i64 (v16 + (1 : Int))) p0 p1 p2 p3 p4 p5 p6 p7 p8 q0 q1 q2 q3 q4 q5 q6 q7 q8 c0 c1 c2 c3 c4 c5 c6 c7 c8
 else
 none
 else
 bif v14 == (1 : Int) then
 bif v16 == (0 : Int) then
 bif decide (c3 > (0 : Int)) then
 kr false p0 p1 p2 p3 p4 p5 p6 p7 p8 q0 q1 q2 q3 q4 q5 q6 q7 q8 c0 c1 c2 c3 c4 c5 c6 c7 c8
 else
 rec v14 v15 (IntKind.wrap .i64 (v16 + (1 : Int))) p0 p1 p2 p3 p4 p5 p6 p7 p8 q0 q1 q2 q3 q4 q5 q6 q7 q8 c0 c1 c2 c3 c4 c5 c6 c7 c8
 else
 bif v16 == (1 : Int) then
 bif decide (c4 > (0 : Int)) then
 kr false p0 p1 p2 p3 p4 p5 p6 p7 p8 q0 q1 q2 q3 q4 q5 q6 q7 q8 c0 c1 c2 c3 c4 c5 c6 c7 c8
 else
 rec v14 v15 (IntKind.wrap .i64 (v16 + (1 : Int))) p0 p1 p2 p3 p4 p5 p6 p7 p8 q0 q1 q2 q3 q4 q5 q6 q7 q8 c0 c1 c2 c3 c4 c5 c6 c7 c8
 else
 bif v16 == (2 : Int) then
 bif decide (c5 > (0 : Int)) then
 kr false p0 p1 p2 p3 p4 p5 p6 p7 p8 q0 q1 q2 q3 q4 q5 q6 q7 q8 c0 c1 c2 c3 c4 c5 c6 c7 c8
 else
 rec v14 v15 (IntKind.wrap .i64 (v16 + (1 : Int))) p0 p1 p2 p3 p4 p5 p6 p7 p8 q0 q1 q2 q3 q4 q5 q6 q7 q8 c0 c1 c2 c3 c4 c5 c6 c7 c8
 else
 none
 else
 bif v14 == (2 : Int) then
 bif v16 == (0 : Int) then
 bif decide (c6 > (0 : Int)) then
 kr false p0 p1 p2 p3 p4 p5 p6 p7 p8 q0 q1 q2 q3 q4 q5 q6 q7 q8 c0 c1 c2 c3 c4 c5 c6 c7 c8
 else
 rec v14 v15 (IntKind.wrap .i64 (v16 + (1 : Int))) p0 p1 p2 p3 p4 p5 p6 p7 p8 q0 q1 q2 q3 q4 q5 q6 q7 q8 c0 c1 c2 c3 c4 c5 c6 c7 c8
 else
 bif v16 == (1 : Int) then
 bif decide (c7 > (0 : Int)) then
 kr false p0 p1 p2 p3 p4 p5 p6 p7 p8 q0 q1 q2 q3 q4 q5 q6 q7 q8 c0 c1 c2 c3 c4 c5 c6 c7 c8
 else
 rec v14 v15 (IntKind.wrap .i64 (v16 + (1 : Int))) p0 p1 p2 p3 p4 p5 p6 p7 p8 q0 q1 q2 q3 q4 q5 q6 q7 q8 c0 c1 c2 c3 c4 c5 c6 c7 c8
 else
 bif v16 == (2 : Int) then
 bif decide (c8 > (0 : Int)) then
 kr false p0 p1 p2 p3 p4 p5 p6 p7 p8 q0 q1 q2 q3 q4 q5 q6 q7 q8 c0 c1 c2 c3 c4 c5 c6 c7 c8
 else
 rec v14 v15 (IntKind.wrap .i64 (v16 + (1 : Int))) p0 p1 p2 p3 p4 p5 p6 p7 p8 q0 q1 q2 q3 q4 q5 q6 q7 q8 c0 c1 c2 c3 c4 c5 c6 c7 c8
 else
 none
 else
 none
 else
 rec v14 v15 (IntKind.wrap .i64 (v16 + (1 : Int))) p0 p1 p2 p3 p4 p5 p6 p7 p8 q0 q1 q2 q3 q4 q5 q6 q7 q8 c0 c1 c2 c3 c4 c5 c6 c7 c8
 else
 bif v16 == (1 : Int) then
 bif decide (c7 ≤ (0 : Int)) then
 bif v14 == (0 : Int) then
 bif v16 == (0 : Int) then
 bif decide (c0 > (0 : Int)) then
 kr false p0 p1 p2 p3 p4 p5 p6 p7 p8 q0 q1 q2 q3 q4 q5 q6 q7 q8 c0 c1 c2 c3 c4 c5 c6 c7 c8
 else
 rec v14 v15 (IntKind.wrap .i64 (v16 + (1 : Int))) p0 p1 p2 p3 p4 p5 p6 p7 p8 q0 q1 q2 q3 q4 q5 q6 q7 q8 c0 c1 c2 c3 c4 c5 c6 c7 c8
 else
 bif v16 == (1 : Int) then
 bif decide (c1 > (0 : Int)) then
 kr false p0 p1 p2 p3 p4 p5 p6 p7 p8 q0 q1 q2 q3 q4 q5 q6 q7 q8 c0 c1 c2 c3 c4 c5 c6 c7 c8
 else
 rec v14 v15 (IntKind.wrap .i64 (v16 + (1 : Int))) p0 p1 p2 p3 p4 p5 p6 p7 p8 q0 q1 q2 q3 q4 q5 q6 q7 q8 c0 c1 c2 c3 c4 c5 c6 c7 c8
 else
 bif v16 == (2 : Int) then
 bif decide (c2 > (0 : Int)) then
 kr false p0 p1 p2 p3 p4 p5 p6 p7 p8 q0 q1 q2 q3 q4 q5 q6 q7 q8 c0 c1 c2 c3 c4 c5 c6 c7 c8
 else
 rec v14 v15 (IntKind.wrap .i64 (v16 + (1 : Int))) p0 p1 p2 p3 p4 p5 p6 p7 p8 q0 q1 q2 q3 q4 q5 q6 q7 q8 c0 c1 c2 c3 c4 c5 c6 c7 c8
 else
 none
 else
 bif v14 == (1 : Int) then
 bif v16 == (0 : Int) then
 bif decide (c3 > (0 : Int)) then
 kr false p0 p1 p2 p3 p4 p5 p6 p7 p8 q0 q1 q2 q3 q4 q5 q6 q7 q8 c0 c1 c2 c3 c4 c5 c6 c7 c8
 else
 rec v14 v15 (IntKind.wrap .i64 (v16 + (1 : Int))) p0 p1 p2 p3 p4 p5 p6 p7 p8 q0 q1 q2 q3 q4 q5 q6 q7 q8 c0 c1 c2 c3 c4 c5 c6 c7 c8
 else
 bif v16 == (1 : Int) then
 bif decide (c4 > (0 : Int)) then
 kr false p0 p1 p2 p3 p4 p5 p6 p7 p8 q0 q1 q2 q3 q4 q5 q6 q7 q8 c0 c1 c2 c3 c4 c5 c6 c7 c8
 else
 rec v14 v15 (IntKind.wrap .i64 (v16 + (1 : Int))) p0 p1 p2 p3 p4 p5 p6 p7 p8 q0 q1 q2 q3 q4 q5 q6 q7 q8 c0 c1 c2 c3 c4 c5 c6 c7 c8
 else
 bif v16 == (2 : Int) then
 bif decide (c5 > (0 : Int)) then
 kr false p0 p1 p2 p3 p4 p5 p6 p7 p8 q0 q1 q2 q3 q4 q5 q6 q7 q8 c0 c1 c2 c3 c4 c5 c6 c7 c8
 else
 rec v14 v15 (IntKind.wrap .i64 (v16 + (1 : Int))) p0 p1 p2 p3 p4 p5 p6 p7 p8 q0 q1 q2 q3 q4 q5 q6 q7 q8 c0 c1 c2 c3 c4 c5 c6 c7 c8
 else
 none
 else
 bif v14 == (2 : Int) then
 bif v16 == (0 : Int) then
 bif decide (c6 > (0 : Int)) then
 kr false p0 p1 p2 p3 p4 p5 p6 p7 p8 q0 q1 q2 q3 q4 q5 q6 q7 q8 c0 c1 c2 c3 c4 c5 c6 c7 c8
 else
 rec v14 v15 (IntKind.wrap .i64 (v16 + (1 : Int))) p0 p1 p2 p3 p4 p5 p6 p7 p8 q0 q1 q2 q3 q4 q5 q6 q7 q8 c0 c1 c2 c3 c4 c5 c6 c7 c8
 else
 bif v16 == (1 : Int) then
 bif decide (c7 > (0 : Int)) then
 kr false p0 p1 p2 p3 p4 p5 p6 p7 p8 q0 q1 q2 q3 q4 q5 q6 q7 q8 c0 c1 c2 c3 c4 c5 c6 c7 c8
 else
 rec v14 v15 (IntKind.wrap .i64 (v16 + (1 : Int))) p0 p1 p2 p3 p4 p5 p6 p7 p8 q0 q1 q2 q3 q4 q5 q6 q7 q8 c0 c1 c2 c3 c4 c5 c6 c7 c8
 else
 bif v16 == (2 : Int) then
 bif decide (c8 > (0 : Int)) then
 kr false p0 p1 p2 p3 p4 p5 p6 p7 p8 q0 q1 q2 q3 q4 q5 q6 q7 q8 c0 c1 c2 c3 c4 c5 c6 c7 c8
 else
 rec v14 v15 (IntKind.wrap .i64 (v16 + (1 : Int))) p0 p1 p2 p3 p4 p5 p6 p7 p8 q0 q1 q2 q3 q4 q5 q6 q7 q8 c0 c1 c2 c3 c4 c5 c6 c7 c8
 else
 none
 else
 none
 else
 rec v14 v15 (IntKind.wrap .i64 (v16 + (1 : Int))) p0 p1 p2 p3 p4 p5 p6 p7 p8 q0 q1 q2 q3 q4 q5 q6 q7 q8 c0 c1 c2 c3 c4 c5 c6 c7 c8
 else
 bif v16 == (2 : Int) then
 bif decide (c8 ≤ (0 : Int)) then
 bif v14 == (0 : Int) then
 bif v16 == (0 : Int) then
 bif decide (c0 > (0 : Int)) then
 kr false p0 p1 p2 p3 p4 p5 p6 p7 p8 q0 q1 q2 q3 q4 q5 q6 q7 q8 c0 c1 c2 c3 c4 c5 c6 c7 c8
 else
 rec v14 v15 (IntKind.wrap .i64 (v16 + (1 : Int))) p0 p1 p2 p3 p4 p5 p6 p7 p8 q0 q1 q2 q3 q4 q5 q6 q7 q8 c0 c1 c2 c3 c4 c5 c6 c7 c8
 else
 bif v16 == (1 : Int) then
 bif decide (c1 > (0 : Int)) then
 kr false p0 p1 p2 p3 p4 p5 p6 p7 p8 q0 q1 q2 q3 q4 q5 q6 q7 q8 c0 c1 c2 c3 c4 c5 c6 c7 c8
 else
 rec v14 v15 (IntKind.wrap .i64 (v16 + (1 : Int))) p0 p1 p2 p3 p4 p5 p6 p7 p8 q0 q1 q2 q3 q4 q5 q6 q7 q8 c0 c1 c2 c3 c4 c5 c6 c7 c8
 else
 bif v16 == (2 : Int) then
 bif decide (c2 > (0 : Int)) then
 kr false p0 p1 p2 p3 p4 p5 p6 p7 p8 q0 q1 q2 q3 q4 q5 q6 q7 q8 c0 c1 c2 c3 c4 c5 c6 c7 c8
 else
 rec v14 v15 (IntKind.wrap .i64 (v16 + (1 : Int))) p0 p1 p2 p3 p4 p5 p6 p7 p8 q0 q1 q2 q3 q4 q5 q6 q7 q8 c0 c1 c2 c3 c4 c5 c6 c7 c8
 else
 none
 else
 bif v14 == (1 : Int) then
 bif v16 == (0 : Int) then
 bif decide (c3 > (0 : Int)) then
 kr false p0 p1 p2 p3 p4 p5 p6 p7 p8 q0 q1 q2 q3 q4 q5 q6 q7 q8 c0 c1 c2 c3 c4 c5 c6 c7 c8
 else
 rec v14 v15 (IntKind.wrap .i64 (v16 + (1 : Int))) p0 p1 p2 p3 p4 p5 p6 p7 p8 q0 q1 q2 q3 q4 q5 q6 q7 q8 c0 c1 c2 c3 c4 c5 c6 c7 c8
 else
 bif v16 == (1 : Int) then
 bif decide (c4 > (0 : Int)) then
 kr false p0 p1 p2 p3 p4 p5 p6 p7 p8 q0 q1 q2 q3 q4 q5 q6 q7 q8 c0 c1 c2 c3 c4 c5 c6 c7 c8
 else
 rec v14 v15 (IntKind.wrap .i64 (v16 + (1 : Int))) p0 p1 p2 p3 p4 p5 p6 p7 p8 q0 q1 q2 q3 q4 q5 q6 q7 q8 c0 c1 c2 c3 c4 c5 c6 c7 c8
 else
 bif v16 == (2 : Int) then
 bif decide (c5 > (0 : Int)) then
 kr false p0 p1 p2 p3 p4 p5 p6 p7 p8 q0 q1 q2 q3 q4 q5 q6 q7 q8 c0 c1 c2 c3 c4 c5 c6 c7 c8
 else
 rec v14 v15 (IntKind.wrap .i64 (v16 + (1 : Int))) p0 p1 p2 p3 p4 p5 p6 p7 p8 q0 q1 q2 q3 q4 q5 q6 q7 q8 c0 c1 c2 c3 c4 c5 c6 c7 c8
 else
 none
 else
 bif v14 == (2 : Int) then
 bif v16 == (0 : Int) then
 bif decide (c6 > (0 : Int)) then
 kr false p0 p1 p2 p3 p4 p5 p6 p7 p8 q0 q1 q2 q3 q4 q5 q6 q7 q8 c0 c1 c2 c3 c4 c5 c6 c7 c8
 else
 rec v14 v15 (IntKind.wrap .i64 (v16 + (1 : Int))) p0 p1 p2 p3 p4 p5 p6 p7 p8 q0 q1 q2 q3 q4 q5 q6 q7 q8 c0 c1 c2 c3 c4 c5 c6 c7 c8
 else
 bif v16 == (1 : Int) then
 bif decide (c7 > (0 : Int)) then
 kr false p0 p1 p2 p3 p4 p5 p6 p7 p8 q0 q1 q2 q3 q4 q5 q6 q7 q8 c0 c1 c2 c3 c4 c5 c6 c7 c8
 else
 rec v14 v15 (IntKind.wrap .i64 (v16 + (1 : Int))) p0 p1 p2 p3 p4 p5 p6 p7 p8 q0 q1 q2 q3 q4 q5 q6 q7 q8 c0 c1 c2 c3 c4 c5 c6 c7 c8
 else
 bif v16 == (2 : Int) then
 bif decide (c8 > (0 : Int)) then
 kr false p0 p1 p2 p3 p4 p5 p6 p7 p8 q0 q1 q2 q3 q4 q5 q6 q7 q8 c0 c1 c2 c3 c4 c5 c6 c7 c8
 else
 rec v14 v15 (IntKind.wrap .i64 (v16 + (1 : Int))) p0 p1 p2 p3 p4 p5 p6 p7 p8 q0 q1 q2 q3 q4 q5 q6 q7 q8 c0 c1 c2 c3 c4 c5 c6 c7 c8
 else
 none
 else
 none
 else
 rec v14 v15 (IntKind.wrap .i64 (v16 + (1 : Int))) p0 p1 p2 p3 p4 p5 p6 p7 p8 q0 q1 q2 q3 q4 q5 q6 q7 q8 c0 c1 c2 c3 c4 c5 c6 c7 c8
 else
 none
 else
 none
 else
 rec v14 v15 (IntKind.wrap .i64 (v16 + (1 : Int))) p0 p1 p2 p3 p4 p5 p6 p7 p8 q0 q1 q2 q3 q4 q5 q6 q7 q8 c0 c1 c2 c3 c4 c5 c6 c7 c8
 else
 bif v15 == (1 : Int) then
 bif decide (c7 ≤ (0 : Int)) then
 bif v15 == (0 : Int) then
 bif v16 == (0 : Int) then
 bif decide (c0 ≤ (0 : Int)) then
 bif v14 == (0 : Int) then
 bif v16 == (0 : Int) then
 bif decide (c0 > (0 : Int)) then
 kr false p0 p1 p2 p3 p4 p5 p6 p7 p8 q0 q1 q2 q3 q4 q5 q6 q7 q8 c0 c1 c2 c3 c4 c5 c6 c7 c8
 else
 rec v14 v15 (IntKind.wrap .i64 (v16 + (1 : Int))) p0 p1 p2 p3 p4 p5 p6 p7 p8 q0 q1 q2 q3 q4 q5 q6 q7 q8 c0 c1 c2 c3 c4 c5 c6 c7 c8
 else
 bif v16 == (1 : Int) then
 bif decide (c1 > (0 : Int)) then
 kr false p0 p1 p2 p3 p4 p5 p6 p7 p8 q0 q1 q2 q3 q4 q5 q6 q7 q8 c0 c1 c2 c3 c4 c5 c6 c7 c8
 else
 rec v14 v15 (IntKind.wrap .i64 (v16 + (1 : Int))) p0 p1 p2 p3 p4 p5 p6 p7 p8 q0 q1 q2 q3 q4 q5 q6 q7 q8 c0 c1 c2 c3 c4 c5 c6 c7 c8
 else
 bif v16 == (2 : Int) then
 bif decide (c2 > (0 : Int)) then
 kr false p0 p1 p2 p3 p4 p5 p6 p7 p8 q0 q1 q2 q3 q4 q5 q6 q7 q8 c0 c1 c2 c3 c4 c5 c6 c7 c8
 else
 rec v14 v15 (IntKind.wrap .i64 (v16 + (1 : Int))) p0 p1 p2 p3 p4 p5 p6 p7 p8 q0 q1 q2 q3 q4 q5 q6 q7 q8 c0 c1 c2 c3 c4 c5 c6 c7 c8
 else
 none
 else
 bif v14 == (1 : Int) then
 bif v16 == (0 : Int) then
 bif decide (c3 > (0 : Int)) then
 kr false p0 p1 p2 p3 p4 p5 p6 p7 p8 q0 q1 q2 q3 q4 q5 q6 q7 q8 c0 c1 c2 c3 c4 c5 c6 c7 c8
 else
 rec v14 v15 (IntKind.wrap .i64 (v16 + (1 : Int))) p0 p1 p2 p3 p4 p5 p6 p7 p8 q0 q1 q2 q3 q4 q5 q6 q7 q8 c0 c1 c2 c3 c4 c5 c6 c7 c8
 else
 bif v16 == (1 : Int) then
 bif decide (c4 > (0 : Int)) then
 kr false p0 p1 p2 p3 p4 p5 p6 p7 p8 q0 q1 q2 q3 q4 q5 q6 q7 q8 c0 c1 c2 c3 c4 c5 c6 c7 c8
 else
 rec v14 v15 (IntKind.wrap .i64 (v16 + (1 : Int))) p0 p1 p2 p3 p4 p5 p6 p7 p8 q0 q1 q2 q3 q4 q5 q6 q7 q8 c0 c1 c2 c3 c4 c5 c6 c7 c8
 else
 bif v16 == (2 : Int) then
 bif decide (c5 > (0 : Int)) then
 kr false p0 p1 p2 p3 p4 p5 p6 p7 p8 q0 q1 q2 q3 q4 q5 q6 q7 q8 c0 c1 c2 c3 c4 c5 c6 c7 c8
 else
 rec v14 v15 (IntKind.wrap .i64 (v16 + (1 : Int))) p0 p1 p2 p3 p4 p5 p6 p7 p8 q0 q1 q2 q3 q4 q5 q6 q7 q8 c0 c1 c2 c3 c4 c5 c6 c7 c8
 else
 none
 else
 bif v14 == (2 : Int) then
 bif v16 == (0 : Int) then
 bif decide (c6 > (0 : Int)) then
 kr false p0 p1 p2 p3 p4 p5 p6 p7 p8 q0 q1 q2 q3 q4 q5 q6 q7 q8 c0 c1 c2 c3 c4 c5 c6 c7 c8
 else
 rec v14 v15 (IntKind.wrap .i64 (v16 + (1 : Int))) p0 p1 p2 p3 p4 p5 p6 p7 p8 q0 q1 q2 q3 q4 q5 q6 q7 q8 c0 c1 c2 c3 c4 c5 c6 c7 c8
 else
 bif v16 == (1 : Int) then
 bif decide (c7 > (0 : Int)) then
 kr false p0 p1 p2 p3 p4 p5 p6 p7 p8 q0 q1 q2 q3 q4 q5 q6 q7 q8 c0 c1 c2 c3 c4 c5 c6 c7 c8
 else
 rec v14 v15 (IntKind.wrap .i64 (v16 + (1 : Int))) p0 p1 p2 p3 p4 p5 p6 p7 p8 q0 q1 q2 q3 q4 q5 q6 q7 q8 c0 c1 c2 c3 c4 c5 c6 c7 c8
 else
 bif v16 == (2 : Int) then
 bif decide (c8 > (0 : Int)) then
 kr false p0 p1 p2 p3 p4 p5 p6 p7 p8 q0 q1 q2 q3 q4 q5 q6 q7 q8 c0 c1 c2 c3 c4 c5 c6 c7 c8
 else
 rec v14 v15 (IntKind.wrap .i64 (v16 + (1 : Int))) p0 p1 p2 p3 p4 p5 p6 p7 p8 q0 q1 q2 q3 q4 q5 q6 q7 q8 c0 c1 c2 c3 c4 c5 c6 c7 c8
 else
 none
 else
 none
 else
 rec v14 v15 (IntKind.wrap .i64 (v16 + (1 : Int))) p0 p1 p2 p3 p4 p5 p6 p7 p8 q0 q1 q2 q3 q4 q5 q6 q7 q8 c0 c1 c2 c3 c4 c5 c6 c7 c8
 else
 bif v16 == (1 : Int) then
 bif decide (c1 ≤ (0 : Int)) then
 bif v14 == (0 : Int) then
 bif v16 == (0 : Int) then
 bif decide (c0 > (0 : Int)) then
 kr false p0 p1 p2 p3 p4 p5 p6 p7 p8 q0 q1 q2 q3 q4 q5 q6 q7 q8 c0 c1 c2 c3 c4 c5 c6 c7 c8
 else
 rec v14 v15 (IntKind.wrap .i64 (v16 + (1 : Int))) p0 p1 p2 p3 p4 p5 p6 p7 p8 q0 q1 q2 q3 q4 q5 q6 q7 q8 c0 c1 c2 c3 c4 c5 c6 c7 c8
 else
 bif v16 == (1 : Int) then
 bif decide (c1 > (0 : Int)) then
 kr false p0 p1 p2 p3 p4 p5 p6 p7 p8 q0 q1 q2 q3 q4 q5 q6 q7 q8 c0 c1 c2 c3 c4 c5 c6 c7 c8
 else
 rec v14 v15 (IntKind.wrap .i64 (v16 + (1 : Int))) p0 p1 p2 p3 p4 p5 p6 p7 p8 q0 q1 q2 q3 q4 q5 q6 q7 q8 c0 c1 c2 c3 c4 c5 c6 c7 c8
 else
 bif v16 == (2 : Int) then
 bif decide (c2 > (0 : Int)) then
 kr false p0 p1 p2 p3 p4 p5 p6 p7 p8 q0 q1 q2 q3 q4 q5 q6 q7 q8 c0 c1 c2 c3 c4 c5 c6 c7 c8
 else
 rec v14 v15 (IntKind.wrap .i64 (v16 + (1 : Int))) p0 p1 p2 p3 p4 p5 p6 p7 p8 q0 q1 q2 q3 q4 q5 q6 q7 q8 c0 c1 c2 c3 c4 c5 c6 c7 c8
 else
 none
 else
 bif v14 == (1 : Int) then
 bif v16 == (0 : Int) then
 bif decide (c3 > (0 : Int)) then
 kr false p0 p1 p2 p3 p4 p5 p6 p7 p8 q0 q1 q2 q3 q4 q5 q6 q7 q8 c0 c1 c2 c3 c4 c5 c6 c7 c8
 else
 rec v14 v15 (IntKind.wrap .i64 (v16 + (1 : Int))) p0 p1 p2 p3 p4 p5 p6 p7 p8 q0 q1 q2 q3 q4 q5 q6 q7 q8 c0 c1 c2 c3 c4 c5 c6 c7 c8
 else
 bif v16 == (1 : Int) then
 bif decide (c4 > (0 : Int)) then
 kr false p0 p1 p2 p3 p4 p5 p6 p7 p8 q0 q1 q2 q3 q4 q5 q6 q7 q8 c0 c1 c2 c3 c4 c5 c6 c7 c8
 else
 rec v14 v15 (IntKind.wrap .i64 (v16 + (1 : Int))) p0 p1 p2 p3 p4 p5 p6 p7 p8 q0 q1 q2 q3 q4 q5 q6 q7 q8 c0 c1 c2 c3 c4 c5 c6 c7 c8
 else
 bif v16 == (2 : Int) then
 bif decide (c5 > (0 : Int)) then
 kr false p0 p1 p2 p3 p4 p5 p6 p7 p8 q0 q1 q2 q3 q4 q5 q6 q7 q8 c0 c1 c2 c3 c4 c5 c6 c7 c8
 else
 rec v14 v15 (IntKind.wrap .i64 (v16 + (1 : Int))) p0 p1 p2 p3 p4 p5 p6 p7 p8 q0 q1 q2 q3 q4 q5 q6 q7 q8 c0 c1 c2 c3 c4 c5 c6 c7 c8
 else
 none
 else
 bif v14 == (2 : Int) then
 bif v16 == (0 : Int) then
 bif decide (c6 > (0 : Int)) then
 kr false p0 p1 p2 p3 p4 p5 p6 p7 p8 q0 q1 q2 q3 q4 q5 q6 q7 q8 c0 c1 c2 c3 c4 c5 c6 c7 c8
 else
 rec v14 v15 (IntKind.wrap .i64 (v16 + (1 : Int))) p0 p1 p2 p3 p4 p5 p6 p7 p8 q0 q1 q2 q3 q4 q5 q6 q7 q8 c0 c1 c2 c3 c4 c5 c6 c7 c8
 else
 bif v16 == (1 : Int) then
 bif decide (c7 > (0 : Int)) then
 kr false p0 p1 p2 p3 p4 p5 p6 p7 p8 q0 q1 q2 q3 q4 q5 q6 q7 q8 c0 c1 c2 c3 c4 c5 c6 c7 c8
 else
 rec v14 v15 (IntKind.wrap .i64 (v16 + (1 : Int))) p0 p1 p2 p3 p4 p5 p6 p7 p8 q0 q1 q2 q3 q4 q5 q6 q7 q8 c0 c1 c2 c3 c4 c5 c6 c7 c8
 else
 bif v16 == (2 : Int) then
 bif decide (c8 > (0 : Int)) then
 kr false p0 p1 p2 p3 p4 p5 p6 p7 p8 q0 q1 q2 q3 q4 q5 q6 q7 q8 c0 c1 c2 c3 c4 c5 c6 c7 c8
 else
 rec v14 v15 (IntKind.wrap .i64 (v16 + (1 : Int))) p0 p1 p2 p3 p4 p5 p6 p7 p8 q0 q1 q2 q3 q4 q5 q6 q7 q8 c0 c1 c2 c3 c4 c5 c6 c7 c8
 else
 none
 else
 none
 else
 rec v14 v15 (IntKind.wrap .i64 (v16 + (1 : Int))) p0 p1 p2 p3 p4 p5 p6 p7 p8 q0 q1 q2 q3 q4 q5 q6 q7 q8 c0 c1 c2 c3 c4 c5 c6 c7 c8
 else
 bif v16 == (2 : Int) then
 bif decide (c2 ≤ (0 : Int)) then
 bif v14 == (0 : Int) then
 bif v16 == (0 : Int) then
 bif decide (c0 > (0 : Int)) then
 kr false p0 p1 p2 p3 p4 p5 p6 p7 p8 q0 q1 q2 q3 q4 q5 q6 q7 q8 c0 c1 c2 c3 c4 c5 c6 c7 c8
 else
 rec v14 v15 (IntKind.wrap .i64 (v16 + (1 : Int))) p0 p1 p2 p3 p4 p5 p6 p7 p8 q0 q1 q2 q3 q4 q5 q6 q7 q8 c0 c1 c2 c3 c4 c5 c6 c7 c8
 else
 bif v16 == (1 : Int) then
 bif decide (c1 > (0 : Int)) then
 kr false p0 p1 p2 p3 p4 p5 p6 p7 p8 q0 q1 q2 q3 q4 q5 q6 q7 q8 c0 c1 c2 c3 c4 c5 c6 c7 c8
 else
 rec v14 v15 (IntKind.wrap .i64 (v16 + (1 : Int))) p0 p1 p2 p3 p4 p5 p6 p7 p8 q0 q1 q2 q3 q4 q5 q6 q7 q8 c0 c1 c2 c3 c4 c5 c6 c7 c8
 else
 bif v16 == (2 : Int) then
 bif decide (c2 > (0 : Int)) then
 kr false p0 p1 p2 p3 p4 p5 p6 p7 p8 q0 q1 q2 q3 q4 q5 q6 q7 q8 c0 c1 c2 c3 c4 c5 c6 c7 c8
 else
 rec v14 v15 (IntKind.wrap .i64 (v16 + (1 : Int))) p0 p1 p2 p3 p4 p5 p6 p7 p8 q0 q1 q2 q3 q4 q5 q6 q7 q8 c0 c1 c2 c3 c4 c5 c6 c7 c8
 else
 none
 else
 bif v14 == (1 : Int) then
 bif v16 == (0 : Int) then
 bif decide (c3 > (0 : Int)) then
 kr false p0 p1 p2 p3 p4 p5 p6 p7 p8 q0 q1 q2 q3 q4 q5 q6 q7 q8 c0 c1 c2 c3 c4 c5 c6 c7 c8
 else
 rec v14 v15 (IntKind.wrap .i64 (v16 + (1 : Int))) p0 p1 p2 p3 p4 p5 p6 p7 p8 q0 q1 q2 q3 q4 q5 q6 q7 q8 c0 c1 c2 c3 c4 c5 c6 c7 c8
 else
 bif v16 == (1 : Int) then
 bif decide (c4 > (0 : Int)) then
 kr false p0 p1 p2 p3 p4 p5 p6 p7 p8 q0 q1 q2 q3 q4 q5 q6 q7 q8 c0 c1 c2 c3 c4 c5 c6 c7 c8
 else
 rec v14 v15 (IntKind.wrap .i64 (v16 + (1 : Int))) p0 p1 p2 p3 p4 p5 p6 p7 p8 q0 q1 q2 q3 q4 q5 q6 q7 q8 c0 c1 c2 c3 c4 c5 c6 c7 c8
 else
 bif v16 == (2 : Int) then
 bif decide (c5 > (0 : Int)) then
 kr false p0 p1 p2 p3 p4 p5 p6 p7 p8 q0 q1 q2 q3 q4 q5 q6 q7 q8 c0 c1 c2 c3 c4 c5 c6 c7 c8
 else
 rec v14 v15 (IntKind.wrap .i64 (v16 + (1 : Int))) p0 p1 p2 p3 p4 p5 p6 p7 p8 q0 q1 q2 q3 q4 q5 q6 q7 q8 c0 c1 c2 c3 c4 c5 c6 c7 c8
 else
 none
 else
 bif v14 == (2 : Int) then
 bif v16 == (0 : Int) then
 bif decide (c6 > (0 : Int)) then
 kr false p0 p1 p2 p3 p4 p5 p6 p7 p8 q0 q1 q2 q3 q4 q5 q6 q7 q8 c0 c1 c2 c3 c4 c5 c6 c7 c8
 else
 rec v14 v15 (IntKind.wrap .i64 (v16 + (1 : Int))) p0 p1 p2 p3 p4 p5 p6 p7 p8 q0 q1 q2 q3 q4 q5 q6 q7 q8 c0 c1 c2 c3 c4 c5 c6 c7 c8
 else
 bif v16 == (1 : Int) then
 bif decide (c7 > (0 : Int)) then
 kr false p0 p1 p2 p3 p4 p5 p6 p7 p8 q0 q1 q2 q3 q4 q5 q6 q7 q8 c0 c1 c2 c3 c4 c5 c6 c7 c8
 else
 rec v14 v15 (IntKind.wrap .i64 (v16 + (1 : Int))) p0 p1 p2 p3 p4 p5 p6 p7 p8 q0 q1 q2 q3 q4 q5 q6 q7 q8 c0 c1 c2 c3 c4 c5 c6 c7 c8
 else
 bif v16 == (2 : Int) then
 bif decide (c8 > (0 : Int)) then
 kr false p0 p1 p2 p3 p4 p5 p6 p7 p8 q0 q1 q2 q3 q4 q5 q6 q7 q8 c0 c1 c2 c3 c4 c5 c6 c7 c8
 else
 rec v14 v15 (IntKind.wrap .i64 (v16 + (1 : Int))) p0 p1 p2 p3 p4 p5 p6 p7 p8 q0 q1 q2 q3 q4 q5 q6 q7 q8 c0 c1 c2 c3 c4 c5 c6 c7 c8
 else
 none
 else
 none
 else
 rec v14 v15 (IntKind.wrap .i64 (v16 + (1 : Int))) p0 p1 p2 p3 p4 p5 p6 p7 p8 q0 q1 q2 q3 q4 q5 q6 q7 q8 c0 c1 c2 c3 c4 c5 c6 c7 c8
 else
 none
 else
 bif v15 == (1 : Int) then
 bif v16 == (0 : Int) then
 bif decide (c3 ≤ (0 : Int)) then
 bif v14 == (0 : Int) then
 bif v16 == (0 : Int) then
 bif decide (c0 > (0 : Int)) then
 kr false p0 p1 p2 p3 p4 p5 p6 p7 p8 q0 q1 q2 q3 q4 q5 q6 q7 q8 c0 c1 c2 c3 c4 c5 c6 c7 c8
 else
 rec v14 v15 (IntKind.wrap .i64 (v16 + (1 : Int))) p0 p1 p2 p3 p4 p5 p6 p7 p8 q0 q1 q2 q3 q4 q5 q6 q7 q8 c0 c1 c2 c3 c4 c5 c6 c7 c8
 else
 bif v16 == (1 : Int) then
 bif decide (c1 > (0 : Int)) then
 kr false p0 p1 p2 p3 p4 p5 p6 p7 p8 q0 q1 q2 q3 q4 q5 q6 q7 q8 c0 c1 c2 c3 c4 c5 c6 c7 c8
 else
 rec v14 v15 (IntKind.wrap .i64 (v16 + (1 : Int))) p0 p1 p2 p3 p4 p5 p6 p7 p8 q0 q1 q2 q3 q4 q5 q6 q7 q8 c0 c1 c2 c3 c4 c5 c6 c7 c8
 else
 bif v16 == (2 : Int) then
 bif decide (c2 > (0 : Int)) then
 kr false p0 p1 p2 p3 p4 p5 p6 p7 p8 q0 q1 q2 q3 q4 q5 q6 q7 q8 c0 c1 c2 c3 c4 c5 c6 c7 c8
 else
 rec v14 v15 (IntKind.wrap .i64 (v16 + (1 : Int))) p0 p1 p2 p3 p4 p5 p6 p7 p8 q0 q1 q2 q3 q4 q5 q6 q7 q8 c0 c1 c2 c3 c4 c5 c6 c7 c8
 else
 none
 else
 bif v14 == (1 : Int) then
 bif v16 == (0 : Int) then
 bif decide (c3 > (0 : Int)) then
 kr false p0 p1 p2 p3 p4 p5 p6 p7 p8 q0 q1 q2 q3 q4 q5 q6 q7 q8 c0 c1 c2 c3 c4 c5 c6 c7 c8
 else
 rec v14 v15 (IntKind.wrap .i64 (v16 + (1 : Int))) p0 p1 p2 p3 p4 p5 p6 p7 p8 q0 q1 q2 q3 q4 q5 q6 q7 q8 c0 c1 c2 c3 c4 c5 c6 c7 c8
 else
 bif v16 == (1 : Int) then
 bif decide (c4 > (0 : Int)) then
 kr false p0 p1 p2 p3 p4 p5 p6 p7 p8 q0 q1 q2 q3 q4 q5 q6 q7 q8 c0 c1 c2 c3 c4 c5 c6 c7 c8
 else
 rec v14 v15 (IntKind.wrap .i64 (v16 + (1 : Int))) p0 p1 p2 p3 p4 p5 p6 p7 p8 q0 q1 q2 q3 q4 q5 q6 q7 q8 c0 c1 c2 c3 c4 c5 c6 c7 c8
 else
 bif v16 == (2 : Int) then
 bif decide (c5 > (0 : Int)) then
 kr false p0 p1 p2 p3 p4 p5 p6 p7 p8 q0 q1 q2 q3 q4 q5 q6 q7 q8 c0 c1 c2 c3 c4 c5 c6 c7 c8
 else
 rec v14 v15 (IntKind.wrap .i64 (v16 + (1 : Int))) p0 p1 p2 p3 p4 p5 p6 p7 p8 q0 q1 q2 q3 q4 q5 q6 q7 q8 c0 c1 c2 c3 c4 c5 c6 c7 c8
 else
 none
 else
 bif v14 == (2 : Int) then
 bif v16 == (0 : Int) then
 bif decide (c6 > (0 : Int)) then
 kr false p0 p1 p2 p3 p4 p5 p6 p7 p8 q0 q1 q2 q3 q4 q5 q6 q7 q8 c0 c1 c2 c3 c4 c5 c6 c7 c8
 else
 rec v14 v15 (IntKind.wrap .i64 (v16 + (1 : Int))) p0 p1 p2 p3 p4 p5 p6 p7 p8 q0 q1 q2 q3 q4 q5 q6 q7 q8 c0 c1 c2 c3 c4 c5 c6 c7 c8
 else
 bif v16 == (1 : Int) then
 bif decide (c7 > (0 : Int)) then
 kr false p0 p1 p2 p3 p4 p5 p6 p7 p8 q0 q1 q2 q3 q4 q5 q6 q7 q8 c0 c1 c2 c3 c4 c5 c6 c7 c8
 else
 rec v14 v15 (IntKind.wrap .i64 (v16 + (1 : Int))) p0 p1 p2 p3 p4 p5 p6 p7 p8 q0 q1 q2 q3 q4 q5 q6 q7 q8 c0 c1 c2 c3 c4 c5 c6 c7 c8
 else
 bif v16 == (2 : Int) then
 bif decide (c8 > (0 : Int)) then
 kr false p0 p1 p2 p3 p4 p5 p6 p7 p8 q0 q1 q2 q3 q4 q5 q6 q7 q8 c0 c1 c2 c3 c4 c5 c6 c7 c8
 else
 rec v14 v15 (IntKind.wrap .i64 (v16 + (1 : Int))) p0 p1 p2 p3 p4 p5 p6 p7 p8 q0 q1 q2 q3 q4 q5 q6 q7 q8 c0 c1 c2 c3 c4 c5 c6 c7 c8
 else
 none
 else
 none
 else
 rec v14 v15 (IntKind.wrap .i64 (v16 + (1 : Int))) p0 p1 p2 p3 p4 p5 p6 p7 p8 q0 q1 q2 q3 q4 q5 q6 q7 q8 c0 c1 c2 c3 c4 c5 c6 c7 c8
 else
 bif v16 == (1 : Int) then
 bif decide (c4 ≤ (0 : Int)) then
 bif v14 == (0 : Int) then
 bif v16 == (0 : Int) then
 bif decide (c0 > (0 : Int)) then
 kr false p0 p1 p2 p3 p4 p5 p6 p7 p8 q0 q1 q2 q3 q4 q5 q6 q7 q8 c0 c1 c2 c3 c4 c5 c6 c7 c8
 else
 rec v14 v15 (IntKind.wrap .i64 (v16 + (1 : Int))) p0 p1 p2 p3 p4 p5 p6 p7 p8 q0 q1 q2 q3 q4 q5 q6 q7 q8 c0 c1 c2 c3 c4 c5 c6 c7 c8
 else
 bif v16 == (1 : Int) then
 bif decide (c1 > (0 : Int)) then
 kr false p0 p1 p2 p3 p4 p5 p6 p7 p8 q0 q1 q2 q3 q4 q5 q6 q7 q8 c0 c1 c2 c3 c4 c5 c6 c7 c8
 else
 rec v14 v15 (IntKind.wrap .i64 (v16 + (1 : Int))) p0 p1 p2 p3 p4 p5 p6 p7 p8 q0 q1 q2 q3 q4 q5 q6 q7 q8 c0 c1 c2 c3 c4 c5 c6 c7 c8
 else
 bif v16 == (2 : Int) then
 bif decide (c2 > (0 : Int)) then
 kr false p0 p1 p2 p3 p4 p5 p6 p7 p8 q0 q1 q2 q3 q4 q5 q6 q7 q8 c0 c1 c2 c3 c4 c5 c6 c7 c8
 else
 rec v14 v15 (IntKind.wrap .i64 (v16 + (1 : Int))) p0 p1 p2 p3 p4 p5 p6 p7 p8 q0 q1 q2 q3 q4 q5 q6 q7 q8 c0 c1 c2 c3 c4 c5 c6 c7 c8
 else
 none
 else
 bif v14 == (1 : Int) then
 bif v16 == (0 : Int) then
 bif decide (c3 > (0 : Int)) then
 kr false p0 p1 p2 p3 p4 p5 p6 p7 p8 q0 q1 q2 q3 q4 q5 q6 q7 q8 c0 c1 c2 c3 c4 c5 c6 c7 c8
 else
 rec v14 v15 (IntKind.wrap .i64 (v16 + (1 : Int))) p0 p1 p2 p3 p4 p5 p6 p7 p8 q0 q1 q2 q3 q4 q5 q6 q7 q8 c0 c1 c2 c3 c4 c5 c6 c7 c8
 else
 bif v16 == (1 : Int) then
 bif decide (c4 > (0 : Int)) then
 kr false p0 p1 p2 p3 p4 p5 p6 p7 p8 q0 q1 q2 q3 q4 q5 q6 q7 q8 c0 c1 c2 c3 c4 c5 c6 c7 c8
 else
 rec v14 v15 (IntKind.wrap .i64 (v16 + (1 : Int))) p0 p1 p2 p3 p4 p5 p6 p7 p8 q0 q1 q2 q3 q4 q5 q6 q7 q8 c0 c1 c2 c3 c4 c5 c6 c7 c8
 else
 bif v16 == (2 : Int) then
 bif decide (c5 > (0 : Int)) then
 kr false p0 p1 p2 p3 p4 p5 p6 p7 p8 q0 q1 q2 q3 q4 q5 q6 q7 q8 c0 c1 c2 c3 c4 c5 c6 c7 c8
 else
 rec v14 v15 (IntKind.wrap .i64 (v16 + (1 : Int))) p0 p1 p2 p3 p4 p5 p6 p7 p8 q0 q1 q2 q3 q4 q5 q6 q7 q8 c0 c1 c2 c3 c4 c5 c6 c7 c8
 else
 none
 else
 bif v14 == (2 : Int) then
 bif v16 == (0 : Int) then
 bif decide (c6 > (0 : Int)) then
 kr false p0 p1 p2 p3 p4 p5 p6 p7 p8 q0 q1 q2 q3 q4 q5 q6 q7 q8 c0 c1 c2 c3 c4 c5 c6 c7 c8
 else
 rec v14 v15 (IntKind.wrap .i64 (v16 + (1 : Int))) p0 p1 p2 p3 p4 p5 p6 p7 p8 q0 q1 q2 q3 q4 q5 q6 q7 q8 c0 c1 c2 c3 c4 c5 c6 c7 c8
 else
 bif v16 == (1 : Int) then
 bif decide (c7 > (0 : Int)) then
 kr false p0 p1 p2 p3 p4 p5 p6 p7 p8 q0 q1 q2 q3 q4 q5 q6 q7 q8 c0 c1 c2 c3 c4 c5 c6 c7 c8
 else
 rec v14 v15 (IntKind.wrap .i64 (v16 + (1 : Int))) p0 p1 p2 p3 p4 p5 p6 p7 p8 q0 q1 q2 q3 q4 q5 q6 q7 q8 c0 c1 c2 c3 c4 c5 c6 c7 c8
 else
 bif v16 == (2 : Int) then
 bif decide (c8 > (0 : Int)) then
 kr false p0 p1 p2 p3 p4 p5 p6 p7 p8 q0 q1 q2 q3 q4 q5 q6 q7 q8 c0 c1 c2 c3 c4 c5 c6 c7 c8
 else
 rec v14 v15 (IntKind.wrap .i64 (v16 + (1 : Int))) p0 p1 p2 p3 p4 p5 p6 p7 p8 q0 q1 q2 q3 q4 q5 q6 q7 q8 c0 c1 c2 c3 c4 c5 c6 c7 c8
 else
 none
 else
 none
 else
 rec v14 v15 (IntKind.wrap .i64 (v16 + (1 : Int))) p0 p1 p2 p3 p4 p5 p6 p7 p8 q0 q1 q2 q3 q4 q5 q6 q7 q8 c0 c1 c2 c3 c4 c5 c6 c7 c8
 else
 bif v16 == (2 : Int) then
 bif decide (c5 ≤ (0 : Int)) then
 bif v14 == (0 : Int) then
 bif v16 == (0 : Int) then
 bif decide (c0 > (0 : Int)) then
 kr false p0 p1 p2 p3 p4 p5 p6 p7 p8 q0 q1 q2 q3 q4 q5 q6 q7 q8 c0 c1 c2 c3 c4 c5 c6 c7 c8
 else
 rec v14 v15 (IntKind.wrap .i64 (v16 + (1 : Int))) p0 p1 p2 p3 p4 p5 p6 p7 p8 q0 q1 q2 q3 q4 q5 q6 q7 q8 c0 c1 c2 c3 c4 c5 c6 c7 c8
 else
 bif v16 == (1 : Int) then
 bif decide (c1 > (0 : Int)) then
 kr false p0 p1 p2 p3 p4 p5 p6 p7 p8 q0 q1 q2 q3 q4 q5 q6 q7 q8 c0 c1 c2 c3 c4 c5 c6 c7 c8
 else
 rec v14 v15 (IntKind.wrap .i64 (v16 + (1 : Int))) p0 p1 p2 p3 p4 p5 p6 p7 p8 q0 q1 q2 q3 q4 q5 q6 q7 q8 c0 c1 c2 c3 c4 c5 c6 c7 c8
 else
 bif v16 == (2 : Int) then
 bif decide (c2 > (0 : Int)) then
 kr false p0 p1 p2 p3 p4 p5 p6 p7 p8 q0 q1 q2 q3 q4 q5 q6 q7 q8 c0 c1 c2 c3 c4 c5 c6 c7 c8
 else
 rec v14 v15 (IntKind.wrap .i64 (v16 + (1 : Int))) p0 p1 p2 p3 p4 p5 p6 p7 p8 q0 q1 q2 q3 q4 q5 q6 q7 q8 c0 c1 c2 c3 c4 c5 c6 c7 c8
 else
 none
 else
 bif v14 == (1 : Int) then
 bif v16 == (0 : Int) then
 bif decide (c3 > (0 : Int)) then
 kr false p0 p1 p2 p3 p4 p5 p6 p7 p8 q0 q1 q2 q3 q4 q5 q6 q7 q8 c0 c1 c2 c3 c4 c5 c6 c7 c8
 else
 rec v14 v15 (IntKind.wrap .i64 (v16 + (1 : Int))) p0 p1 p2 p3 p4 p5 p6 p7 p8 q0 q1 q2 q3 q4 q5 q6 q7 q8 c0 c1 c2 c3 c4 c5 c6 c7 c8
 else
 bif v16 == (1 : Int) then
 bif decide (c4 > (0 : Int)) then
 kr false p0 p1 p2 p3 p4 p5 p6 p7 p8 q0 q1 q2 q3 q4 q5 q6 q7 q8 c0 c1 c2 c3 c4 c5 c6 c7 c8
 else
 rec v14 v15 (IntKind.wrap .i64 (v16 + (1 : Int))) p0 p1 p2 p3 p4 p5 p6 p7 p8 q0 q1 q2 q3 q4 q5 q6 q7 q8 c0 c1 c2 c3 c4 c5 c6 c7 c8
 else
 bif v16 == (2 : Int) then
 bif decide (c5 > (0 : Int)) then
 kr false p0 p1 p2 p3 p4 p5 p6 p7 p8 q0 q1 q2 q3 q4 q5 q6 q7 q8 c0 c1 c2 c3 c4 c5 c6 c7 c8
 else
 rec v14 v15 (IntKind.wrap .i64 (v16 + (1 : Int))) p0 p1 p2 p3 p4 p5 p6 p7 p8 q0 q1 q2 q3 q4 q5 q6 q7 q8 c0 c1 c2 c3 c4 c5 c6 c7 c8
 else
 none
 else
 bif v14 == (2 : Int) then
 bif v16 == (0 : Int) then
 bif decide (c6 > (0 : Int)) then
 kr false p0 p1 p2 p3 p4 p5 p6 p7 p8 q0 q1 q2 q3 q4 q5 q6 q7 q8 c0 c1 c2 c3 c4 c5 c6 c7 c8
 else
 rec v14 v15 (IntKind.wrap .i64 (v16 + (1 : Int))) p0 p1 p2 p3 p4 p5 p6 p7 p8 q0 q1 q2 q3 q4 q5 q6 q7 q8 c0 c1 c2 c3 c4 c5 c6 c7 c8
 else
 bif v16 == (1 : Int) then
 bif decide (c7 > (0 : Int)) then
 kr false p0 p1 p2 p3 p4 p5 p6 p7 p8 q0 q1 q2 q3 q4 q5 q6 q7 q8 c0 c1 c2 c3 c4 c5 c6 c7 c8
 else
 rec v14 v15 (IntKind.wrap .i64 (v16 + (1 : Int))) p0 p1 p2 p3 p4 p5 p6 p7 p8 q0 q1 q2 q3 q4 q5 q6 q7 q8 c0 c1 c2 c3 c4 c5 c6 c7 c8
 else
 bif v16 == (2 : Int) then
 bif decide (c8 > (0 : Int)) then
 kr false p0 p1 p2 p3 p4 p5 p6 p7 p8 q0 q1 q2 q3 q4 q5 q6 q7 q8 c0 c1 c2 c3 c4 c5 c6 c7 c8
 else
 rec v14 v15 (IntKind.wrap .i64 (v16 + (1 : Int))) p0 p1 p2 p3 p4 p5 p6 p7 p8 q0 q1 q2 q3 q4 q5 q6 q7 q8 c0 c1 c2 c3 c4 c5 c6 c7 c8
 else
 none
 else
 none
 else
 rec v14 v15 (IntKind.wrap .i64 (v16 + (1 : Int))) p0 p1 p2 p3 p4 p5 p6 p7 p8 q0 q1 q2 q3 q4 q5 q6 q7 q8 c0 c1 c2 c3 c4 c5 c6 c7 c8
 else
 none
 else
 bif v15 == (2 : Int) then
 bif v16 == (0 : Int) then
 bif decide (c6 ≤ (0 : Int)) then
 bif v14 == (0 : Int) then
 bif v16 == (0 : Int) then
 bif decide (c0 > (0 : Int)) then
 kr false p0 p1 p2 p3 p4 p5 p6 p7 p8 q0 q1 q2 q3 q4 q5 q6 q7 q8 c0 c1 c2 c3 c4 c5 c6 c7 c8
 else
 rec v14 v15 (IntKind.wrap .i64 (v16 + (1 : Int))) p0 p1 p2 p3 p4 p5 p6 p7 p8 q0 q1 q2 q3 q4 q5 q6 q7 q8 c0 c1 c2 c3 c4 c5 c6 c7 c8
 else
 bif v16 == (1 : Int) then
 bif decide (c1 > (0 : Int)) then
 kr false p0 p1 p2 p3 p4 p5 p6 p7 p8 q0 q1 q2 q3 q4 q5 q6 q7 q8 c0 c1 c2 c3 c4 c5 c6 c7 c8
 else
 rec v14 v15 (IntKind.wrap .i64 (v16 + (1 : Int))) p0 p1 p2 p3 p4 p5 p6 p7 p8 q0 q1 q2 q3 q4 q5 q6 q7 q8 c0 c1 c2 c3 c4 c5 c6 c7 c8
 else
 bif v16 == (2 : Int) then
 bif decide (c2 > (0 : Int)) then
 kr false p0 p1 p2 p3 p4 p5 p6 p7 p8 q0 q1 q2 q3 q4 q5 q6 q7 q8 c0 c1 c2 c3 c4 c5 c6 c7 c8
 else
 rec v14 v15 (IntKind.wrap .i64 (v16 + (1 : Int))) p0 p1 p2 p3 p4 p5 p6 p7 p8 q0 q1 q2 q3 q4 q5 q6 q7 q8 c0 c1 c2 c3 c4 c5 c6 c7 c8
 else
 none
 else
 bif v14 == (1 : Int) then
 bif v16 == (0 : Int) then
 bif decide (c3 > (0 : Int)) then
 kr false p0 p1 p2 p3 p4 p5 p6 p7 p8 q0 q1 q2 q3 q4 q5 q6 q7 q8 c0 c1 c2 c3 c4 c5 c6 c7 c8
 else
 rec v14 v15 (IntKind.wrap .i64 (v16 + (1 : Int))) p0 p1 p2 p3 p4 p5 p6 p7 p8 q0 q1 q2 q3 q4 q5 q6 q7 q8 c0 c1 c2 c3 c4 c5 c6 c7 c8
 else
 bif v16 == (1 : Int) then
 bif decide (c4 > (0 : Int)) then
 kr false p0 p1 p2 p3 p4 p5 p6 p7 p8 q0 q1 q2 q3 q4 q5 q6 q7 q8 c0 c1 c2 c3 c4 c5 c6 c7 c8
 else
 rec v14 v15 (IntKind.wrap .i64 (v16 + (1 : Int))) p0 p1 p2 p3 p4 p5 p6 p7 p8 q0 q1 q2 q3 q4 q5 q6 q7 q8 c0 c1 c2 c3 c4 c5 c6 c7 c8
 else
 bif v16 == (2 : Int) then
 bif decide (c5 > (0 : Int)) then
 kr false p0 p1 p2 p3 p4 p5 p6 p7 p8 q0 q1 q2 q3 q4 q5 q6 q7 q8 c0 c1 c2 c3 c4 c5 c6 c7 c8
 else
 rec v14 v15 (IntKind.wrap .i64 (v16 + (1 : Int))) p0 p1 p2 p3 p4 p5 p6 p7 p8 q0 q1 q2 q3 q4 q5 q6 q7 q8 c0 c1 c2 c3 c4 c5 c6 c7 c8
 else
 none
 else
 bif v14 == (2 : Int) then
 bif v16 == (0 : Int) then
 bif decide (c6 > (0 : Int)) then
 kr false p0 p1 p2 p3 p4 p5 p6 p7 p8 q0 q1 q2 q3 q4 q5 q6 q7 q8 c0 c1 c2 c3 c4 c5 c6 c7 c8
 else
 rec v14 v15 (IntKind.wrap .i64 (v16 + (1 : Int))) p0 p1 p2 p3 p4 p5 p6 p7 p8 q0 q1 q2 q3 q4 q5 q6 q7 q8 c0 c1 c2 c3 c4 c5 c6 c7 c8
 else
 bif v16 == (1 : Int) then
 bif decide (c7 > (0 : Int)) then
 kr false p0 p1 p2 p3 p4 p5 p6 p7 p8 q0 q1 q2 q3 q4 q5 q6 q7 q8 c0 c1 c2 c3 c4 c5 c6 c7 c8
 else
 rec v14 v15 (IntKind.wrap .i64 (v16 + (1 : Int))) p0 p1 p2 p3 p4 p5 p6 p7 p8 q0 q1 q2 q3 q4 q5 q6 q7 q8 c0 c1 c2 c3 c4 c5 c6 c7 c8
 else
 bif v16 == (2 : Int) then
 bif decide (c8 > (0 : Int)) then
 kr false p0 p1 p2 p3 p4 p5 p6 p7 p8 q0 q1 q2 q3 q4 q5 q6 q7 q8 c0 c1 c2 c3 c4 c5 c6 c7 c8
 else
 rec v14 v15 (IntKind.wrap .i64 (v16 + (1 : Int))) p0 p1 p2 p3 p4 p5 p6 p7 p8 q0 q1 q2 q3 q4 q5 q6 q7 q8 c0 c1 c2 c3 c4 c5 c6 c7 c8
 else
 none
 else
 none
 else
 rec v14 v15 (IntKind.wrap .i64 (v16 + (1 : Int))) p0 p1 p2 p3 p4 p5 p6 p7 p8 q0 q1 q2 q3 q4 q5 q6 q7 q8 c0 c1 c2 c3 c4 c5 c6 c7 c8
 else
 bif v16 == (1 : Int) then
 bif decide (c7 ≤ (0 : Int)) then
 bif v14 == (0 : Int) then
 bif v16 == (0 : Int) then
 bif decide (c0 > (0 : Int)) then
 kr false p0 p1 p2 p3 p4 p5 p6 p7 p8 q0 q1 q2 q3 q4 q5 q6 q7 q8 c0 c1 c2 c3 c4 c5 c6 c7 c8
 else
 rec v14 v15 (IntKind.wrap .i64 (v16 + (1 : Int))) p0 p1 p2 p3 p4 p5 p6 p7 p8 q0 q1 q2 q3 q4 q5 q6 q7 q8 c0 c1 c2 c3 c4 c5 c6 c7 c8
 else
 bif v16 == (1 : Int) then
 bif decide (c1 > (0 : Int)) then
 kr false p0 p1 p2 p3 p4 p5 p6 p7 p8 q0 q1 q2 q3 q4 q5 q6 q7 q8 c0 c1 c2 c3 c4 c5 c6 c7 c8
 else
 rec v14 v15 (IntKind.wrap .i64 (v16 + (1 : Int))) p0 p1 p2 p3 p4 p5 p6 p7 p8 q0 q1 q2 q3 q4 q5 q6 q7 q8 c0 c1 c2 c3 c4 c5 c6 c7 c8
 else
 bif v16 == (2 : Int) then
 bif decide (c2 > (0 : Int)) then
 kr false p0 p1 p2 p3 p4 p5 p6 p7 p8 q0 q1 q2 q3 q4 q5 q6 q7 q8 c0 c1 c2 c3 c4 c5 c6 c7 c8
 else
 rec v14 v15 (IntKind.wrap .i64 (v16 + (1 : Int))) p0 p1 p2 p3 p4 p5 p6 p7 p8 q0 q1 q2 q3 q4 q5 q6 q7 q8 c0 c1 c2 c3 c4 c5 c6 c7 c8
 else
 none
 else
 bif v14 == (1 : Int) then
 bif v16 == (0 : Int) then
 bif decide (c3 > (0 : Int)) then
 kr false p0 p1 p2 p3 p4 p5 p6 p7 p8 q0 q1 q2 q3 q4 q5 q6 q7 q8 c0 c1 c2 c3 c4 c5 c6 c7 c8
 else
 rec v14 v15 (IntKind.wrap .i64 (v16 + (1 : Int))) p0 p1 p2 p3 p4 p5 p6 p7 p8 q0 q1 q2 q3 q4 q5 q6 q7 q8 c0 c1 c2 c3 c4 c5 c6 c7 c8
 else
 bif v16 == (1 : Int) then
 bif decide (c4 > (0 : Int)) then
 kr false p0 p1 p2 p3 p4 p5 p6 p7 p8 q0 q1 q2 q3 q4 q5 q6 q7 q8 c0 c1 c2 c3 c4 c5 c6 c7 c8
 else
 rec v14 v15 (IntKind.wrap .i64 (v16 + (1 : Int))) p0 p1 p2 p3 p4 p5 p6 p7 p8 q0 q1 q2 q3 q4 q5 q6 q7 q8 c0 c1 c2 c3 c4 c5 c6 c7 c8
 else
 bif v16 == (2 : Int) then
 bif decide (c5 > (0 : Int)) then
 kr false p0 p1 p2 p3 p4 p5 p6 p7 p8 q0 q1 q2 q3 q4 q5 q6 q7 q8 c0 c1 c2 c3 c4 c5 c6 c7 c8
 else
 rec v14 v15 (IntKind.wrap .i64 (v16 + (1 : Int))) p0 p1 p2 p3 p4 p5 p6 p7 p8 q0 q1 q2 q3 q4 q5 q6 q7 q8 c0 c1 c2 c3 c4 c5 c6 c7 c8
 else
 none
 else
 bif v14 == (2 : Int) then
 bif v16 == (0 : Int) then
 bif decide (c6 > (0 : Int)) then
 kr false p0 p1 p2 p3 p4 p5 p6 p7 p8 q0 q1 q2 q3 q4 q5 q6 q7 q8 c0 c1 c2 c3 c4 c5 c6 c7 c8
 else
 rec v14 v15 (IntKind.wrap .i64 (v16 + (1 : Int))) p0 p1 p2 p3 p4 p5 p6 p7 p8 q0 q1 q2 q3 q4 q5 q6 q7 q8 c0 c1 c2 c3 c4 c5 c6 c7 c8
 else
 bif v16 == (1 : Int) then
 bif decide (c7 > (0 : Int)) then
 kr false p0 p1 p2 p3 p4 p5 p6 p7 p8 q0 q1 q2 q3 q4 q5 q6 q7 q8 c0 c1 c2 c3 c4 c5 c6 c7 c8
 else
 rec v14 v15 (IntKind.wrap .i64 (v16 + (1 : Int))) p0 p1 p2 p3 p4 p5 p6 p7 p8 q0 q1 q2 q3 q4 q5 q6 q7 q8 c0 c1 c2 c3 c4 c5 c6 c7 c8
 else
 bif v16 == (2 : Int) then
 bif decide (c8 > (0 : Int)) then
 kr false p0 p1 p2 p3 p4 p5 p6 p7 p8 q0 q1 q2 q3 q4 q5 q6 q7 q8 c0 c1 c2 c3 c4 c5 c6 c7 c8
 else
 rec v14 v15 (IntKind.wrap .i64 (v16 + (1 : Int))) p0 p1 p2 p3 p4 p5 p6 p7 p8 q0 q1 q2 q3 q4 q5 q6 q7 q8 c0 c1 c2 c3 c4 c5 c6 c7 c8
 else
 none
 else
 none
 else
 rec v14 v15 (IntKind.wrap .i64 (v16 + (1 : Int))) p0 p1 p2 p3 p4 p5 p6 p7 p8 q0 q1 q2 q3 q4 q5 q6 q7 q8 c0 c1 c2 c3 c4 c5 c6 c7 c8
 else
 bif v16 == (2 : Int) then
 bif decide (c8 ≤ (0 : Int)) then
 bif v14 == (0 : Int) then
 bif v16 == (0 : Int) then
 bif decide (c0 > (0 : Int)) then
 kr false p0 p1 p2 p3 p4 p5 p6 p7 p8 q0 q1 q2 q3 q4 q5 q6 q7 q8 c0 c1 c2 c3 c4 c5 c6 c7 c8
 else
 rec v14 v15 (IntKind.wrap .i64 (v16 + (1 : Int))) p0 p1 p2 p3 p4 p5 p6 p7 p8 q0 q1 q2 q3 q4 q5 q6 q7 q8 c0 c1 c2 c3 c4 c5 c6 c7 c8
 else
 bif v16 == (1 : Int) then
 bif decide (c1 > (0 : Int)) then
 kr false p0 p1 p2 p3 p4 p5 p6 p7 p8 q0 q1 q2 q3 q4 q5 q6 q7 q8 c0 c1 c2 c3 c4 c5 c6 c7 c8
 else
 rec v14 v15 (IntKind.wrap .i64 (v16 + (1 : Int))) p0 p1 p2 p3 p4 p5 p6 p7 p8 q0 q1 q2 q3 q4 q5 q6 q7 q8 c0 c1 c2 c3 c4 c5 c6 c7 c8
 else
 bif v16 == (2 : Int) then
 bif decide (c2 > (0 : Int)) then
 kr false p0 p1 p2 p3 p4 p5 p6 p7 p8 q0 q1 q2 q3 q4 q5 q6 q7 q8 c0 c1 c2 c3 c4 c5 c6 c7 c8
 else
 rec v14 v15 (IntKind.wrap .i64 (v16 + (1 : Int))) p0 p1 p2 p3 p4 p5 p6 p7 p8 q0 q1 q2 q3 q4 q5 q6 q7 q8 c0 c1 c2 c3 c4 c5 c6 c7 c8
 else
 none
 else
 bif v14 == (1 : Int) then
 bif v16 == (0 : Int) then
 bif decide (c3 > (0 : Int)) then
 kr false p0 p1 p2 p3 p4 p5 p6 p7 p8 q0 q1 q2 q3 q4 q5 q6 q7 q8 c0 c1 c2 c3 c4 c5 c6 c7 c8
 else
 rec v14 v15 (IntKind.wrap .i64 (v16 + (1 : Int))) p0 p1 p2 p3 p4 p5 p6 p7 p8 q0 q1 q2 q3 q4 q5 q6 q7 q8 c0 c1 c2 c3 c4 c5 c6 c7 c8
 else
 bif v16 == (1 : Int) then
 bif decide (c4 > (0 : Int)) then
 kr false p0 p1 p2 p3 p4 p5 p6 p7 p8 q0 q1 q2 q3 q4 q5 q6 q7 q8 c0 c1 c2 c3 c4 c5 c6 c7 c8
 else
 rec v14 v15 (IntKind.wrap .i64 (v16 + (1 : Int))) p0 p1 p2 p3 p4 p5 p6 p7 p8 q0 q1 q2 q3 q4 q5 q6 q7 q8 c0 c1 c2 c3 c4 c5 c6 c7 c8
 else
 bif v16 == (2 : Int) then
 bif decide (c5 > (0 : Int)) then
 kr false p0 p1 p2 p3 p4 p5 p6 p7 p8 q0 q1 q2 q3 q4 q5 q6 q7 q8 c0 c1 c2 c3 c4 c5 c6 c7 c8
 else
 rec v14 v15 (IntKind.wrap .i64 (v16 + (1 : Int))) p0 p1 p2 p3 p4 p5 p6 p7 p8 q0 q1 q2 q3 q4 q5 q6 q7 q8 c0 c1 c2 c3 c4 c5 c6 c7 c8
 else
 none
 else
 bif v14 == (2 : Int) then
 bif v16 == (0 : Int) then
 bif decide (c6 > (0 : Int)) then
 kr false p0 p1 p2 p3 p4 p5 p6 p7 p8 q0 q1 q2 q3 q4 q5 q6 q7 q8 c0 c1 c2 c3 c4 c5 c6 c7 c8
 else
 rec v14 v15 (IntKind.wrap .i64 (v16 + (1 : Int))) p0 p1 p2 p3 p4 p5 p6 p7 p8 q0 q1 q2 q3 q4 q5 q6 q7 q8 c0 c1 c2 c3 c4 c5 c6 c7 c8
 else
 bif v16 == (1 : Int) then
 bif decide (c7 > (0 : Int)) then
 kr false p0 p1 p2 p3 p4 p5 p6 p7 p8 q0 q1 q2 q3 q4 q5 q6 q7 q8 c0 c1 c2 c3 c4 c5 c6 c7 c8
 else
 rec v14 v15 (IntKind.wrap .i64 (v16 + (1 : Int))) p0 p1 p2 p3 p4 p5 p6 p7 p8 q0 q1 q2 q3 q4 q5 q6 q7 q8 c0 c1 c2 c3 c4 c5 c6 c7 c8
 else
 bif v16 == (2 : Int) then
 bif decide (c8 > (0 : Int)) then
 kr false p0 p1 p2 p3 p4 p5 p6 p7 p8 q0 q1 q2 q3 q4 q5 q6 q7 q8 c0 c1 c2 c3 c4 c5 c6 c7 c8
 else
 rec v14 v15 (IntKind.wrap .i64 (v16 + (1 : Int))) p0 p1 p2 p3 p4 p5 p6 p7 p8 q0 q1 q2 q3 q4 q5 q6 q7 q8 c0 c1 c2 c3 c4 c5 c6 c7 c8
 else
 none
 else
 none
 else
 rec v14 v15 (IntKind.wrap .i64 (v16 + (1 : Int))) p0 p1 p2 p3 p4 p5 p6 p7 p8 q0 q1 q2 q3 q4 q5 q6 q7 q8 c0 c1 c2 c3 c4 c5 c6 c7 c8
 else
 none
 else
 none
 else
 rec v14 v15 (IntKind.wrap .i64 (v16 + (1 : Int))) p0 p1 p2 p3 p4 p5 p6 p7 p8 q0 q1 q2 q3 q4 q5 q6 q7 q8 c0 c1 c2 c3 c4 c5 c6 c7 c8
 else
 bif v15 == (2 : Int) then
 bif decide (c8 ≤ (0 : Int)) then
 bif v15 == (0 : Int) then
 bif v16 == (0 : Int) then
 bif decide (c0 ≤ (0 : Int)) then
 bif v14 == (0 : Int) then
 bif v16 == (0 : Int) then
 bif decide (c0 > (0 : Int)) then
 kr false p0 p1 p2 p3 p4 p5 p6 p7 p8 q0 q1 q2 q3 q4 q5 q6 q7 q8 c0 c1 c2 c3 c4 c5 c6 c7 c8
 else
 rec v14 v15 (IntKind.wrap .i64 (v16 + (1 : Int))) p0 p1 p2 p3 p4 p5 p6 p7 p8 q0 q1 q2 q3 q4 q5 q6 q7 q8 c0 c1 c2 c3 c4 c5 c6 c7 c8
 else
 bif v16 == (1 : Int) then
 bif decide (c1 > (0 : Int)) then
 kr false p0 p1 p2 p3 p4 p5 p6 p7 p8 q0 q1 q2 q3 q4 q5 q6 q7 q8 c0 c1 c2 c3 c4 c5 c6 c7 c8
 else
 rec v14 v15 (IntKind.wrap .i64 (v16 + (1 : Int))) p0 p1 p2 p3 p4 p5 p6 p7 p8 q0 q1 q2 q3 q4 q5 q6 q7 q8 c0 c1 c2 c3 c4 c5 c6 c7 c8
 else
 bif v16 == (2 : Int) then
 bif decide (c2 > (0 : Int)) then
 kr false p0 p1 p2 p3 p4 p5 p6 p7 p8 q0 q1 q2 q3 q4 q5 q6 q7 q8 c0 c1 c2 c3 c4 c5 c6 c7 c8
 else
 rec v14 v15 (IntKind.wrap .i64 (v16 + (1 : Int))) p0 p1 p2 p3 p4 p5 p6 p7 p8 q0 q1 q2 q3 q4 q5 q6 q7 q8 c0 c1 c2 c3 c4 c5 c6 c7 c8
 else
 none
 else
 bif v14 == (1 : Int) then
 bif v16 == (0 : Int) then
 bif decide (c3 > (0 : Int)) then
 kr false p0 p1 p2 p3 p4 p5 p6 p7 p8 q0 q1 q2 q3 q4 q5 q6 q7 q8 c0 c1 c2 c3 c4 c5 c6 c7 c8
 else
 rec v14 v15 (IntKind.wrap .i64 (v16 + (1 : Int))) p0 p1 p2 p3 p4 p5 p6 p7 p8 q0 q1 q2 q3 q4 q5 q6 q7 q8 c0 c1 c2 c3 c4 c5 c6 c7 c8
 else
 bif v16 == (1 : Int) then
 bif decide (c4 > (0 : Int)) then
 kr false p0 p1 p2 p3 p4 p5 p6 p7 p8 q0 q1 q2 q3 q4 q5 q6 q7 q8 c0 c1 c2 c3 c4 c5 c6 c7 c8
 else
 rec v14 v15 (IntKind.wrap .i64 (v16 + (1 : Int))) p0 p1 p2 p3 p4 p5 p6 p7 p8 q0 q1 q2 q3 q4 q5 q6 q7 q8 c0 c1 c2 c3 c4 c5 c6 c7 c8
 else
 bif v16 == (2 : Int) then
 bif decide (c5 > (0 : Int)) then
 kr false p0 p1 p2 p3 p4 p5 p6 p7 p8 q0 q1 q2 q3 q4 q5 q6 q7 q8 c0 c1 c2 c3 c4 c5 c6 c7 c8
 else
 rec v14 v15 (IntKind.wrap .i64 (v16 + (1 : Int))) p0 p1 p2 p3 p4 p5 p6 p7 p8 q0 q1 q2 q3 q4 q5 q6 q7 q8 c0 c1 c2 c3 c4 c5 c6 c7 c8
 else
 none
 else
 bif v14 == (2 : Int) then
 bif v16 == (0 : Int) then
 bif decide (c6 > (0 : Int)) then
 kr false p0 p1 p2 p3 p4 p5 p6 p7 p8 q0 q1 q2 q3 q4 q5 q6 q7 q8 c0 c1 c2 c3 c4 c5 c6 c7 c8
 else
 rec v14 v15 (IntKind.wrap .i64 (v16 + (1 : Int))) p0 p1 p2 p3 p4 p5 p6 p7 p8 q0 q1 q2 q3 q4 q5 q6 q7 q8 c0 c1 c2 c3 c4 c5 c6 c7 c8
 else
 bif v16 == (1 : Int) then
 bif decide (c7 > (0 : Int)) then
 kr false p0 p1 p2 p3 p4 p5 p6 p7 p8 q0 q1 q2 q3 q4 q5 q6 q7 q8 c0 c1 c2 c3 c4 c5 c6 c7 c8
 else
 rec v14 v15 (IntKind.wrap .i64 (v16 + (1 : Int))) p0 p1 p2 p3 p4 p5 p6 p7 p8 q0 q1 q2 q3 q4 q5 q6 q7 q8 c0 c1 c2 c3 c4 c5 c6 c7 c8
 else
 bif v16 == (2 : Int) then
 bif decide (c8 > (0 : Int)) then
 kr false p0 p1 p2 p3 p4 p5 p6 p7 p8 q0 q1 q2 q3 q4 q5 q6 q7 q8 c0 c1 c2 c3 c4 c5 c6 c7 c8
 else
 rec v14 v15 (IntKind.wrap .i64 (v16 + (1 : Int))) p0 p1 p2 p3 p4 p5 p6 p7 p8 q0 q1 q2 q3 q4 q5 q6 q7 q8 c0 c1 c2 c3 c4 c5 c6 c7 c8
 else
 none
 else
 none
 else
 rec v14 v15 (IntKind.wrap .i64 (v16 + (1 : Int))) p0 p1 p2 p3 p4 p5 p6 p7 p8 q0 q1 q2 q3 q4 q5 q6 q7 q8 c0 c1 c2 c3 c4 c5 c6 c7 c8
 else
 bif v16 == (1 : Int) then
 bif decide (c1 ≤ (0 : Int)) then
 bif v14 == (0 : Int) then
 bif v16 == (0 : Int) then
 bif decide (c0 > (0 : Int)) then
 kr false p0 p1 p2 p3 p4 p5 p6 p7 p8 q0 q1 q2 q3 q4 q5 q6 q7 q8 c0 c1 c2 c3 c4 c5 c6 c7 c8
 else
 rec v14 v15 (IntKind.wrap .i64 (v16 + (1 : Int))) p0 p1 p2 p3 p4 p5 p6 p7 p8 q0 q1 q2 q3 q4 q5 q6 q7 q8 c0 c1 c2 c3 c4 c5 c6 c7 c8
 else
 bif v16 == (1 : Int) then
 bif decide (c1 > (0 : Int)) then
 kr false p0 p1 p2 p3 p4 p5 p6 p7 p8 q0 q1 q2 q3 q4 q5 q6 q7 q8 c0 c1 c2 c3 c4 c5 c6 c7 c8
 else
 rec v14 v15 (IntKind.wrap .i64 (v16 + (1 : Int))) p0 p1 p2 p3 p4 p5 p6 p7 p8 q0 q1 q2 q3 q4 q5 q6 q7 q8 c0 c1 c2 c3 c4 c5 c6 c7 c8
 else
 bif v16 == (2 : Int) then
 bif decide (c2 > (0 : Int)) then
 kr false p0 p1 p2 p3 p4 p5 p6 p7 p8 q0 q1 q2 q3 q4 q5 q6 q7 q8 c0 c1 c2 c3 c4 c5 c6 c7 c8
 else
 rec v14 v15 (IntKind.wrap .i64 (v16 + (1 : Int))) p0 p1 p2 p3 p4 p5 p6 p7 p8 q0 q1 q2 q3 q4 q5 q6 q7 q8 c0 c1 c2 c3 c4 c5 c6 c7 c8
 else
 none
 else
 bif v14 == (1 : Int) then
 bif v16 == (0 : Int) then
 bif decide (c3 > (0 : Int)) then
 kr false p0 p1 p2 p3 p4 p5 p6 p7 p8 q0 q1 q2 q3 q4 q5 q6 q7 q8 c0 c1 c2 c3 c4 c5 c6 c7 c8
 else
 rec v14 v15 (IntKind.wrap .i64 (v16 + (1 : Int))) p0 p1 p2 p3 p4 p5 p6 p7 p8 q0 q1 q2 q3 q4 q5 q6 q7 q8 c0 c1 c2 c3 c4 c5 c6 c7 c8
 else
 bif v16 == (1 : Int) then
 bif decide (c4 > (0 : Int)) then
 kr false p0 p1 p2 p3 p4 p5 p6 p7 p8 q0 q1 q2 q3 q4 q5 q6 q7 q8 c0 c1 c2 c3 c4 c5 c6 c7 c8
 else
 rec v14 v15 (IntKind.wrap .i64 (v16 + (1 : Int))) p0 p1 p2 p3 p4 p5 p6 p7 p8 q0 q1 q2 q3 q4 q5 q6 q7 q8 c0 c1 c2 c3 c4 c5 c6 c7 c8
 else
 bif v16 == (2 : Int) then
 bif decide (c5 > (0 : Int)) then
 kr false p0 p1 p2 p3 p4 p5 p6 p7 p8 q0 q1 q2 q3 q4 q5 q6 q7 q8 c0 c1 c2 c3 c4 c5 c6 c7 c8
 else
 rec v14 v15 (IntKind.wrap .i64 (v16 + (1 : Int))) p0 p1 p2 p3 p4 p5 p6 p7 p8 q0 q1 q2 q3 q4 q5 q6 q7 q8 c0 c1 c2 c3 c4 c5 c6 c7 c8
 else
 none
 else
 bif v14 == (2 : Int) then
 bif v16 == (0 : Int) then
 bif decide (c6 > (0 : Int)) then
 kr false p0 p1 p2 p3 p4 p5 p6 p7 p8 q0 q1 q2 q3 q4 q5 q6 q7 q8 c0 c1 c2 c3 c4 c5 c6 c7 c8
 else
 rec v14 v15 (IntKind.wrap .i64 (v16 + (1 : Int))) p0 p1 p2 p3 p4 p5 p6 p7 p8 q0 q1 q2 q3 q4 q5 q6 q7 q8 c0 c1 c2 c3 c4 c5 c6 c7 c8
 else
 bif v16 == (1 : Int) then
 bif decide (c7 > (0 : Int)) then
 kr false p0 p1 p2 p3 p4 p5 p6 p7 p8 q0 q1 q2 q3 q4 q5 q6 q7 q8 c0 c1 c2 c3 c4 c5 c6 c7 c8
 else
 rec v14 v15 (IntKind.wrap .i64 (v16 + (1 : Int))) p0 p1 p2 p3 p4 p5 p6 p7 p8 q0 q1 q2 q3 q4 q5 q6 q7 q8 c0 c1 c2 c3 c4 c5 c6 c7 c8
 else
 bif v16 == (2 : Int) then
 bif decide (c8 > (0 : Int)) then
 kr false p0 p1 p2 p3 p4 p5 p6 p7 p8 q0 q1 q2 q3 q4 q5 q6 q7 q8 c0 c1 c2 c3 c4 c5 c6 c7 c8
 else
 rec v14 v15 (IntKind.wrap .i64 (v16 + (1 : Int))) p0 p1 p2 p3 p4 p5 p6 p7 p8 q0 q1 q2 q3 q4 q5 q6 q7 q8 c0 c1 c2 c3 c4 c5 c6 c7 c8
 else
 none
 else
 none
 else
 rec v14 v15 (IntKind.wrap .i64 (v16 + (1 : Int))) p0 p1 p2 p3 p4 p5 p6 p7 p8 q0 q1 q2 q3 q4 q5 q6 q7 q8 c0 c1 c2 c3 c4 c5 c6 c7 c8
 else
 bif v16 == (2 : Int) then
 bif decide (c2 ≤ (0 : Int)) then
 bif v14 == (0 : Int) then
 bif v16 == (0 : Int) then
 bif decide (c0 > (0 : Int)) then
 kr false p0 p1 p2 p3 p4 p5 p6 p7 p8 q0 q1 q2 q3 q4 q5 q6 q7 q8 c0 c1 c2 c3 c4 c5 c6 c7 c8
 else
 rec v14 v15 (IntKind.wrap .i64 (v16 + (1 : Int))) p0 p1 p2 p3 p4 p5 p6 p7 p8 q0 q1 q2 q3 q4 q5 q6 q7 q8 c0 c1 c2 c3 c4 c5 c6 c7 c8
 else
 bif v16 == (1 : Int) then
 bif decide (c1 > (0 : Int)) then
 kr false p0 p1 p2 p3 p4 p5 p6 p7 p8 q0 q1 q2 q3 q4 q5 q6 q7 q8 c0 c1 c2 c3 c4 c5 c6 c7 c8
 else
 rec v14 v15 (IntKind.wrap .i64 (v16 + (1 : Int))) p0 p1 p2 p3 p4 p5 p6 p7 p8 q0 q1 q2 q3 q4 q5 q6 q7 q8 c0 c1 c2 c3 c4 c5 c6 c7 c8
 else
 bif v16 == (2 : Int) then
 bif decide (c2 > (0 : Int)) then
 kr false p0 p1 p2 p3 p4 p5 p6 p7 p8 q0 q1 q2 q3 q4 q5 q6 q7 q8 c0 c1 c2 c3 c4 c5 c6 c7 c8
 else
 rec v14 v15 (IntKind.wrap .i64 (v16 + (1 : Int))) p0 p1 p2 p3 p4 p5 p6 p7 p8 q0 q1 q2 q3 q4 q5 q6 q7 q8 c0 c1 c2 c3 c4 c5 c6 c7 c8
 else
 none
 else
 bif v14 == (1 : Int) then
 bif v16 == (0 : Int) then
 bif decide (c3 > (0 : Int)) then
 kr false p0 p1 p2 p3 p4 p5 p6 p7 p8 q0 q1 q2 q3 q4 q5 q6 q7 q8 c0 c1 c2 c3 c4 c5 c6 c7 c8
 else
 rec v14 v15 (IntKind.wrap .i64 (v16 + (1 : Int))) p0 p1 p2 p3 p4 p5 p6 p7 p8 q0 q1 q2 q3 q4 q5 q6 q7 q8 c0 c1 c2 c3 c4 c5 c6 c7 c8
 else
 bif v16 == (1 : Int) then
 bif decide (c4 > (0 : Int)) then
 kr false p0 p1 p2 p3 p4 p5 p6 p7 p8 q0 q1 q2 q3 q4 q5 q6 q7 q8 c0 c1 c2 c3 c4 c5 c6 c7 c8
 else
 rec v14 v15 (IntKind.wrap .i64 (v16 + (1 : Int))) p0 p1 p2 p3 p4 p5 p6 p7 p8 q0 q1 q2 q3 q4 q5 q6 q7 q8 c0 c1 c2 c3 c4 c5 c6 c7 c8
 else
 bif v16 == (2 : Int) then
 bif decide (c5 > (0 : Int)) then
 kr false p0 p1 p2 p3 p4 p5 p6 p7 p8 q0 q1 q2 q3 q4 q5 q6 q7 q8 c0 c1 c2 c3 c4 c5 c6 c7 c8
 else
 rec v14 v15 (IntKind.wrap .i64 (v16 + (1 : Int))) p0 p1 p2 p3 p4 p5 p6 p7 p8 q0 q1 q2 q3 q4 q5 q6 q7 q8 c0 c1 c2 c3 c4 c5 c6 c7 c8
 else
 none
 else
 bif v14 == (2 : Int) then
 bif v16 == (0 : Int) then
 bif decide (c6 > (0 : Int)) then
 kr false p0 p1 p2 p3 p4 p5 p6 p7 p8 q0 q1 q2 q3 q4 q5 q6 q7 q8 c0 c1 c2 c3 c4 c5 c6 c7 c8
 else
 rec v14 v15 (IntKind.wrap .i64 (v16 + (1 : Int))) p0 p1 p2 p3 p4 p5 p6 p7 p8 q0 q1 q2 q3 q4 q5 q6 q7 q8 c0 c1 c2 c3 c4 c5 c6 c7 c8
 else
 bif v16 == (1 : Int) then
 bif decide (c7 > (0 : Int)) then
 kr false p0 p1 p2 p3 p4 p5 p6 p7 p8 q0 q1 q2 q3 q4 q5 q6 q7 q8 c0 c1 c2 c3 c4 c5 c6 c7 c8
 else
 rec v14 v15 (IntKind.wrap .i64 (v16 + (1 : Int))) p0 p1 p2 p3 p4 p5 p6 p7 p8 q0 q1 q2 q3 q4 q5 q6 q7 q8 c0 c1 c2 c3 c4 c5 c6 c7 c8
 else
 bif v16 == (2 : Int) then
 bif decide (c8 > (0 : Int)) then
 kr false p0 p1 p2 p3 p4 p5 p6 p7 p8 q0 q1 q2 q3 q4 q5 q6 q7 q8 c0 c1 c2 c3 c4 c5 c6 c7 c8
 else
 rec v14 v15 (IntKind.wrap .i64 (v16 + (1 : Int))) p0 p1 p2 p3 p4 p5 p6 p7 p8 q0 q1 q2 q3 q4 q5 q6 q7 q8 c0 c1 c2 c3 c4 c5 c6 c7 c8
 else
 none
 else
 none
 else
 rec v14 v15 (IntKind.wrap .i64 (v16 + (1 : Int))) p0 p1 p2 p3 p4 p5 p6 p7 p8 q0 q1 q2 q3 q4 q5 q6 q7 q8 c0 c1 c2 c3 c4 c5 c6 c7 c8
 else
 none
 else
 bif v15 == (1 : Int) then
 bif v16 == (0 : Int) then
 bif decide (c3 ≤ (0 : Int)) then
 bif v14 == (0 : Int) then
 bif v16 == (0 : Int) then
 bif decide (c0 > (0 : Int)) then
 kr false p0 p1 p2 p3 p4 p5 p6 p7 p8 q0 q1 q2 q3 q4 q5 q6 q7 q8 c0 c1 c2 c3 c4 c5 c6 c7 c8
 else
 rec v14 v15 (IntKind.wrap .i64 (v16 + (1 : Int))) p0 p1 p2 p3 p4 p5 p6 p7 p8 q0 q1 q2 q3 q4 q5 q6 q7 q8 c0 c1 c2 c3 c4 c5 c6 c7 c8
 else
 bif v16 == (1 : Int) then
 bif decide (c1 > (0 : Int)) then
 kr false p0 p1 p2 p3 p4 p5 p6 p7 p8 q0 q1 q2 q3 q4 q5 q6 q7 q8 c0 c1 c2 c3 c4 c5 c6 c7 c8
 else
 rec v14 v15 (IntKind.wrap .i64 (v16 + (1 : Int))) p0 p1 p2 p3 p4 p5 p6 p7 p8 q0 q1 q2 q3 q4 q5 q6 q7 q8 c0 c1 c2 c3 c4 c5 c6 c7 c8
 else
 bif v16 == (2 : Int) then
 bif decide (c2 > (0 : Int)) then
 kr false p0 p1 p2 p3 p4 p5 p6 p7 p8 q0 q1 q2 q3 q4 q5 q6 q7 q8 c0 c1 c2 c3 c4 c5 c6 c7 c8
 else
 rec v14 v15 (IntKind.wrap .i64 (v16 + (1 : Int))) p0 p1 p2 p3 p4 p5 p6 p7 p8 q0 q1 q2 q3 q4 q5 q6 q7 q8 c0 c1 c2 c3 c4 c5 c6 c7 c8
 else
 none
 else
 bif v14 == (1 : Int) then
 bif v16 == (0 : Int) then
 bif decide (c3 > (0 : Int)) then
 kr false p0 p1 p2 p3 p4 p5 p6 p7 p8 q0 q1 q2 q3 q4 q5 q6 q7 q8 c0 c1 c2 c3 c4 c5 c6 c7 c8
 else
 rec v14 v15 (IntKind.wrap .i64 (v16 + (1 : Int))) p0 p1 p2 p3 p4 p5 p6 p7 p8 q0 q1 q2 q3 q4 q5 q6 q7 q8 c0 c1 c2 c3 c4 c5 c6 c7 c8
 else
 bif v16 == (1 : Int) then
 bif decide (c4 > (0 : Int)) then
 kr false p0 p1 p2 p3 p4 p5 p6 p7 p8 q0 q1 q2 q3 q4 q5 q6 q7 q8 c0 c1 c2 c3 c4 c5 c6 c7 c8
 else
 rec v14 v15 (IntKind.wrap .i64 (v16 + (1 : Int))) p0 p1 p2 p3 p4 p5 p6 p7 p8 q0 q1 q2 q3 q4 q5 q6 q7 q8 c0 c1 c2 c3 c4 c5 c6 c7 c8
 else
 bif v16 == (2 : Int) then
 bif decide (c5 > (0 : Int)) then
 kr false p0 p1 p2 p3 p4 p5 p6 p7 p8 q0 q1 q2 q3 q4 q5 q6 q7 q8 c0 c1 c2 c3 c4 c5 c6 c7 c8
 else
 rec v14 v15 (IntKind.wrap .i64 (v16 + (1 : Int))) p0 p1 p2 p3 p4 p5 p6 p7 p8 q0 q1 q2 q3 q4 q5 q6 q7 q8 c0 c1 c2 c3 c4 c5 c6 c7 c8
 else
 none
 else
 bif v14 == (2 : Int) then
 bif v16 == (0 : Int) then
 bif decide (c6 > (0 : Int)) then
 kr false p0 p1 p2 p3 p4 p5 p6 p7 p8 q0 q1 q2 q3 q4 q5 q6 q7 q8 c0 c1 c2 c3 c4 c5 c6 c7 c8
 else
 rec v14 v15 (IntKind.wrap .i64 (v16 + (1 : Int))) p0 p1 p2 p3 p4 p5 p6 p7 p8 q0 q1 q2 q3 q4 q5 q6 q7 q8 c0 c1 c2 c3 c4 c5 c6 c7 c8
 else
 bif v16 == (1 : Int) then
 bif decide (c7 > (0 : Int)) then
 kr false p0 p1 p2 p3 p4 p5 p6 p7 p8 q0 q1 q2 q3 q4 q5 q6 q7 q8 c0 c1 c2 c3 c4 c5 c6 c7 c8
 else
 rec v14 v15 (IntKind.wrap .i64 (v16 + (1 : Int))) p0 p1 p2 p3 p4 p5 p6 p7 p8 q0 q1 q2 q3 q4 q5 q6 q7 q8 c0 c1 c2 c3 c4 c5 c6 c7 c8
 else
 bif v16 == (2 : Int) then
 bif decide (c8 > (0 : Int)) then
 kr false p0 p1 p2 p3 p4 p5 p6 p7 p8 q0 q1 q2 q3 q4 q5 q6 q7 q8 c0 c1 c2 c3 c4 c5 c6 c7 c8
 else
 rec v14 v15 (IntKind.wrap .i64 (v16 + (1 : Int))) p0 p1 p2 p3 p4 p5 p6 p7 p8 q0 q1 q2 q3 q4 q5 q6 q7 q8 c0 c1 c2 c3 c4 c5 c6 c7 c8
 else
 none
 else
 none
 else
 rec v14 v15 (IntKind.wrap .i64 (v16 + (1 : Int))) p0 p1 p2 p3 p4 p5 p6 p7 p8 q0 q1 q2 q3 q4 q5 q6 q7 q8 c0 c1 c2 c3 c4 c5 c6 c7 c8
 else
 bif v16 == (1 : Int) then
 bif decide (c4 ≤ (0 : Int)) then
 bif v14 == (0 : Int) then
 bif v16 == (0 : Int) then
 bif decide (c0 > (0 : Int)) then
 kr false p0 p1 p2 p3 p4 p5 p6 p7 p8 q0 q1 q2 q3 q4 q5 q6 q7 q8 c0 c1 c2 c3 c4 c5 c6 c7 c8
 else
 rec v14 v15 (IntKind.wrap .i64 (v16 + (1 : Int))) p0 p1 p2 p3 p4 p5 p6 p7 p8 q0 q1 q2 q3 q4 q5 q6 q7 q8 c0 c1 c2 c3 c4 c5 c6 c7 c8
 else
 bif v16 == (1 : Int) then
 bif decide (c1 > (0 : Int)) then
 kr false p0 p1 p2 p3 p4 p5 p6 p7 p8 q0 q1 q2 q3 q4 q5 q6 q7 q8 c0 c1 c2 c3 c4 c5 c6 c7 c8
 else
 rec v14 v15 (IntKind.wrap .i64 (v16 + (1 : Int))) p0 p1 p2 p3 p4 p5 p6 p7 p8 q0 q1 q2 q3 q4 q5 q6 q7 q8 c0 c1 c2 c3 c4 c5 c6 c7 c8
 else
 bif v16 == (2 : Int) then
 bif decide (c2 > (0 : Int)) then
 kr false p0 p1 p2 p3 p4 p5 p6 p7 p8 q0 q1 q2 q3 q4 q5 q6 q7 q8 c0 c1 c2 c3 c4 c5 c6 c7 c8
 else
 rec v14 v15 (IntKind.wrap .i64 (v16 + (1 : Int))) p0 p1 p2 p3 p4 p5 p6 p7 p8 q0 q1 q2 q3 q4 q5 q6 q7 q8 c0 c1 c2 c3 c4 c5 c6 c7 c8
 else
 none
 else
 bif v14 == (1 : Int) then
 bif v16 == (0 : Int) then
 bif decide (c3 > (0 : Int)) then
 kr false p0 p1 p2 p3 p4 p5 p6 p7 p8 q0 q1 q2 q3 q4 q5 q6 q7 q8 c0 c1 c2 c3 c4 c5 c6 c7 c8
 else
 rec v14 v15 (IntKind.wrap .i64 (v16 + (1 : Int))) p0 p1 p2 p3 p4 p5 p6 p7 p8 q0 q1 q2 q3 q4 q5 q6 q7 q8 c0 c1 c2 c3 c4 c5 c6 c7 c8
 else
 bif v16 == (1 : Int) then
 bif decide (c4 > (0 : Int)) then
 kr false p0 p1 p2 p3 p4 p5 p6 p7 p8 q0 q1 q2 q3 q4 q5 q6 q7 q8 c0 c1 c2 c3 c4 c5 c6 c7 c8
 else
 rec v14 v15 (IntKind.wrap .i64 (v16 + (1 : Int))) p0 p1 p2 p3 p4 p5 p6 p7 p8 q0 q1 q2 q3 q4 q5 q6 q7 q8 c0 c1 c2 c3 c4 c5 c6 c7 c8
 else
 bif v16 == (2 : Int) then
 bif decide (c5 > (0 : Int)) then
 kr false p0 p1 p2 p3 p4 p5 p6 p7 p8 q0 q1 q2 q3 q4 q5 q6 q7 q8 c0 c1 c2 c3 c4 c5 c6 c7 c8
 else
 rec v14 v15 (IntKind.wrap .i64 (v16 + (1 : Int))) p0 p1 p2 p3 p4 p5 p6 p7 p8 q0 q1 q2 q3 q4 q5 q6 q7 q8 c0 c1 c2 c3 c4 c5 c6 c7 c8
 else
 none
 else
 bif v14 == (2 : Int) then
 bif v16 == (0 : Int) then
 bif decide (c6 > (0 : Int)) then
 kr false p0 p1 p2 p3 p4 p5 p6 p7 p8 q0 q1 q2 q3 q4 q5 q6 q7 q8 c0 c1 c2 c3 c4 c5 c6 c7 c8
 else
 rec v14 v15 (IntKind.wrap .i64 (v16 + (1 : Int))) p0 p1 p2 p3 p4 p5 p6 p7 p8 q0 q1 q2 q3 q4 q5 q6 q7 q8 c0 c1 c2 c3 c4 c5 c6 c7 c8
 else
 bif v16 == (1 : Int) then
 bif decide (c7 > (0 : Int)) then
 kr false p0 p1 p2 p3 p4 p5 p6 p7 p8 q0 q1 q2 q3 q4 q5 q6 q7 q8 c0 c1 c2 c3 c4 c5 c6 c7 c8
 else
 rec v14 v15 (IntKind.wrap .i64 (v16 + (1 : Int))) p0 p1 p2 p3 p4 p5 p6 p7 p8 q0 q1 q2 q3 q4 q5 q6 q7 q8 c0 c1 c2 c3 c4 c5 c6 c7 c8
 else
 bif v16 == (2 : Int) then
 bif decide (c8 > (0 : Int)) then
 kr false p0 p1 p2 p3 p4 p5 p6 p7 p8 q0 q1 q2 q3 q4 q5 q6 q7 q8 c0 c1 c2 c3 c4 c5 c6 c7 c8
 else
 rec v14 v15 (IntKind.wrap .i64 (v16 + (1 : Int))) p0 p1 p2 p3 p4 p5 p6 p7 p8 q0 q1 q2 q3 q4 q5 q6 q7 q8 c0 c1 c2 c3 c4 c5 c6 c7 c8
 else
 none
 else
 none
 else
 rec v14 v15 (IntKind.wrap .i64 (v16 + (1 : Int))) p0 p1 p2 p3 p4 p5 p6 p7 p8 q0 q1 q2 q3 q4 q5 q6 q7 q8 c0 c1 c2 c3 c4 c5 c6 c7 c8
 else
 bif v16 == (2 : Int) then
 bif decide (c5 ≤ (0 : Int)) then
 bif v14 == (0 : Int) then
 bif v16 == (0 : Int) then
 bif decide (c0 > (0 : Int)) then
 kr false p0 p1 p2 p3 p4 p5 p6 p7 p8 q0 q1 q2 q3 q4 q5 q6 q7 q8 c0 c1 c2 c3 c4 c5 c6 c7 c8
 else
 rec v14 v15 (IntKind.wrap .i64 (v16 + (1 : Int))) p0 p1 p2 p3 p4 p5 p6 p7 p8 q0 q1 q2 q3 q4 q5 q6 q7 q8 c0 c1 c2 c3 c4 c5 c6 c7 c8
 else
 bif v16 == (1 : Int) then
 bif decide (c1 > (0 : Int)) then
 kr false p0 p1 p2 p3 p4 p5 p6 p7 p8 q0 q1 q2 q3 q4 q5 q6 q7 q8 c0 c1 c2 c3 c4 c5 c6 c7 c8
 else
 rec v14 v15 (IntKind.wrap .i64 (v16 + (1 : Int))) p0 p1 p2 p3 p4 p5 p6 p7 p8 q0 q1 q2 q3 q4 q5 q6 q7 q8 c0 c1 c2 c3 c4 c5 c6 c7 c8
 else
 bif v16 == (2 : Int) then
 bif decide (c2 > (0 : Int)) then
 kr false p0 p1 p2 p3 p4 p5 p6 p7 p8 q0 q1 q2 q3 q4 q5 q6 q7 q8 c0 c1 c2 c3 c4 c5 c6 c7 c8
 else
 rec v14 v15 (IntKind.wrap .i64 (v16 + (1 : Int))) p0 p1 p2 p3 p4 p5 p6 p7 p8 q0 q1 q2 q3 q4 q5 q6 q7 q8 c0 c1 c2 c3 c4 c5 c6 c7 c8
 else
 none
 else
 bif v14 == (1 : Int) then
 bif v16 == (0 : Int) then
 bif decide (c3 > (0 : Int)) then
 kr false p0 p1 p2 p3 p4 p5 p6 p7 p8 q0 q1 q2 q3 q4 q5 q6 q7 q8 c0 c1 c2 c3 c4 c5 c6 c7 c8
 else
 rec v14 v15 (IntKind.wrap .i64 (v16 + (1 : Int))) p0 p1 p2 p3 p4 p5 p6 p7 p8 q0 q1 q2 q3 q4 q5 q6 q7 q8 c0 c1 c2 c3 c4 c5 c6 c7 c8
 else
 bif v16 == (1 : Int) then
 bif decide (c4 > (0 : Int)) then
 kr false p0 p1 p2 p3 p4 p5 p6 p7 p8 q0 q1 q2 q3 q4 q5 q6 q7 q8 c0 c1 c2 c3 c4 c5 c6 c7 c8
 else
 rec v14 v15 (IntKind.wrap .i64 (v16 + (1 : Int))) p0 p1 p2 p3 p4 p5 p6 p7 p8 q0 q1 q2 q3 q4 q5 q6 q7 q8 c0 c1 c2 c3 c4 c5 c6 c7 c8
 else
 bif v16 == (2 : Int) then
 bif decide (c5 > (0 : Int)) then
 kr false p0 p1 p2 p3 p4 p5 p6 p7 p8 q0 q1 q2 q3 q4 q5 q6 q7 q8 c0 c1 c2 c3 c4 c5 c6 c7 c8
 else
 rec v14 v15 (IntKind.wrap .i64 (v16 + (1 : Int))) p0 p1 p2 p3 p4 p5 p6 p7 p8 q0 q1 q2 q3 q4 q5 q6 q7 q8 c0 c1 c2 c3 c4 c5 c6 c7 c8
 else
 none
 else
 bif v14 == (2 : Int) then
 bif v16 == (0 : Int) then
 bif decide (c6 > (0 : Int)) then
 kr false p0 p1 p2 p3 p4 p5 p6 p7 p8 q0 q1 q2 q3 q4 q5 q6 q7 q8 c0 c1 c2 c3 c4 c5 c6 c7 c8
 else
 rec v14 v15 (IntKind.wrap .i64 (v16 + (1 : Int))) p0 p1 p2 p3 p4 p5 p6 p7 p8 q0 q1 q2 q3 q4 q5 q6 q7 q8 c0 c1 c2 c3 c4 c5 c6 c7 c8
 else
 bif v16 == (1 : Int) then
 bif decide (c7 > (0 : Int)) then
 kr false p0 p1 p2 p3 p4 p5 p6 p7 p8 q0 q1 q2 q3 q4 q5 q6 q7 q8 c0 c1 c2 c3 c4 c5 c6 c7 c8
 else
 rec v14 v15 (IntKind.wrap .i64 (v16 + (1 : Int))) p0 p1 p2 p3 p4 p5 p6 p7 p8 q0 q1 q2 q3 q4 q5 q6 q7 q8 c0 c1 c2 c3 c4 c5 c6 c7 c8
 else
 bif v16 == (2 : Int) then
 bif decide (c8 > (0 : Int)) then
 kr false p0 p1 p2 p3 p4 p5 p6 p7 p8 q0 q1 q2 q3 q4 q5 q6 q7 q8 c0 c1 c2 c3 c4 c5 c6 c7 c8
 else
 rec v14 v15 (IntKind.wrap .i64 (v16 + (1 : Int))) p0 p1 p2 p3 p4 p5 p6 p7 p8 q0 q1 q2 q3 q4 q5 q6 q7 q8 c0 c1 c2 c3 c4 c5 c6 c7 c8
 else
 none
 else
 none
 else
 rec v14 v15 (IntKind.wrap .i64 (v16 + (1 : Int))) p0 p1 p2 p3 p4 p5 p6 p7 p8 q0 q1 q2 q3 q4 q5 q6 q7 q8 c0 c1 c2 c3 c4 c5 c6 c7 c8
 else
 none
 else
 bif v15 == (2 : Int) then
 bif v16 == (0 : Int) then
 bif decide (c6 ≤ (0 : Int)) then
 bif v14 == (0 : Int) then
 bif v16 == (0 : Int) then
 bif decide (c0 > (0 : Int)) then
 kr false p0 p1 p2 p3 p4 p5 p6 p7 p8 q0 q1 q2 q3 q4 q5 q6 q7 q8 c0 c1 c2 c3 c4 c5 c6 c7 c8
 else
 rec v14 v15 (IntKind.wrap .i64 (v16 + (1 : Int))) p0 p1 p2 p3 p4 p5 p6 p7 p8 q0 q1 q2 q3 q4 q5 q6 q7 q8 c0 c1 c2 c3 c4 c5 c6 c7 c8
 else
 bif v16 == (1 : Int) then
 bif decide (c1 > (0 : Int)) then
 kr false p0 p1 p2 p3 p4 p5 p6 p7 p8 q0 q1 q2 q3 q4 q5 q6 q7 q8 c0 c1 c2 c3 c4 c5 c6 c7 c8
 else
 rec v14 v15 (IntKind.wrap .i64 (v16 + (1 : Int))) p0 p1 p2 p3 p4 p5 p6 p7 p8 q0 q1 q2 q3 q4 q5 q6 q7 q8 c0 c1 c2 c3 c4 c5 c6 c7 c8
 else
 bif v16 == (2 : Int) then
 bif decide (c2 > (0 : Int)) then
 kr false p0 p1 p2 p3 p4 p5 p6 p7 p8 q0 q1 q2 q3 q4 q5 q6 q7 q8 c0 c1 c2 c3 c4 c5 c6 c7 c8
 else
 rec v14 v15 (IntKind.wrap .i64 (v16 + (1 : Int))) p0 p1 p2 p3 p4 p5 p6 p7 p8 q0 q1 q2 q3 q4 q5 q6 q7 q8 c0 c1 c2 c3 c4 c5 c6 c7 c8
 else
 none
 else
 bif v14 == (1 : Int) then
 bif v16 == (0 : Int) then
 bif decide (c3 > (0 : Int)) then
 kr false p0 p1 p2 p3 p4 p5 p6 p7 p8 q0 q1 q2 q3 q4 q5 q6 q7 q8 c0 c1 c2 c3 c4 c5 c6 c7 c8
 else
 rec v14 v15 (IntKind.wrap .i64 (v16 + (1 : Int))) p0 p1 p2 p3 p4 p5 p6 p7 p8 q0 q1 q2 q3 q4 q5 q6 q7 q8 c0 c1 c2 c3 c4 c5 c6 c7 c8
 else
 bif v16 == (1 : Int) then
 bif decide (c4 > (0 : Int)) then
 kr false p0 p1 p2 p3 p4 p5 p6 p7 p8 q0 q1 q2 q3 q4 q5 q6 q7 q8 c0 c1 c2 c3 c4 c5 c6 c7 c8
 else
 rec v14 v15 (IntKind.wrap .i64 (v16 + (1 : Int))) p0 p1 p2 p3 p4 p5 p6 p7 p8 q0 q1 q2 q3 q4 q5 q6 q7 q8 c0 c1 c2 c3 c4 c5 c6 c7 c8
 else
 bif v16 == (2 : Int) then
 bif decide (c5 > (0 : Int)) then
 kr false p0 p1 p2 p3 p4 p5 p6 p7 p8 q0 q1 q2 q3 q4 q5 q6 q7 q8 c0 c1 c2 c3 c4 c5 c6 c7 c8
 else
 rec v14 v15 (IntKind.wrap .i64 (v16 + (1 : Int))) p0 p1 p2 p3 p4 p5 p6 p7 p8 q0 q1 q2 q3 q4 q5 q6 q7 q8 c0 c1 c2 c3 c4 c5 c6 c7 c8
 else
 none
 else
 bif v14 == (2 : Int) then
 bif v16 == (0 : Int) then
 bif decide (c6 > (0 : Int)) then
 kr false p0 p1 p2 p3 p4 p5 p6 p7 p8 q0 q1 q2 q3 q4 q5 q6 q7 q8 c0 c1 c2 c3 c4 c5 c6 c7 c8
 else
 rec v14 v15 (IntKind.wrap .i64 (v16 + (1 : Int))) p0 p1 p2 p3 p4 p5 p6 p7 p8 q0 q1 q2 q3 q4 q5 q6 q7 q8 c0 c1 c2 c3 c4 c5 c6 c7 c8
 else
 bif v16 == (1 : Int) then
 bif decide (c7 > (0 : Int)) then
 kr false p0 p1 p2 p3 p4 p5 p6 p7 p8 q0 q1 q2 q3 q4 q5 q6 q7 q8 c0 c1 c2 c3 c4 c5 c6 c7 c8
 else
 rec v14 v15 (IntKind.wrap .i64 (v16 + (1 : Int))) p0 p1 p2 p3 p4 p5 p6 p7 p8 q0 q1 q2 q3 q4 q5 q6 q7 q8 c0 c1 c2 c3 c4 c5 c6 c7 c8
 else
 bif v16 == (2 : Int) then
 bif decide (c8 > (0 : Int)) then
 kr false p0 p1 p2 p3 p4 p5 p6 p7 p8 q0 q1 q2 q3 q4 q5 q6 q7 q8 c0 c1 c2 c3 c4 c5 c6 c7 c8
 else
 rec v14 v15 (IntKind.wrap .i64 (v16 + (1 : Int))) p0 p1 p2 p3 p4 p5 p6 p7 p8 q0 q1 q2 q3 q4 q5 q6 q7 q8 c0 c1 c2 c3 c4 c5 c6 c7 c8
 else
 none
 else
 none
 else
 rec v14 v15 (IntKind.wrap .i64 (v16 + (1 : Int))) p0 p1 p2 p3 p4 p5 p6 p7 p8 q0 q1 q2 q3 q4 q5 q6 q7 q8 c0 c1 c2 c3 c4 c5 c6 c7 c8
 else
 bif v16 == (1 : Int) then
 bif decide (c7 ≤ (0 : Int)) then
 bif v14 == (0 : Int) then
 bif v16 == (0 : Int) then
 bif decide (c0 > (0 : Int)) then
 kr false p0 p1 p2 p3 p4 p5 p6 p7 p8 q0 q1 q2 q3 q4 q5 q6 q7 q8 c0 c1 c2 c3 c4 c5 c6 c7 c8
 else
 rec v14 v15 (IntKind.wrap .i64 (v16 + (1 : Int))) p0 p1 p2 p3 p4 p5 p6 p7 p8 q0 q1 q2 q3 q4 q5 q6 q7 q8 c0 c1 c2 c3 c4 c5 c6 c7 c8
 else
 bif v16 == (1 : Int) then
 bif decide (c1 > (0 : Int)) then
 kr false p0 p1 p2 p3 p4 p5 p6 p7 p8 q0 q1 q2 q3 q4 q5 q6 q7 q8 c0 c1 c2 c3 c4 c5 c6 c7 c8
 else
 rec v14 v15 (IntKind.wrap .i64 (v16 + (1 : Int))) p0 p1 p2 p3 p4 p5 p6 p7 p8 q0 q1 q2 q3 q4 q5 q6 q7 q8 c0 c1 c2 c3 c4 c5 c6 c7 c8
 else
 bif v16 == (2 : Int) then
 bif decide (c2 > (0 : Int)) then
 kr false p0 p1 p2 p3 p4 p5 p6 p7 p8 q0 q1 q2 q3 q4 q5 q6 q7 q8 c0 c1 c2 c3 c4 c5 c6 c7 c8
 else
 rec v14 v15 (IntKind.wrap .i64 (v16 + (1 : Int))) p0 p1 p2 p3 p4 p5 p6 p7 p8 q0 q1 q2 q3 q4 q5 q6 q7 q8 c0 c1 c2 c3 c4 c5 c6 c7 c8
 else
 none
 else
 bif v14 == (1 : Int) then
 bif v16 == (0 : Int) then
 bif decide (c3 > (0 : Int)) then
 kr false p0 p1 p2 p3 p4 p5 p6 p7 p8 q0 q1 q2 q3 q4 q5 q6 q7 q8 c0 c1 c2 c3 c4 c5 c6 c7 c8
 else
 rec v14 v15 (IntKind.wrap .i64 (v16 + (1 : Int))) p0 p1 p2 p3 p4 p5 p6 p7 p8 q0 q1 q2 q3 q4 q5 q6 q7 q8 c0 c1 c2 c3 c4 c5 c6 c7 c8
 else
 bif v16 == (1 : Int) then
 bif decide (c4 > (0 : Int)) then
 kr false p0 p1 p2 p3 p4 p5 p6 p7 p8 q0 q1 q2 q3 q4 q5 q6 q7 q8 c0 c1 c2 c3 c4 c5 c6 c7 c8
 else
 rec v14 v15 (IntKind.wrap .i64 (v16 + (1 : Int))) p0 p1 p2 p3 p4 p5 p6 p7 p8 q0 q1 q2 q3 q4 q5 q6 q7 q8 c0 c1 c2 c3 c4 c5 c6 c7 c8
 else
 bif v16 == (2 : Int) then
 bif decide (c5 > (0 : Int)) then
 kr false p0 p1 p2 p3 p4 p5 p6 p7 p8 q0 q1 q2 q3 q4 q5 q6 q7 q8 c0 c1 c2 c3 c4 c5 c6 c7 c8
 else
 rec v14 v15 (IntKind.wrap .i64 (v16 + (1 : Int))) p0 p1 p2 p3 p4 p5 p6 p7 p8 q0 q1 q2 q3 q4 q5 q6 q7 q8 c0 c1 c2 c3 c4 c5 c6 c7 c8
 else
 none
 else
 bif v14 == (2 : Int) then
 bif v16 == (0 : Int) then
 bif decide (c6 > (0 : Int)) then
 kr false p0 p1 p2 p3 p4 p5 p6 p7 p8 q0 q1 q2 q3 q4 q5 q6 q7 q8 c0 c1 c2 c3 c4 c5 c6 c7 c8
 else
 rec v14 v15 (IntKind.wrap .i64 (v16 + (1 : Int))) p0 p1 p2 p3 p4 p5 p6 p7 p8 q0 q1 q2 q3 q4 q5 q6 q7 q8 c0 c1 c2 c3 c4 c5 c6 c7 c8
 else
 bif v16 == (1 : Int) then
 bif decide (c7 > (0 : Int)) then
 kr false p0 p1 p2 p3 p4 p5 p6 p7 p8 q0 q1 q2 q3 q4 q5 q6 q7 q8 c0 c1 c2 c3 c4 c5 c6 c7 c8
 else
 rec v14 v15 (IntKind.wrap .i64 (v16 + (1 : Int))) p0 p1 p2 p3 p4 p5 p6 p7 p8 q0 q1 q2 q3 q4 q5 q6 q7 q8 c0 c1 c2 c3 c4 c5 c6 c7 c8
 else
 bif v16 == (2 : Int) then
 bif decide (c8 > (0 : Int)) then
 kr false p0 p1 p2 p3 p4 p5 p6 p7 p8 q0 q1 q2 q3 q4 q5 q6 q7 q8 c0 c1 c2 c3 c4 c5 c6 c7 c8
 else
 rec v14 v15 (IntKind.wrap .i64 (v16 + (1 : Int))) p0 p1 p2 p3 p4 p5 p6 p7 p8 q0 q1 q2 q3 q4 q5 q6 q7 q8 c0 c1 c2 c3 c4 c5 c6 c7 c8
 else
 none
 else
 none
 else
 rec v14 v15 (IntKind.wrap .i64 (v16 + (1 : Int))) p0 p1 p2 p3 p4 p5 p6 p7 p8 q0 q1 q2 q3 q4 q5 q6 q7 q8 c0 c1 c2 c3 c4 c5 c6 c7 c8
 else
 bif v16 == (2 : Int) then
 bif decide (c8 ≤ (0 : Int)) then
 bif v14 == (0 : Int) then
 bif v16 == (0 : Int) then
 bif decide (c0 > (0 : Int)) then
 kr false p0 p1 p2 p3 p4 p5 p6 p7 p8 q0 q1 q2 q3 q4 q5 q6 q7 q8 c0 c1 c2 c3 c4 c5 c6 c7 c8
 else
 rec v14 v15 (IntKind.wrap .i64 (v16 + (1 : Int))) p0 p1 p2 p3 p4 p5 p6 p7 p8 q0 q1 q2 q3 q4 q5 q6 q7 q8 c0 c1 c2 c3 c4 c5 c6 c7 c8
 else
 bif v16 == (1 : Int) then
 bif decide (c1 > (0 : Int)) then
 kr false p0 p1 p2 p3 p4 p5 p6 p7 p8 q0 q1 q2 q3 q4 q5 q6 q7 q8 c0 c1 c2 c3 c4 c5 c6 c7 c8
 else
 rec v14 v15 (IntKind.wrap .i64 (v16 + (1 : Int))) p0 p1 p2 p3 p4 p5 p6 p7 p8 q0 q1 q2 q3 q4 q5 q6 q7 q8 c0 c1 c2 c3 c4 c5 c6 c7 c8
 else
 bif v16 == (2 : Int) then
 bif decide (c2 > (0 : Int)) then
 kr false p0 p1 p2 p3 p4 p5 p6 p7 p8 q0 q1 q2 q3 q4 q5 q6 q7 q8 c0 c1 c2 c3 c4 c5 c6 c7 c8
 else
 rec v14 v15 (IntKind.wrap .i64 (v16 + (1 : Int))) p0 p1 p2 p3 p4 p5 p6 p7 p8 q0 q1 q2 q3 q4 q5 q6 q7 q8 c0 c1 c2 c3 c4 c5 c6 c7 c8
 else
 none
 else
 bif v14 == (1 : Int) then
 bif v16 == (0 : Int) then
 bif decide (c3 > (0 : Int)) then
 kr false p0 p1 p2 p3 p4 p5 p6 p7 p8 q0 q1 q2 q3 q4 q5 q6 q7 q8 c0 c1 c2 c3 c4 c5 c6 c7 c8
 else
 rec v14 v15 (IntKind.wrap .i64 (v16 + (1 : Int))) p0 p1 p2 p3 p4 p5 p6 p7 p8 q0 q1 q2 q3 q4 q5 q6 q7 q8 c0 c1 c2 c3 c4 c5 c6 c7 c8
 else
 bif v16 == (1 : Int) then
 bif decide (c4 > (0 : Int)) then
 kr false p0 p1 p2 p3 p4 p5 p6 p7 p8 q0 q1 q2 q3 q4 q5 q6 q7 q8 c0 c1 c2 c3 c4 c5 c6 c7 c8
 else
 rec v14 v15 (IntKind.wrap .i64 (v16 + (1 : Int))) p0 p1 p2 p3 p4 p5 p6 p7 p8 q0 q1 q2 q3 q4 q5 q6 q7 q8 c0 c1 c2 c3 c4 c5 c6 c7 c8
 else
 bif v16 == (2 : Int) then
 bif decide (c5 > (0 : Int)) then
 kr false p0 p1 p2 p3 p4 p5 p6 p7 p8 q0 q1 q2 q3 q4 q5 q6 q7 q8 c0 c1 c2 c3 c4 c5 c6 c7 c8
 else
 rec v14 v15 (IntKind.wrap .i64 (v16 + (1 : Int))) p0 p1 p2 p3 p4 p5 p6 p7 p8 q0 q1 q2 q3 q4 q5 q6 q7 q8 c0 c1 c2 c3 c4 c5 c6 c7 c8
 else
 none
 else
 bif v14 == (2 : Int) then
 bif v16 == (0 : Int) then
 bif decide (c6 > (0 : Int)) then
 kr false p0 p1 p2 p3 p4 p5 p6 p7 p8 q0 q1 q2 q3 q4 q5 q6 q7 q8 c0 c1 c2 c3 c4 c5 c6 c7 c8
 else
 rec v14 v15 (IntKind.wrap .i64 (v16 + (1 : Int))) p0 p1 p2 p3 p4 p5 p6 p7 p8 q0 q1 q2 q3 q4 q5 q6 q7 q8 c0 c1 c2 c3 c4 c5 c6 c7 c8
 else
 bif v16 == (1 : Int) then
 bif decide (c7 > (0 : Int)) then
 kr false p0 p1 p2 p3 p4 p5 p6 p7 p8 q0 q1 q2 q3 q4 q5 q6 q7 q8 c0 c1 c2 c3 c4 c5 c6 c7 c8
 else
 rec v14 v15 (IntKind.wrap .i64 (v16 + (1 : Int))) p0 p1 p2 p3 p4 p5 p6 p7 p8 q0 q1 q2 q3 q4 q5 q6 q7 q8 c0 c1 c2 c3 c4 c5 c6 c7 c8
 else
 bif v16 == (2 : Int) then
 bif decide (c8 > (0 : Int)) then
 kr false p0 p1 p2 p3 p4 p5 p6 p7 p8 q0 q1 q2 q3 q4 q5 q6 q7 q8 c0 c1 c2 c3 c4 c5 c6 c7 c8
 else
 rec v14 v15 (IntKind.wrap .i64 (v16 + (1 : Int))) p0 p1 p2 p3 p4 p5 p6 p7 p8 q0 q1 q2 q3 q4 q5 q6 q7 q8 c0 c1 c2 c3 c4 c5 c6 c7 c8
 else
 none
 else
 none
 else
 rec v14 v15 (IntKind.wrap .i64 (v16 + (1 : Int))) p0 p1 p2 p3 p4 p5 p6 p7 p8 q0 q1 q2 q3 q4 q5 q6 q7 q8 c0 c1 c2 c3 c4 c5 c6 c7 c8
 else
 none
 else
 none
 else
 rec v14 v15 (IntKind.wrap .i64 (v16 + (1 : Int))) p0 p1 p2 p3 p4 p5 p6 p7 p8 q0 q1 q2 q3 q4 q5 q6 q7 q8 c0 c1 c2 c3 c4 c5 c6 c7 c8
 else
 none
 else
 none
 else
 k10 v14 v15 p0 p1 p2 p3 p4 p5 p6 p7 p8 q0 q1 q2 q3 q4 q5 q6 q7 q8 c0 c1 c2 c3 c4 c5 c6 c7 c8
noncomputable def F.law03_DecOrders.L32 {X : Type} (n : Nat) (k10 : Int → Int → Bool → Int → Int → Bool → Int → Int → Bool → Int → Int → Bool → Int → Int → Bool → Int → Int → Bool → Int → Int → Int → Int → Int → Int → Int → Int → Int → Int → Int → Option X) (kr : Bool → Bool → Int → Int → Bool → Int → Int → Bool → Int → Int → Bool → Int → Int → Bool → Int → Int → Bool → Int → Int → Int → Int → Int → Int → Int → Int → Int → Int → Int → Option X) : Nat → Int → Int → Int → Bool → Int → Int → Bool → Int → Int → Bool → Int → Int → Bool → Int → Int → Bool → Int → Int → Bool → Int → Int → Int → Int → Int → Int → Int → Int → Int → Int → Int → Option X
 | 0 => fun _ _ _ _ _ _ _ _ _ _ _ _ _ _ _ _ _ _ _ _ _ _ _ _ _ _ _ _ _ _ => none
 | m + 1 => fun v14 v15 v16 p0 p1 p2 p3 p4 p5 p6 p7 p8 q0 q1 q2 q3 q4 q5 q6 q7 q8 c0 c1 c2 c3 c4 c5 c6 c7 c8 => F.law03_DecOrders.L32.step n (F.law03_DecOrders.L32 n k10 kr m) k10 kr v14 v15 v16 p0 p1 p2 p3 p4 p5 p6 p7 p8 q0 q1 q2 q3 q4 q5 q6 q7 q8 c0 c1 c2 c3 c4 c5 c6 c7 c8
noncomputable def F.law03_DecOrders.C31 {X : Type} (n : Nat) (kr : Bool → Bool → Int → Int → Bool → Int → Int → Bool → Int → Int → Bool → Int → Int → Bool → Int → Int → Bool → Int → Int → Int → Int → Int → Int → Int → Int → Int → Int → Int → Option X) (kn : Int → Int → Bool → Int → Int → Bool → Int → Int → Bool → Int → Int → Bool → Int → Int → Bool → Int → Int → Bool → Int → Int → Int → Int → Int → Int → Int → Int → Int → Int → Int → Option X) (c14 : Int) (c15 : Int) (p0 : Bool) (p1 : Int) (p2 : Int) (p3 : Bool) (p4 : Int) (p5 : Int) (p6 : Bool) (p7 : Int) (p8 : Int) (q0 : Bool) (q1 : Int) (q2 : Int) (q3 : Bool) (q4 : Int) (q5 : Int) (q6 : Bool) (q7 : Int) (q8 : Int) (w0 : Int) (w1 : Int) (w2 : Int) (w3 : Int) (w4 : Int) (w5 : Int) (w6 : Int) (w7 : Int) (w8 : Int) : Option X :=
 F.law03_DecOrders.L32 n
 (fun e14 e15 r0 r1 r2 r3 r4 r5 r6 r7 r8 s0 s1 s2 s3 s4 s5 s6 s7 s8 t0 t1 t2 t3 t4 t5 t6 t7 t8 =>
 kn e14 e15 r0 r1 r2 r3 r4 r5 r6 r7 r8 s0 s1 s2 s3 s4 s5 s6 s7 s8 t0 t1 t2 t3 t4 t5 t6 t7 t8)
 (fun e2 r0 r1 r2 r3 r4 r5 r6 r7 r8 s0 s1 s2 s3 s4 s5 s6 s7 s8 t0 t1 t2 t3 t4 t5 t6 t7 t8 =>
 kr e2 r0 r1 r2 r3 r4 r5 r6 r7 r8 s0 s1 s2 s3 s4 s5 s6 s7 s8 t0 t1 t2 t3 t4 t5 t6 t7 t8) n c14 c15 (0 : Int) p0 p1 p2 p3 p4 p5 p6 p7 p8 q0 q1 q2 q3 q4 q5 q6 q7 q8 w0 w1 w2 w3 w4 w5 w6 w7 w8
end Go.AM
