/- Part 4 of a proof by the abstract machine. -/
import Derived.Test.YtihjdbcmbpoifaaGreatDoorQ3
import Derived.KernelRfl
import Derived.Test.YtihjdbcmbpoifaaGreatDoorRows
import Derived.Test.YtihjdbcmbpoifaaGreatDoorProg
import Derived.WalkKit
import Derived.BigCall
import Derived.BigGuard
import Derived.Shelf.Spec.BitsCarry
import Derived.Lib.ItoaNum
import Derived.Lib.ItoaLen
import Derived.Lib.AtoiAll
import Derived.Lib.TrimByte
set_option linter.unusedVariables false
set_option maxRecDepth 100000
namespace Go.AM
open Go.Proofs Go.RowKit
open Go.Proofs.YtihjdbcmbpoifaaGreatDoor
def SI : World → Prop := LaidI Tryz.prog Rows.statsdWordsRow.laid
def SW : World → Prop := WOf SI
theorem swTab {w : World} (h : SW w) : Lib.TabIs Tryz.prog w (Rows.statsdWordsRow.laid.getD 2 ("", .nil)).1 .u64 Lib.pow10Tab := by
  obtain ⟨w0, h1, h2, h3⟩ := h
  exact tab_on (laid_tab h1 (by kernel_rfl) 2 (by kernel_rfl) (g := 1) (by kernel_rfl) (by kernel_rfl) Tryz.underlying160 Tryz.underlying47 (by kernel_rfl) (by kernel_rfl)) h2 h3
theorem mixed : Tryz.prog.follows .mixedOrders = true := by kernel_rfl
def tab : Tree TI := .node 60 (.node 29 (.node 22 (.node 5 (.node 4 (.one 3 ⟨.int .i64, 1, 8, false, [(.int .i64 (0 : Int))], some (.int .i64), false⟩) (.one 4 ⟨.bool, 1, 1, false, [(.bool false)], some .bool, false⟩)) (.node 9 (.one 5 ⟨.int .u8, 1, 1, false, [(.int .u8 (0 : Int))], some .u8, false⟩) (.one 9 ⟨.str, 1, 16, false, [(.str [])], some .str, false⟩))) (.node 25 (.node 23 (.one 22 ⟨.slice 49, 1, 24, false, [.sl (.agg [.bool, (.int .u64), (.int .i64)]) [] .full], some (.sl (.agg [.bool, (.int .u64), (.int .i64)])), false⟩) (.one 23 ⟨.slice 54, 1, 24, false, [.sl (.agg [.str, .str]) [] .full], some (.sl (.agg [.str, .str])), false⟩)) (.node 27 (.one 25 ⟨.struct [(0, 9), (1, 3), (2, 22), (3, 3), (4, 23), (5, 3)], 6, 88, true, [(.str []), (.int .i64 (0 : Int)), .sl (.agg [.bool, (.int .u64), (.int .i64)]) [] .full, (.int .i64 (0 : Int)), .sl (.agg [.str, .str]) [] .full, (.int .i64 (0 : Int))], some (.agg [.str, (.int .i64), (.sl (.agg [.bool, (.int .u64), (.int .i64)])), (.int .i64), (.sl (.agg [.str, .str])), (.int .i64)]), false⟩) (.node 28 (.one 27 ⟨.func, 1, 8, false, [.nilfn], none, false⟩) (.one 28 ⟨.int .i64, 1, 8, false, [(.int .i64 (0 : Int))], some (.int .i64), false⟩))))) (.node 45 (.node 35 (.node 34 (.one 29 ⟨.other, 1, 0, false, [.any], none, false⟩) (.one 34 ⟨.struct [(0, 28), (1, 3)], 2, 16, true, [(.int .i64 (0 : Int)), (.int .i64 (0 : Int))], some (.agg [(.int .i64), (.int .i64)]), true⟩)) (.node 41 (.one 35 ⟨.other, 1, 0, false, [.any], none, false⟩) (.one 41 ⟨.other, 1, 0, false, [.any], none, false⟩))) (.node 49 (.node 47 (.one 45 ⟨.arr 3 3, 3, 24, true, [(.int .i64 (0 : Int)), (.int .i64 (0 : Int)), (.int .i64 (0 : Int))], some (.agg [(.int .i64), (.int .i64), (.int .i64)]), false⟩) (.one 47 ⟨.int .u64, 1, 8, false, [(.int .u64 (0 : Int))], some (.int .u64), false⟩)) (.node 54 (.one 49 ⟨.struct [(0, 4), (1, 47), (2, 3)], 3, 24, true, [(.bool false), (.int .u64 (0 : Int)), (.int .i64 (0 : Int))], some (.agg [.bool, (.int .u64), (.int .i64)]), true⟩) (.node 58 (.one 54 ⟨.struct [(0, 9), (1, 9)], 2, 32, true, [(.str []), (.str [])], some (.agg [.str, .str]), true⟩) (.one 58 ⟨.other, 1, 0, false, [.any], none, false⟩)))))) (.node 97 (.node 70 (.node 64 (.node 61 (.one 60 ⟨.func, 1, 8, false, [.nilfn], none, false⟩) (.one 61 ⟨.other, 1, 0, false, [.any], none, false⟩)) (.node 67 (.one 64 ⟨.other, 1, 0, false, [.any], none, false⟩) (.one 67 ⟨.other, 1, 0, false, [.any], none, false⟩))) (.node 91 (.node 84 (.one 70 ⟨.other, 1, 0, false, [.any], none, false⟩) (.one 84 ⟨.struct [(0, 25)], 6, 88, true, [(.str []), (.int .i64 (0 : Int)), .sl (.agg [.bool, (.int .u64), (.int .i64)]) [] .full, (.int .i64 (0 : Int)), .sl (.agg [.str, .str]) [] .full, (.int .i64 (0 : Int))], some (.agg [(.agg [.str, (.int .i64), (.sl (.agg [.bool, (.int .u64), (.int .i64)])), (.int .i64), (.sl (.agg [.str, .str])), (.int .i64)])]), false⟩)) (.node 93 (.one 91 ⟨.other, 1, 0, false, [.any], none, false⟩) (.node 95 (.one 93 ⟨.other, 1, 0, false, [.any], none, false⟩) (.one 95 ⟨.arr 2 5, 2, 2, true, [(.int .u8 (0 : Int)), (.int .u8 (0 : Int))], some (.agg [.u8, .u8]), false⟩))))) (.node 127 (.node 102 (.node 99 (.one 97 ⟨.func, 1, 8, false, [.nilfn], none, false⟩) (.one 99 ⟨.other, 1, 0, false, [.any], none, false⟩)) (.node 126 (.one 102 ⟨.other, 1, 0, false, [.any], none, false⟩) (.one 126 ⟨.struct [(0, 25)], 6, 88, true, [(.str []), (.int .i64 (0 : Int)), .sl (.agg [.bool, (.int .u64), (.int .i64)]) [] .full, (.int .i64 (0 : Int)), .sl (.agg [.str, .str]) [] .full, (.int .i64 (0 : Int))], some (.agg [(.agg [.str, (.int .i64), (.sl (.agg [.bool, (.int .u64), (.int .i64)])), (.int .i64), (.sl (.agg [.str, .str])), (.int .i64)])]), false⟩))) (.node 134 (.node 128 (.one 127 ⟨.struct [(0, 27), (1, 28)], 2, 16, true, [.nilfn, (.int .i64 (0 : Int))], none, false⟩) (.one 128 ⟨.arr 6 127, 12, 96, true, [.nilfn, (.int .i64 (0 : Int)), .nilfn, (.int .i64 (0 : Int)), .nilfn, (.int .i64 (0 : Int)), .nilfn, (.int .i64 (0 : Int)), .nilfn, (.int .i64 (0 : Int)), .nilfn, (.int .i64 (0 : Int))], none, false⟩)) (.node 153 (.one 134 ⟨.other, 1, 0, false, [.any], none, false⟩) (.node 155 (.one 153 ⟨.func, 1, 8, false, [.nilfn], none, false⟩) (.one 155 ⟨.func, 1, 8, false, [.nilfn], none, false⟩))))))
theorem tab_ok : tab.all (tiOK Tryz.prog) = true := by kernel_rfl
theorem ok17 (n : Nat) : FnOK Tryz.prog SW 17 [(.int .i64)] (.many [.str, (.int .i64)]) (fun x => O.word n x.1) := word_ok (enters Tryz.func17 (by kernel_rfl) (by decide)) Tryz.statsd_Word n
theorem ok106 (n : Nat) : FnOK Tryz.prog SW 106 [(.int .u64), (.int .u64)] (.many [(.int .u64), (.int .u64)]) (fun x => O.mul64 n x.1 x.2.1) := mul64_ok (enters Tryz.func106 (by kernel_rfl) (by decide)) Tryz.bits_Mul64 n
theorem ok107 (n : Nat) : FnOK Tryz.prog SW 107 [(.int .u64), (.int .u64), (.int .u64)] (.many [(.int .u64), (.int .u64)]) (fun x => O.add64 n x.1 x.2.1 x.2.2.1) := add64_ok (fun x y c hx hy hc w => by rw [run_callFunc_extern Tryz.func107 (by kernel_rfl) (by kernel_rfl) (by kernel_rfl) (e := Go.add64Entry) (by kernel_rfl), Go.run_add64 x y c (by omega) (by omega) (by omega) (by omega)]; simp only [Result.andThen]; congr 5 <;> omega) n
noncomputable def cx63 (X : Type) (n : Nat) : Cx X := mkCx tab.get [(63, Tryz.f63)] [(106, orcOf [(.int .u64), (.int .u64)] (.many [(.int .u64), (.int .u64)]) (fun x => O.mul64 n x.1 x.2.1)), (107, orcOf [(.int .u64), (.int .u64), (.int .u64)] (.many [(.int .u64), (.int .u64)]) (fun x => O.add64 n x.1 x.2.1 x.2.2.1))] [] [] [] []
theorem cx63_ok (X : Type) (n : Nat) : CxOK Tryz.prog SW (cx63 X n) := mkCx_ok mixed (tabOK tab_ok) ⟨⟨Tryz.func63, by decide⟩, trivial⟩ ⟨orcOf_ok (ok106 n),
  orcOf_ok (ok107 n), trivial⟩ ⟨okC_mk (fun _ => rfl) (by kernel_rfl) (castP (by kernel_rfl) (show True from trivial)) (castP (by kernel_rfl) (show True from trivial)), trivial⟩ trivial
theorem ok63 (n : Nat) : FnOK Tryz.prog SW 63 [(.int .u64), (.int .u64)] (.many [(.int .u64), .bool]) (fun x => F.dec_times n x.1 x.2.1) := fnOK_of WOf.st (cx63_ok _ n) (d := 8) (fun x => by kernel_rfl)
def F.dec_Normal.L3.head : Shape := ⟨[(1, (.const (.ref 0 0))), (2, (.const (.ref 1 0)))], [[.bool, (.int .u64), (.int .i64)], [.bool, (.int .u64), (.int .i64)]], [], [], [], 2, 0, 0⟩
def F.dec_Normal.L3.e0 : Shape := ⟨[(1, (.const (.ref 0 0))), (2, (.const (.ref 1 0)))], [[.bool, (.int .u64), (.int .i64)], [.bool, (.int .u64), (.int .i64)]], [], [], [], 2, 0, 0⟩
noncomputable def F.dec_Normal.L3.f {X : Type} (n m : Nat) (ks : Ks X) (s : F.dec_Normal.L3.head.den) : Option X := F.dec_Normal.L3 n (fun qb0_0 qb0_1 qb0_2 qb1_0 qb1_1 qb1_2 => ks.ex 0 (F.dec_Normal.L3.e0.e (((), (), ()), ((qb0_0, qb0_1, qb0_2, ()), (qb1_0, qb1_1, qb1_2, ()), ()), (), ())) (F.dec_Normal.L3.e0.h (((), (), ()), ((qb0_0, qb0_1, qb0_2, ()), (qb1_0, qb1_1, qb1_2, ()), ()), (), ()))) m s.2.1.1.1 s.2.1.1.2.1 s.2.1.1.2.2.1 s.2.1.2.1.1 s.2.1.2.1.2.1 s.2.1.2.1.2.2.1
noncomputable def F.dec_Normal.L3.li (X : Type) (n : Nat) : LoopI X := ⟨8, ⟨0, 0, 0⟩, F.dec_Normal.L3.head, [(0, F.dec_Normal.L3.e0)], none, F.dec_Normal.L3.f n n⟩
def F.dec_Normal.L5.head : Shape := ⟨[(1, (.const (.ref 0 0))), (2, (.const (.ref 1 0)))], [[.bool, (.int .u64), (.int .i64)], [.bool, (.int .u64), (.int .i64)]], [], [], [], 2, 0, 0⟩
def F.dec_Normal.L5.e2 : Shape := ⟨[(1, (.const (.ref 0 0))), (2, (.const (.ref 1 0)))], [[.bool, (.int .u64), (.int .i64)], [.bool, (.int .u64), (.int .i64)]], [], [], [], 2, 0, 0⟩
def F.dec_Normal.L5.er : Shape := ⟨[(2, (.const (.ref 1 0))), (3, (.int .i64))], [[.bool, (.int .u64), (.int .i64)], [.bool, (.int .u64), (.int .i64)]], [], [], [], 2, 0, 0⟩
noncomputable def F.dec_Normal.L5.f {X : Type} (n m : Nat) (ks : Ks X) (s : F.dec_Normal.L5.head.den) : Option X := F.dec_Normal.L5 n (fun qb0_0 qb0_1 qb0_2 qb1_0 qb1_1 qb1_2 => ks.ex 2 (F.dec_Normal.L5.e2.e (((), (), ()), ((qb0_0, qb0_1, qb0_2, ()), (qb1_0, qb1_1, qb1_2, ()), ()), (), ())) (F.dec_Normal.L5.e2.h (((), (), ()), ((qb0_0, qb0_1, qb0_2, ()), (qb1_0, qb1_1, qb1_2, ()), ()), (), ()))) (fun q3 qb0_0 qb0_1 qb0_2 qb1_0 qb1_1 qb1_2 => ks.ret (F.dec_Normal.L5.er.e (((), q3, ()), ((qb0_0, qb0_1, qb0_2, ()), (qb1_0, qb1_1, qb1_2, ()), ()), (), ())) (F.dec_Normal.L5.er.h (((), q3, ()), ((qb0_0, qb0_1, qb0_2, ()), (qb1_0, qb1_1, qb1_2, ()), ()), (), ()))) m s.2.1.1.1 s.2.1.1.2.1 s.2.1.1.2.2.1 s.2.1.2.1.1 s.2.1.2.1.2.1 s.2.1.2.1.2.2.1
noncomputable def F.dec_Normal.L5.li (X : Type) (n : Nat) : LoopI X := ⟨8, ⟨0, 0, 0⟩, F.dec_Normal.L5.head, [(2, F.dec_Normal.L5.e2)], some F.dec_Normal.L5.er, F.dec_Normal.L5.f n n⟩
noncomputable def cx64 (X : Type) (n : Nat) : Cx X := mkCx tab.get [(64, Tryz.f64)] [(63, orcOf [(.int .u64), (.int .u64)] (.many [(.int .u64), .bool]) (fun x => F.dec_times n x.1 x.2.1))] [(64, 3, [F.dec_Normal.L3.li X n]), (64, 5, [F.dec_Normal.L5.li X n])] [] [] []
theorem F.dec_Normal.L3.ok (X : Type) (n : Nat) : LoopOK (cx64 X n) 64 Tryz.f64.ntmps (loopNo Tryz.f64 0) (F.dec_Normal.L3.li X n) :=
  ⟨F.dec_Normal.L3.f n, n, fun _ _ => rfl, fun _ _ => rfl, fun m ks s => by kernel_rfl⟩
theorem F.dec_Normal.L5.ok (X : Type) (n : Nat) : LoopOK (cx64 X n) 64 Tryz.f64.ntmps (loopNo Tryz.f64 1) (F.dec_Normal.L5.li X n) :=
  ⟨F.dec_Normal.L5.f n, n, fun _ _ => rfl, fun _ _ => rfl, fun m ks s => by kernel_rfl⟩
theorem cx64_ok (X : Type) (n : Nat) : CxOK Tryz.prog SW (cx64 X n) := mkCx_ok mixed (tabOK tab_ok) ⟨⟨Tryz.func64, by decide⟩, trivial⟩ ⟨orcOf_ok (ok63 n), trivial⟩ ⟨okC_mk (fun _ => rfl) (by kernel_rfl) (castP (by kernel_rfl) (show (LoopOK (cx64 X n) 64 Tryz.f64.ntmps (loopNo Tryz.f64 0) (F.dec_Normal.L3.li X n) ∧ True) ∧ (LoopOK (cx64 X n) 64 Tryz.f64.ntmps (loopNo Tryz.f64 1) (F.dec_Normal.L5.li X n) ∧ True) ∧ True from ⟨⟨F.dec_Normal.L3.ok X n, trivial⟩, ⟨F.dec_Normal.L5.ok X n, trivial⟩, trivial⟩)) (castP (by kernel_rfl) (show True from trivial)), trivial⟩ trivial
theorem ok64 (n : Nat) : FnOK Tryz.prog SW 64 [(.agg [.bool, (.int .u64), (.int .i64)])] (.many [(.agg [.bool, (.int .u64), (.int .i64)]), (.int .i64)]) (fun x => F.dec_Normal n x.1) := fnOK_of WOf.st (cx64_ok _ n) (d := 8) (fun x => by kernel_rfl)
noncomputable def cx44 (X : Type) (n : Nat) : Cx X := mkCx tab.get [(44, Tryz.f44)] [(64, orcOf [(.agg [.bool, (.int .u64), (.int .i64)])] (.many [(.agg [.bool, (.int .u64), (.int .i64)]), (.int .i64)]) (fun x => F.dec_Normal n x.1))] [] [] [] []
theorem cx44_ok (X : Type) (n : Nat) : CxOK Tryz.prog SW (cx44 X n) := mkCx_ok mixed (tabOK tab_ok) ⟨⟨Tryz.func44, by decide⟩, trivial⟩ ⟨orcOf_ok (ok64 n), trivial⟩ ⟨okC_mk (fun _ => rfl) (by kernel_rfl) (castP (by kernel_rfl) (show True from trivial)) (castP (by kernel_rfl) (show True from trivial)), trivial⟩ trivial
theorem ok44 (n : Nat) : FnOK Tryz.prog SW 44 [(.agg [.bool, (.int .u64), (.int .i64)])] (.one (.int .i64)) (fun x => F.dec_Check n x.1) := fnOK_of WOf.st (cx44_ok _ n) (d := 8) (fun x => by kernel_rfl)
theorem ok45 (n : Nat) : FnOK Tryz.prog SW 45 [(.int .u64), (.int .i64)] (.one .str) (fun x => O.futoa n x.1 x.2.1) := futoa_ok (enters Tryz.func45 (by kernel_rfl) (by decide)) (fun k hk w hw => (Tryz.strconv_FormatUint_10 k hk w (swTab hw)).mono fun e w' ⟨a, q, os, b⟩ => ⟨a, b ▸ below_grow q os⟩) n
theorem ok46 (n : Nat) : FnOK Tryz.prog SW 46 [.str, (.int .i64)] (.one .str) (fun x => O.repeat' n x.1 x.2.1) := repeat_ok (enters Tryz.func46 (by kernel_rfl) (by decide)) Tryz.strings_Repeat n
noncomputable def cx21 (X : Type) (n : Nat) : Cx X := mkCx tab.get [(21, Tryz.f21)] [(44, orcOf [(.agg [.bool, (.int .u64), (.int .i64)])] (.one (.int .i64)) (fun x => F.dec_Check n x.1)), (45, orcOf [(.int .u64), (.int .i64)] (.one .str) (fun x => O.futoa n x.1 x.2.1)), (46, orcOf [.str, (.int .i64)] (.one .str) (fun x => O.repeat' n x.1 x.2.1))] [] [] [] []
theorem cx21_ok (X : Type) (n : Nat) : CxOK Tryz.prog SW (cx21 X n) := mkCx_ok mixed (tabOK tab_ok) ⟨⟨Tryz.func21, by decide⟩, trivial⟩ ⟨orcOf_ok (ok44 n),
  orcOf_ok (ok45 n),
  orcOf_ok (ok46 n), trivial⟩ ⟨okC_mk (fun _ => rfl) (by kernel_rfl) (castP (by kernel_rfl) (show True from trivial)) (castP (by kernel_rfl) (show True from trivial)), trivial⟩ trivial
theorem ok21 (n : Nat) : FnOK Tryz.prog SW 21 [(.agg [.bool, (.int .u64), (.int .i64)])] (.many [.str, (.int .i64)]) (fun x => F.dec_Text n x.1) := fnOK_of WOf.st (cx21_ok _ n) (d := 8) (fun x => by kernel_rfl)
theorem ok47 (n : Nat) : FnOK Tryz.prog SW 47 [(.int .i64)] (.one .str) (fun x => O.itoa n x.1) := itoa_ok (enters Tryz.func47 (by kernel_rfl) (by decide)) (fun k h0 h1 w hw => (Tryz.strconv_Itoa k h0 h1 w (swTab hw)).mono fun e w' ⟨a, q, os, b⟩ => ⟨a, b ▸ below_grow q os⟩) n
theorem ok48 (n : Nat) : FnOK Tryz.prog SW 48 [.str, .str] (.one .str) (fun x => O.trimR n x.1 x.2.1) := trimR_ok (enters Tryz.func48 (by kernel_rfl) (by decide)) Tryz.strings_TrimRight_one n
noncomputable def cx23 (X : Type) (n : Nat) : Cx X := mkCx tab.get [(23, Tryz.f23)] [(47, orcOf [(.int .i64)] (.one .str) (fun x => O.itoa n x.1)), (48, orcOf [.str, .str] (.one .str) (fun x => O.trimR n x.1 x.2.1))] [] [] [] []
theorem cx23_ok (X : Type) (n : Nat) : CxOK Tryz.prog SW (cx23 X n) := mkCx_ok mixed (tabOK tab_ok) ⟨⟨Tryz.func23, by decide⟩, trivial⟩ ⟨orcOf_ok (ok47 n),
  orcOf_ok (ok48 n), trivial⟩ ⟨okC_mk (fun _ => rfl) (by kernel_rfl) (castP (by kernel_rfl) (show True from trivial)) (castP (by kernel_rfl) (show True from trivial)), trivial⟩ trivial
theorem ok23 (n : Nat) : FnOK Tryz.prog SW 23 [(.int .i64)] (.many [.str, (.int .i64)]) (fun x => F.num_RateText n x.1) := fnOK_of WOf.st (cx23_ok _ n) (d := 8) (fun x => by kernel_rfl)
noncomputable def cx99 (X : Type) (n : Nat) : Cx X := mkCx tab.get [(99, Tryz.f99)] [] [] [] [] []
theorem cx99_ok (X : Type) (n : Nat) : CxOK Tryz.prog SW (cx99 X n) := mkCx_ok mixed (tabOK tab_ok) ⟨⟨Tryz.func99, by decide⟩, trivial⟩ trivial ⟨okC_mk (fun _ => rfl) (by kernel_rfl) (castP (by kernel_rfl) (show True from trivial)) (castP (by kernel_rfl) (show True from trivial)), trivial⟩ trivial
theorem ok99 (n : Nat) : FnOK Tryz.prog SW 99 [(.int .i64)] (.one .bool) (fun x => F.class_may n x.1) := fnOK_of WOf.st (cx99_ok _ n) (d := 8) (fun x => by kernel_rfl)
noncomputable def cx134 (X : Type) (n : Nat) : Cx X := mkCx tab.get [(134, Tryz.f134)] [] [] [] [] []
theorem cx134_ok (X : Type) (n : Nat) : CxOK Tryz.prog SW (cx134 X n) := mkCx_ok mixed (tabOK tab_ok) ⟨⟨Tryz.func134, by decide⟩, trivial⟩ trivial ⟨okC_mk (fun _ => rfl) (by kernel_rfl) (castP (by kernel_rfl) (show True from trivial)) (castP (by kernel_rfl) (show True from trivial)), trivial⟩ trivial
theorem ok134 (n : Nat) : FnOK Tryz.prog SW 134 [(.int .u8), (.int .u8), (.int .u8)] (.one .bool) (fun x => F.class_between n x.1 x.2.1 x.2.2.1) := fnOK_of WOf.st (cx134_ok _ n) (d := 8) (fun x => by kernel_rfl)
noncomputable def cx100 (X : Type) (n : Nat) : Cx X := mkCx tab.get [(100, Tryz.f100)] [(134, orcOf [(.int .u8), (.int .u8), (.int .u8)] (.one .bool) (fun x => F.class_between n x.1 x.2.1 x.2.2.1))] [] [] [] []
theorem cx100_ok (X : Type) (n : Nat) : CxOK Tryz.prog SW (cx100 X n) := mkCx_ok mixed (tabOK tab_ok) ⟨⟨Tryz.func100, by decide⟩, trivial⟩ ⟨orcOf_ok (ok134 n), trivial⟩ ⟨okC_mk (fun _ => rfl) (by kernel_rfl) (castP (by kernel_rfl) (show True from trivial)) (castP (by kernel_rfl) (show True from trivial)), trivial⟩ trivial
theorem ok100 (n : Nat) : FnOK Tryz.prog SW 100 [(.int .i64), (.int .u8)] (.one .bool) (fun x => F.class_Is n x.1 x.2.1) := fnOK_of WOf.st (cx100_ok _ n) (d := 8) (fun x => by kernel_rfl)
def F.class_Bad.L4.head : Shape := ⟨[(0, (.int .i64)), (1, .str), (11, (.int .i64)), (12, (.int .i64))], [], [], [], [], 0, 0, 0⟩
def F.class_Bad.L4.e0 : Shape := ⟨[], [], [], [], [], 0, 0, 0⟩
def F.class_Bad.L4.er : Shape := ⟨[(4, (.int .i64)), (5, (.int .i64))], [], [], [], [], 0, 0, 0⟩
noncomputable def F.class_Bad.L4.f {X : Type} (n m : Nat) (ks : Ks X) (s : F.class_Bad.L4.head.den) : Option X := F.class_Bad.L4 n (fun (_ : Unit) => ks.ex 0 (F.class_Bad.L4.e0.e ((), (), (), ())) (F.class_Bad.L4.e0.h ((), (), (), ()))) (fun q4 q5 => ks.ret (F.class_Bad.L4.er.e ((q4, q5, ()), (), (), ())) (F.class_Bad.L4.er.h ((q4, q5, ()), (), (), ()))) m s.1.1 s.1.2.1 s.1.2.2.1 s.1.2.2.2.1
noncomputable def F.class_Bad.L4.li (X : Type) (n : Nat) : LoopI X := ⟨8, ⟨0, 0, 0⟩, F.class_Bad.L4.head, [(0, F.class_Bad.L4.e0)], some F.class_Bad.L4.er, F.class_Bad.L4.f n n⟩
noncomputable def cx59 (X : Type) (n : Nat) : Cx X := mkCx tab.get [(59, Tryz.f59)] [(99, orcOf [(.int .i64)] (.one .bool) (fun x => F.class_may n x.1)), (100, orcOf [(.int .i64), (.int .u8)] (.one .bool) (fun x => F.class_Is n x.1 x.2.1))] [(59, 4, [F.class_Bad.L4.li X n])] [] [] []
theorem F.class_Bad.L4.ok (X : Type) (n : Nat) : LoopOK (cx59 X n) 59 Tryz.f59.ntmps (loopNo Tryz.f59 0) (F.class_Bad.L4.li X n) :=
  ⟨F.class_Bad.L4.f n, n, fun _ _ => rfl, fun _ _ => rfl, fun m ks s => by kernel_rfl⟩
theorem cx59_ok (X : Type) (n : Nat) : CxOK Tryz.prog SW (cx59 X n) := mkCx_ok mixed (tabOK tab_ok) ⟨⟨Tryz.func59, by decide⟩, trivial⟩ ⟨orcOf_ok (ok99 n),
  orcOf_ok (ok100 n), trivial⟩ ⟨okC_mk (fun _ => rfl) (by kernel_rfl) (castP (by kernel_rfl) (show (LoopOK (cx59 X n) 59 Tryz.f59.ntmps (loopNo Tryz.f59 0) (F.class_Bad.L4.li X n) ∧ True) ∧ True from ⟨⟨F.class_Bad.L4.ok X n, trivial⟩, trivial⟩)) (castP (by kernel_rfl) (show True from trivial)), trivial⟩ trivial
theorem ok59 (n : Nat) : FnOK Tryz.prog SW 59 [(.int .i64), .str] (.many [(.int .i64), (.int .i64)]) (fun x => F.class_Bad n x.1 x.2.1) := fnOK_of WOf.st (cx59_ok _ n) (d := 8) (fun x => by kernel_rfl)
noncomputable def cx33 (X : Type) (n : Nat) : Cx X := mkCx tab.get [(33, Tryz.f33)] [(59, orcOf [(.int .i64), .str] (.many [(.int .i64), (.int .i64)]) (fun x => F.class_Bad n x.1 x.2.1))] [] [] [] []
theorem cx33_ok (X : Type) (n : Nat) : CxOK Tryz.prog SW (cx33 X n) := mkCx_ok mixed (tabOK tab_ok) ⟨⟨Tryz.func33, by decide⟩, trivial⟩ ⟨orcOf_ok (ok59 n), trivial⟩ ⟨okC_mk (fun _ => rfl) (by kernel_rfl) (castP (by kernel_rfl) (show True from trivial)) (castP (by kernel_rfl) (show True from trivial)), trivial⟩ trivial
theorem ok33 (n : Nat) : FnOK Tryz.prog SW 33 [(.int .i64), .str, (.int .i64), (.int .i64)] (.one (.agg [(.int .i64), (.int .i64)])) (fun x => F.class_Text n x.1 x.2.1 x.2.2.1 x.2.2.2.1) := fnOK_of WOf.st (cx33_ok _ n) (d := 8) (fun x => by kernel_rfl)
noncomputable def cx89 (X : Type) (n : Nat) : Cx X := mkCx tab.get [(89, Tryz.f89)] [(33, orcOf [(.int .i64), .str, (.int .i64), (.int .i64)] (.one (.agg [(.int .i64), (.int .i64)])) (fun x => F.class_Text n x.1 x.2.1 x.2.2.1 x.2.2.2.1))] [] [] [] []
theorem cx89_ok (X : Type) (n : Nat) : CxOK Tryz.prog SW (cx89 X n) := mkCx_ok mixed (tabOK tab_ok) ⟨⟨Tryz.func89, by decide⟩, trivial⟩ ⟨orcOf_ok (ok33 n), trivial⟩ ⟨okC_mk (fun _ => rfl) (by kernel_rfl) (castP (by kernel_rfl) (show True from trivial)) (castP (by kernel_rfl) (show True from trivial)), trivial⟩ trivial
theorem ok89 (n : Nat) : FnOK Tryz.prog SW 89 [(.agg [.str, (.int .i64), (.sl (.agg [.bool, (.int .u64), (.int .i64)]) .unk), (.int .i64), (.sl (.agg [.str, .str]) .unk), (.int .i64)])] (.one .bool) (fun x => F.metric_look_name n x.1) := fnOK_of WOf.st (cx89_ok _ n) (d := 8) (fun x => by kernel_rfl)
noncomputable def cx123 (X : Type) (n : Nat) : Cx X := mkCx tab.get [(123, Tryz.f123)] [] [] [] [] []
theorem cx123_ok (X : Type) (n : Nat) : CxOK Tryz.prog SW (cx123 X n) := mkCx_ok mixed (tabOK tab_ok) ⟨⟨Tryz.func123, by decide⟩, trivial⟩ trivial ⟨okC_mk (fun _ => rfl) (by kernel_rfl) (castP (by kernel_rfl) (show True from trivial)) (castP (by kernel_rfl) (show True from trivial)), trivial⟩ trivial
theorem ok123 (n : Nat) : FnOK Tryz.prog SW 123 [(.int .i64), (.int .i64), (.int .i64)] (.one .bool) (fun x => F.metric_between n x.1 x.2.1 x.2.2.1) := fnOK_of WOf.st (cx123_ok _ n) (d := 8) (fun x => by kernel_rfl)
noncomputable def cx90 (X : Type) (n : Nat) : Cx X := mkCx tab.get [(90, Tryz.f90)] [(123, orcOf [(.int .i64), (.int .i64), (.int .i64)] (.one .bool) (fun x => F.metric_between n x.1 x.2.1 x.2.2.1))] [] [] [] []
theorem cx90_ok (X : Type) (n : Nat) : CxOK Tryz.prog SW (cx90 X n) := mkCx_ok mixed (tabOK tab_ok) ⟨⟨Tryz.func90, by decide⟩, trivial⟩ ⟨orcOf_ok (ok123 n), trivial⟩ ⟨okC_mk (fun _ => rfl) (by kernel_rfl) (castP (by kernel_rfl) (show True from trivial)) (castP (by kernel_rfl) (show True from trivial)), trivial⟩ trivial
theorem ok90 (n : Nat) : FnOK Tryz.prog SW 90 [(.agg [.str, (.int .i64), (.sl (.agg [.bool, (.int .u64), (.int .i64)]) .unk), (.int .i64), (.sl (.agg [.str, .str]) .unk), (.int .i64)])] (.one .bool) (fun x => F.metric_look_kind n x.1) := fnOK_of WOf.st (cx90_ok _ n) (d := 8) (fun x => by kernel_rfl)
noncomputable def cx125 (X : Type) (n : Nat) : Cx X := mkCx tab.get [(125, Tryz.f125)] [(44, orcOf [(.agg [.bool, (.int .u64), (.int .i64)])] (.one (.int .i64)) (fun x => F.dec_Check n x.1))] [] [] [] []
theorem cx125_ok (X : Type) (n : Nat) : CxOK Tryz.prog SW (cx125 X n) := mkCx_ok mixed (tabOK tab_ok) ⟨⟨Tryz.func125, by decide⟩, trivial⟩ ⟨orcOf_ok (ok44 n), trivial⟩ ⟨okC_mk (fun _ => rfl) (by kernel_rfl) (castP (by kernel_rfl) (show True from trivial)) (castP (by kernel_rfl) (show True from trivial)), trivial⟩ trivial
theorem ok125 (n : Nat) : FnOK Tryz.prog SW 125 [(.agg [.bool, (.int .u64), (.int .i64)])] (.one .bool) (fun x => F.metric_look_values_1 n x.1) := fnOK_of WOf.st (cx125_ok _ n) (d := 8) (fun x => by kernel_rfl)
def F.metric_look_values.L2_slices_IndexFunc_api_Dec_api_Dec.head : Shape := ⟨[(0, (.sl (.agg [.bool, (.int .u64), (.int .i64)]) .unk)), (1, (.const (.fn 125 [] []))), (7, (.int .i64)), (8, (.int .i64))], [[.str, (.int .i64), (.sl (.agg [.bool, (.int .u64), (.int .i64)]) .unk), (.int .i64), (.sl (.agg [.str, .str]) .unk), (.int .i64)]], [], [], [], 1, 0, 0⟩
def F.metric_look_values.L2_slices_IndexFunc_api_Dec_api_Dec.e0 : Shape := ⟨[], [[.str, (.int .i64), (.sl (.agg [.bool, (.int .u64), (.int .i64)]) .unk), (.int .i64), (.sl (.agg [.str, .str]) .unk), (.int .i64)]], [], [], [], 1, 0, 0⟩
def F.metric_look_values.L2_slices_IndexFunc_api_Dec_api_Dec.er : Shape := ⟨[(4, (.int .i64))], [[.str, (.int .i64), (.sl (.agg [.bool, (.int .u64), (.int .i64)]) .unk), (.int .i64), (.sl (.agg [.str, .str]) .unk), (.int .i64)]], [], [], [], 1, 0, 0⟩
noncomputable def F.metric_look_values.L2_slices_IndexFunc_api_Dec_api_Dec.f {X : Type} (n m : Nat) (ks : Ks X) (s : F.metric_look_values.L2_slices_IndexFunc_api_Dec_api_Dec.head.den) : Option X := F.metric_look_values.L2_slices_IndexFunc_api_Dec_api_Dec n (fun qb0_0 qb0_1 qb0_2 qb0_3 qb0_4 qb0_5 => ks.ex 0 (F.metric_look_values.L2_slices_IndexFunc_api_Dec_api_Dec.e0.e ((), ((qb0_0, qb0_1, qb0_2, qb0_3, qb0_4, qb0_5, ()), ()), (), ())) (F.metric_look_values.L2_slices_IndexFunc_api_Dec_api_Dec.e0.h ((), ((qb0_0, qb0_1, qb0_2, qb0_3, qb0_4, qb0_5, ()), ()), (), ()))) (fun q4 qb0_0 qb0_1 qb0_2 qb0_3 qb0_4 qb0_5 => ks.ret (F.metric_look_values.L2_slices_IndexFunc_api_Dec_api_Dec.er.e ((q4, ()), ((qb0_0, qb0_1, qb0_2, qb0_3, qb0_4, qb0_5, ()), ()), (), ())) (F.metric_look_values.L2_slices_IndexFunc_api_Dec_api_Dec.er.h ((q4, ()), ((qb0_0, qb0_1, qb0_2, qb0_3, qb0_4, qb0_5, ()), ()), (), ()))) m s.1.1 s.1.2.2.1 s.1.2.2.2.1 s.2.1.1.1 s.2.1.1.2.1 s.2.1.1.2.2.1 s.2.1.1.2.2.2.1 s.2.1.1.2.2.2.2.1 s.2.1.1.2.2.2.2.2.1
noncomputable def F.metric_look_values.L2_slices_IndexFunc_api_Dec_api_Dec.li (X : Type) (n : Nat) : LoopI X := ⟨6, ⟨1, 0, 0⟩, F.metric_look_values.L2_slices_IndexFunc_api_Dec_api_Dec.head, [(0, F.metric_look_values.L2_slices_IndexFunc_api_Dec_api_Dec.e0)], some F.metric_look_values.L2_slices_IndexFunc_api_Dec_api_Dec.er, F.metric_look_values.L2_slices_IndexFunc_api_Dec_api_Dec.f n n⟩
noncomputable def cx91 (X : Type) (n : Nat) : Cx X := mkCx tab.get [(91, Tryz.f91), (124, Tryz.f124), (146, Tryz.f146)] [(123, orcOf [(.int .i64), (.int .i64), (.int .i64)] (.one .bool) (fun x => F.metric_between n x.1 x.2.1 x.2.2.1)), (125, orcOf [(.agg [.bool, (.int .u64), (.int .i64)])] (.one .bool) (fun x => F.metric_look_values_1 n x.1))] [(146, 2, [F.metric_look_values.L2_slices_IndexFunc_api_Dec_api_Dec.li X n])] [] [] []
theorem F.metric_look_values.L2_slices_IndexFunc_api_Dec_api_Dec.ok (X : Type) (n : Nat) : LoopOK (cx91 X n) 146 Tryz.f146.ntmps (loopNo Tryz.f146 0) (F.metric_look_values.L2_slices_IndexFunc_api_Dec_api_Dec.li X n) :=
  ⟨F.metric_look_values.L2_slices_IndexFunc_api_Dec_api_Dec.f n, n, fun _ _ => rfl, fun _ _ => rfl, fun m ks s => by kernel_rfl⟩
theorem cx91_ok (X : Type) (n : Nat) : CxOK Tryz.prog SW (cx91 X n) := mkCx_ok mixed (tabOK tab_ok) ⟨⟨Tryz.func91, by decide⟩,
  ⟨Tryz.func124, by decide⟩,
  ⟨Tryz.func146, by decide⟩, trivial⟩ ⟨orcOf_ok (ok123 n),
  orcOf_ok (ok125 n), trivial⟩ ⟨okC_mk (fun _ => rfl) (by kernel_rfl) (castP (by kernel_rfl) (show True from trivial)) (castP (by kernel_rfl) (show True from trivial)),
  okC_mk (fun _ => rfl) (by kernel_rfl) (castP (by kernel_rfl) (show True from trivial)) (castP (by kernel_rfl) (show True from trivial)),
  okC_mk (fun _ => rfl) (by kernel_rfl) (castP (by kernel_rfl) (show (LoopOK (cx91 X n) 146 Tryz.f146.ntmps (loopNo Tryz.f146 0) (F.metric_look_values.L2_slices_IndexFunc_api_Dec_api_Dec.li X n) ∧ True) ∧ True from ⟨⟨F.metric_look_values.L2_slices_IndexFunc_api_Dec_api_Dec.ok X n, trivial⟩, trivial⟩)) (castP (by kernel_rfl) (show True from trivial)), trivial⟩ trivial
theorem ok91 (n : Nat) : FnOK Tryz.prog SW 91 [(.agg [.str, (.int .i64), (.sl (.agg [.bool, (.int .u64), (.int .i64)]) .unk), (.int .i64), (.sl (.agg [.str, .str]) .unk), (.int .i64)])] (.one .bool) (fun x => F.metric_look_values n x.1) := fnOK_of WOf.st (cx91_ok _ n) (d := 8) (fun x => by kernel_rfl)
noncomputable def cx92 (X : Type) (n : Nat) : Cx X := mkCx tab.get [(92, Tryz.f92)] [(123, orcOf [(.int .i64), (.int .i64), (.int .i64)] (.one .bool) (fun x => F.metric_between n x.1 x.2.1 x.2.2.1))] [] [] [] []
theorem cx92_ok (X : Type) (n : Nat) : CxOK Tryz.prog SW (cx92 X n) := mkCx_ok mixed (tabOK tab_ok) ⟨⟨Tryz.func92, by decide⟩, trivial⟩ ⟨orcOf_ok (ok123 n), trivial⟩ ⟨okC_mk (fun _ => rfl) (by kernel_rfl) (castP (by kernel_rfl) (show True from trivial)) (castP (by kernel_rfl) (show True from trivial)), trivial⟩ trivial
theorem ok92 (n : Nat) : FnOK Tryz.prog SW 92 [(.agg [.str, (.int .i64), (.sl (.agg [.bool, (.int .u64), (.int .i64)]) .unk), (.int .i64), (.sl (.agg [.str, .str]) .unk), (.int .i64)])] (.one .bool) (fun x => F.metric_look_rate n x.1) := fnOK_of WOf.st (cx92_ok _ n) (d := 8) (fun x => by kernel_rfl)
noncomputable def cx128 (X : Type) (n : Nat) : Cx X := mkCx tab.get [(128, Tryz.f128)] [(33, orcOf [(.int .i64), .str, (.int .i64), (.int .i64)] (.one (.agg [(.int .i64), (.int .i64)])) (fun x => F.class_Text n x.1 x.2.1 x.2.2.1 x.2.2.2.1))] [] [] [] []
theorem cx128_ok (X : Type) (n : Nat) : CxOK Tryz.prog SW (cx128 X n) := mkCx_ok mixed (tabOK tab_ok) ⟨⟨Tryz.func128, by decide⟩, trivial⟩ ⟨orcOf_ok (ok33 n), trivial⟩ ⟨okC_mk (fun _ => rfl) (by kernel_rfl) (castP (by kernel_rfl) (show True from trivial)) (castP (by kernel_rfl) (show True from trivial)), trivial⟩ trivial
theorem ok128 (n : Nat) : FnOK Tryz.prog SW 128 [(.agg [.str, .str])] (.one (.int .i64)) (fun x => F.tag_Check n x.1) := fnOK_of WOf.st (cx128_ok _ n) (d := 8) (fun x => by kernel_rfl)
noncomputable def cx127 (X : Type) (n : Nat) : Cx X := mkCx tab.get [(127, Tryz.f127)] [(128, orcOf [(.agg [.str, .str])] (.one (.int .i64)) (fun x => F.tag_Check n x.1))] [] [] [] []
theorem cx127_ok (X : Type) (n : Nat) : CxOK Tryz.prog SW (cx127 X n) := mkCx_ok mixed (tabOK tab_ok) ⟨⟨Tryz.func127, by decide⟩, trivial⟩ ⟨orcOf_ok (ok128 n), trivial⟩ ⟨okC_mk (fun _ => rfl) (by kernel_rfl) (castP (by kernel_rfl) (show True from trivial)) (castP (by kernel_rfl) (show True from trivial)), trivial⟩ trivial
theorem ok127 (n : Nat) : FnOK Tryz.prog SW 127 [(.agg [.str, .str])] (.one .bool) (fun x => F.metric_look_tags_1 n x.1) := fnOK_of WOf.st (cx127_ok _ n) (d := 8) (fun x => by kernel_rfl)
def F.metric_look_tags.L2_slices_IndexFunc_api_Tag_api_Tag.head : Shape := ⟨[(0, (.sl (.agg [.str, .str]) .unk)), (1, (.const (.fn 127 [] []))), (7, (.int .i64)), (8, (.int .i64))], [[.str, (.int .i64), (.sl (.agg [.bool, (.int .u64), (.int .i64)]) .unk), (.int .i64), (.sl (.agg [.str, .str]) .unk), (.int .i64)]], [], [], [], 1, 0, 0⟩
def F.metric_look_tags.L2_slices_IndexFunc_api_Tag_api_Tag.e0 : Shape := ⟨[], [[.str, (.int .i64), (.sl (.agg [.bool, (.int .u64), (.int .i64)]) .unk), (.int .i64), (.sl (.agg [.str, .str]) .unk), (.int .i64)]], [], [], [], 1, 0, 0⟩
def F.metric_look_tags.L2_slices_IndexFunc_api_Tag_api_Tag.er : Shape := ⟨[(4, (.int .i64))], [[.str, (.int .i64), (.sl (.agg [.bool, (.int .u64), (.int .i64)]) .unk), (.int .i64), (.sl (.agg [.str, .str]) .unk), (.int .i64)]], [], [], [], 1, 0, 0⟩
noncomputable def F.metric_look_tags.L2_slices_IndexFunc_api_Tag_api_Tag.f {X : Type} (n m : Nat) (ks : Ks X) (s : F.metric_look_tags.L2_slices_IndexFunc_api_Tag_api_Tag.head.den) : Option X := F.metric_look_tags.L2_slices_IndexFunc_api_Tag_api_Tag n (fun qb0_0 qb0_1 qb0_2 qb0_3 qb0_4 qb0_5 => ks.ex 0 (F.metric_look_tags.L2_slices_IndexFunc_api_Tag_api_Tag.e0.e ((), ((qb0_0, qb0_1, qb0_2, qb0_3, qb0_4, qb0_5, ()), ()), (), ())) (F.metric_look_tags.L2_slices_IndexFunc_api_Tag_api_Tag.e0.h ((), ((qb0_0, qb0_1, qb0_2, qb0_3, qb0_4, qb0_5, ()), ()), (), ()))) (fun q4 qb0_0 qb0_1 qb0_2 qb0_3 qb0_4 qb0_5 => ks.ret (F.metric_look_tags.L2_slices_IndexFunc_api_Tag_api_Tag.er.e ((q4, ()), ((qb0_0, qb0_1, qb0_2, qb0_3, qb0_4, qb0_5, ()), ()), (), ())) (F.metric_look_tags.L2_slices_IndexFunc_api_Tag_api_Tag.er.h ((q4, ()), ((qb0_0, qb0_1, qb0_2, qb0_3, qb0_4, qb0_5, ()), ()), (), ()))) m s.1.1 s.1.2.2.1 s.1.2.2.2.1 s.2.1.1.1 s.2.1.1.2.1 s.2.1.1.2.2.1 s.2.1.1.2.2.2.1 s.2.1.1.2.2.2.2.1 s.2.1.1.2.2.2.2.2.1
noncomputable def F.metric_look_tags.L2_slices_IndexFunc_api_Tag_api_Tag.li (X : Type) (n : Nat) : LoopI X := ⟨6, ⟨1, 0, 0⟩, F.metric_look_tags.L2_slices_IndexFunc_api_Tag_api_Tag.head, [(0, F.metric_look_tags.L2_slices_IndexFunc_api_Tag_api_Tag.e0)], some F.metric_look_tags.L2_slices_IndexFunc_api_Tag_api_Tag.er, F.metric_look_tags.L2_slices_IndexFunc_api_Tag_api_Tag.f n n⟩
noncomputable def cx93 (X : Type) (n : Nat) : Cx X := mkCx tab.get [(93, Tryz.f93), (126, Tryz.f126), (147, Tryz.f147)] [(127, orcOf [(.agg [.str, .str])] (.one .bool) (fun x => F.metric_look_tags_1 n x.1))] [(147, 2, [F.metric_look_tags.L2_slices_IndexFunc_api_Tag_api_Tag.li X n])] [] [] []
theorem F.metric_look_tags.L2_slices_IndexFunc_api_Tag_api_Tag.ok (X : Type) (n : Nat) : LoopOK (cx93 X n) 147 Tryz.f147.ntmps (loopNo Tryz.f147 0) (F.metric_look_tags.L2_slices_IndexFunc_api_Tag_api_Tag.li X n) :=
  ⟨F.metric_look_tags.L2_slices_IndexFunc_api_Tag_api_Tag.f n, n, fun _ _ => rfl, fun _ _ => rfl, fun m ks s => by kernel_rfl⟩
theorem cx93_ok (X : Type) (n : Nat) : CxOK Tryz.prog SW (cx93 X n) := mkCx_ok mixed (tabOK tab_ok) ⟨⟨Tryz.func93, by decide⟩,
  ⟨Tryz.func126, by decide⟩,
  ⟨Tryz.func147, by decide⟩, trivial⟩ ⟨orcOf_ok (ok127 n), trivial⟩ ⟨okC_mk (fun _ => rfl) (by kernel_rfl) (castP (by kernel_rfl) (show True from trivial)) (castP (by kernel_rfl) (show True from trivial)),
  okC_mk (fun _ => rfl) (by kernel_rfl) (castP (by kernel_rfl) (show True from trivial)) (castP (by kernel_rfl) (show True from trivial)),
  okC_mk (fun _ => rfl) (by kernel_rfl) (castP (by kernel_rfl) (show (LoopOK (cx93 X n) 147 Tryz.f147.ntmps (loopNo Tryz.f147 0) (F.metric_look_tags.L2_slices_IndexFunc_api_Tag_api_Tag.li X n) ∧ True) ∧ True from ⟨⟨F.metric_look_tags.L2_slices_IndexFunc_api_Tag_api_Tag.ok X n, trivial⟩, trivial⟩)) (castP (by kernel_rfl) (show True from trivial)), trivial⟩ trivial
theorem ok93 (n : Nat) : FnOK Tryz.prog SW 93 [(.agg [.str, (.int .i64), (.sl (.agg [.bool, (.int .u64), (.int .i64)]) .unk), (.int .i64), (.sl (.agg [.str, .str]) .unk), (.int .i64)])] (.one .bool) (fun x => F.metric_look_tags n x.1) := fnOK_of WOf.st (cx93_ok _ n) (d := 8) (fun x => by kernel_rfl)
noncomputable def cx94 (X : Type) (n : Nat) : Cx X := mkCx tab.get [(94, Tryz.f94)] [(123, orcOf [(.int .i64), (.int .i64), (.int .i64)] (.one .bool) (fun x => F.metric_between n x.1 x.2.1 x.2.2.1))] [] [] [] []
theorem cx94_ok (X : Type) (n : Nat) : CxOK Tryz.prog SW (cx94 X n) := mkCx_ok mixed (tabOK tab_ok) ⟨⟨Tryz.func94, by decide⟩, trivial⟩ ⟨orcOf_ok (ok123 n), trivial⟩ ⟨okC_mk (fun _ => rfl) (by kernel_rfl) (castP (by kernel_rfl) (show True from trivial)) (castP (by kernel_rfl) (show True from trivial)), trivial⟩ trivial
theorem ok94 (n : Nat) : FnOK Tryz.prog SW 94 [(.agg [.str, (.int .i64), (.sl (.agg [.bool, (.int .u64), (.int .i64)]) .unk), (.int .i64), (.sl (.agg [.str, .str]) .unk), (.int .i64)])] (.one .bool) (fun x => F.metric_look_time n x.1) := fnOK_of WOf.st (cx94_ok _ n) (d := 8) (fun x => by kernel_rfl)
def F.metric_Check.L3.head : Shape := ⟨[(26, (.agg [(.fn 89 [(.agg [.str, (.int .i64), (.sl (.agg [.bool, (.int .u64), (.int .i64)]) .unk), (.int .i64), (.sl (.agg [.str, .str]) .unk), (.int .i64)])] []), (.int .i64), (.fn 90 [(.agg [.str, (.int .i64), (.sl (.agg [.bool, (.int .u64), (.int .i64)]) .unk), (.int .i64), (.sl (.agg [.str, .str]) .unk), (.int .i64)])] []), (.int .i64), (.fn 91 [(.agg [.str, (.int .i64), (.sl (.agg [.bool, (.int .u64), (.int .i64)]) .unk), (.int .i64), (.sl (.agg [.str, .str]) .unk), (.int .i64)])] []), (.int .i64), (.fn 92 [(.agg [.str, (.int .i64), (.sl (.agg [.bool, (.int .u64), (.int .i64)]) .unk), (.int .i64), (.sl (.agg [.str, .str]) .unk), (.int .i64)])] []), (.int .i64), (.fn 93 [(.agg [.str, (.int .i64), (.sl (.agg [.bool, (.int .u64), (.int .i64)]) .unk), (.int .i64), (.sl (.agg [.str, .str]) .unk), (.int .i64)])] []), (.int .i64), (.fn 94 [(.agg [.str, (.int .i64), (.sl (.agg [.bool, (.int .u64), (.int .i64)]) .unk), (.int .i64), (.sl (.agg [.str, .str]) .unk), (.int .i64)])] []), (.int .i64)])), (27, (.int .i64))], [[.str, (.int .i64), (.sl (.agg [.bool, (.int .u64), (.int .i64)]) .unk), (.int .i64), (.sl (.agg [.str, .str]) .unk), (.int .i64)], [.str, (.int .i64), (.sl (.agg [.bool, (.int .u64), (.int .i64)]) .unk), (.int .i64), (.sl (.agg [.str, .str]) .unk), (.int .i64)]], [], [], [], 2, 0, 0⟩
def F.metric_Check.L3.e0 : Shape := ⟨[], [[.str, (.int .i64), (.sl (.agg [.bool, (.int .u64), (.int .i64)]) .unk), (.int .i64), (.sl (.agg [.str, .str]) .unk), (.int .i64)], [.str, (.int .i64), (.sl (.agg [.bool, (.int .u64), (.int .i64)]) .unk), (.int .i64), (.sl (.agg [.str, .str]) .unk), (.int .i64)]], [], [], [], 2, 0, 0⟩
def F.metric_Check.L3.er : Shape := ⟨[(2, (.int .i64))], [[.str, (.int .i64), (.sl (.agg [.bool, (.int .u64), (.int .i64)]) .unk), (.int .i64), (.sl (.agg [.str, .str]) .unk), (.int .i64)], [.str, (.int .i64), (.sl (.agg [.bool, (.int .u64), (.int .i64)]) .unk), (.int .i64), (.sl (.agg [.str, .str]) .unk), (.int .i64)]], [], [], [], 2, 0, 0⟩
noncomputable def F.metric_Check.L3.f {X : Type} (n m : Nat) (ks : Ks X) (s : F.metric_Check.L3.head.den) : Option X := F.metric_Check.L3 n (fun qb0_0 qb0_1 qb0_2 qb0_3 qb0_4 qb0_5 qb1_0 qb1_1 qb1_2 qb1_3 qb1_4 qb1_5 => ks.ex 0 (F.metric_Check.L3.e0.e ((), ((qb0_0, qb0_1, qb0_2, qb0_3, qb0_4, qb0_5, ()), (qb1_0, qb1_1, qb1_2, qb1_3, qb1_4, qb1_5, ()), ()), (), ())) (F.metric_Check.L3.e0.h ((), ((qb0_0, qb0_1, qb0_2, qb0_3, qb0_4, qb0_5, ()), (qb1_0, qb1_1, qb1_2, qb1_3, qb1_4, qb1_5, ()), ()), (), ()))) (fun q2 qb0_0 qb0_1 qb0_2 qb0_3 qb0_4 qb0_5 qb1_0 qb1_1 qb1_2 qb1_3 qb1_4 qb1_5 => ks.ret (F.metric_Check.L3.er.e ((q2, ()), ((qb0_0, qb0_1, qb0_2, qb0_3, qb0_4, qb0_5, ()), (qb1_0, qb1_1, qb1_2, qb1_3, qb1_4, qb1_5, ()), ()), (), ())) (F.metric_Check.L3.er.h ((q2, ()), ((qb0_0, qb0_1, qb0_2, qb0_3, qb0_4, qb0_5, ()), (qb1_0, qb1_1, qb1_2, qb1_3, qb1_4, qb1_5, ()), ()), (), ()))) m s.1.1 s.1.2.1 s.2.1.1.1 s.2.1.1.2.1 s.2.1.1.2.2.1 s.2.1.1.2.2.2.1 s.2.1.1.2.2.2.2.1 s.2.1.1.2.2.2.2.2.1 s.2.1.2.1.1 s.2.1.2.1.2.1 s.2.1.2.1.2.2.1 s.2.1.2.1.2.2.2.1 s.2.1.2.1.2.2.2.2.1 s.2.1.2.1.2.2.2.2.2.1
noncomputable def F.metric_Check.L3.li (X : Type) (n : Nat) : LoopI X := ⟨8, ⟨0, 0, 0⟩, F.metric_Check.L3.head, [(0, F.metric_Check.L3.e0)], some F.metric_Check.L3.er, F.metric_Check.L3.f n n⟩
noncomputable def cx52 (X : Type) (n : Nat) : Cx X := mkCx tab.get [(52, Tryz.f52)] [(89, orcOf [(.agg [.str, (.int .i64), (.sl (.agg [.bool, (.int .u64), (.int .i64)]) .unk), (.int .i64), (.sl (.agg [.str, .str]) .unk), (.int .i64)])] (.one .bool) (fun x => F.metric_look_name n x.1)), (90, orcOf [(.agg [.str, (.int .i64), (.sl (.agg [.bool, (.int .u64), (.int .i64)]) .unk), (.int .i64), (.sl (.agg [.str, .str]) .unk), (.int .i64)])] (.one .bool) (fun x => F.metric_look_kind n x.1)), (91, orcOf [(.agg [.str, (.int .i64), (.sl (.agg [.bool, (.int .u64), (.int .i64)]) .unk), (.int .i64), (.sl (.agg [.str, .str]) .unk), (.int .i64)])] (.one .bool) (fun x => F.metric_look_values n x.1)), (92, orcOf [(.agg [.str, (.int .i64), (.sl (.agg [.bool, (.int .u64), (.int .i64)]) .unk), (.int .i64), (.sl (.agg [.str, .str]) .unk), (.int .i64)])] (.one .bool) (fun x => F.metric_look_rate n x.1)), (93, orcOf [(.agg [.str, (.int .i64), (.sl (.agg [.bool, (.int .u64), (.int .i64)]) .unk), (.int .i64), (.sl (.agg [.str, .str]) .unk), (.int .i64)])] (.one .bool) (fun x => F.metric_look_tags n x.1)), (94, orcOf [(.agg [.str, (.int .i64), (.sl (.agg [.bool, (.int .u64), (.int .i64)]) .unk), (.int .i64), (.sl (.agg [.str, .str]) .unk), (.int .i64)])] (.one .bool) (fun x => F.metric_look_time n x.1))] [(52, 3, [F.metric_Check.L3.li X n])] [] [] []
theorem F.metric_Check.L3.ok (X : Type) (n : Nat) : LoopOK (cx52 X n) 52 Tryz.f52.ntmps (loopNo Tryz.f52 0) (F.metric_Check.L3.li X n) :=
  ⟨F.metric_Check.L3.f n, n, fun _ _ => rfl, fun _ _ => rfl, fun m ks s => by kernel_rfl⟩
theorem cx52_ok (X : Type) (n : Nat) : CxOK Tryz.prog SW (cx52 X n) := mkCx_ok mixed (tabOK tab_ok) ⟨⟨Tryz.func52, by decide⟩, trivial⟩ ⟨orcOf_ok (ok89 n),
  orcOf_ok (ok90 n),
  orcOf_ok (ok91 n),
  orcOf_ok (ok92 n),
  orcOf_ok (ok93 n),
  orcOf_ok (ok94 n), trivial⟩ ⟨okC_mk (fun _ => rfl) (by kernel_rfl) (castP (by kernel_rfl) (show (LoopOK (cx52 X n) 52 Tryz.f52.ntmps (loopNo Tryz.f52 0) (F.metric_Check.L3.li X n) ∧ True) ∧ True from ⟨⟨F.metric_Check.L3.ok X n, trivial⟩, trivial⟩)) (castP (by kernel_rfl) (show True from trivial)), trivial⟩ trivial
theorem ok52 (n : Nat) : FnOK Tryz.prog SW 52 [(.agg [.str, (.int .i64), (.sl (.agg [.bool, (.int .u64), (.int .i64)]) .unk), (.int .i64), (.sl (.agg [.str, .str]) .unk), (.int .i64)])] (.one (.int .i64)) (fun x => F.metric_Check n x.1) := fnOK_of WOf.st (cx52_ok _ n) (d := 8) (fun x => by kernel_rfl)
noncomputable def cx122 (X : Type) (n : Nat) : Cx X := mkCx tab.get [(122, Tryz.f122)] [] [] [] [] []
theorem cx122_ok (X : Type) (n : Nat) : CxOK Tryz.prog SW (cx122 X n) := mkCx_ok mixed (tabOK tab_ok) ⟨⟨Tryz.func122, by decide⟩, trivial⟩ trivial ⟨okC_mk (fun _ => rfl) (by kernel_rfl) (castP (by kernel_rfl) (show True from trivial)) (castP (by kernel_rfl) (show True from trivial)), trivial⟩ trivial
theorem ok122 (n : Nat) : FnOK Tryz.prog SW 122 [(.agg [.str, (.int .i64), (.sl (.agg [.bool, (.int .u64), (.int .i64)]) .unk), (.int .i64), (.sl (.agg [.str, .str]) .unk), (.int .i64)])] (.one .bool) (fun x => F.expr_said_bare n x.1) := fnOK_of WOf.st (cx122_ok _ n) (d := 8) (fun x => by kernel_rfl)
noncomputable def cx86 (X : Type) (n : Nat) : Cx X := mkCx tab.get [(86, Tryz.f86)] [(122, orcOf [(.agg [.str, (.int .i64), (.sl (.agg [.bool, (.int .u64), (.int .i64)]) .unk), (.int .i64), (.sl (.agg [.str, .str]) .unk), (.int .i64)])] (.one .bool) (fun x => F.expr_said_bare n x.1))] [] [] [] []
theorem cx86_ok (X : Type) (n : Nat) : CxOK Tryz.prog SW (cx86 X n) := mkCx_ok mixed (tabOK tab_ok) ⟨⟨Tryz.func86, by decide⟩, trivial⟩ ⟨orcOf_ok (ok122 n), trivial⟩ ⟨okC_mk (fun _ => rfl) (by kernel_rfl) (castP (by kernel_rfl) (show True from trivial)) (castP (by kernel_rfl) (show True from trivial)), trivial⟩ trivial
theorem ok86 (n : Nat) : FnOK Tryz.prog SW 86 [(.agg [.str, (.int .i64), (.sl (.agg [.bool, (.int .u64), (.int .i64)]) .unk), (.int .i64), (.sl (.agg [.str, .str]) .unk), (.int .i64)])] (.one .bool) (fun x => F.expr_said_statsd n x.1) := fnOK_of WOf.st (cx86_ok _ n) (d := 8) (fun x => by kernel_rfl)
noncomputable def cx87 (X : Type) (n : Nat) : Cx X := mkCx tab.get [(87, Tryz.f87)] [] [] [] [] []
theorem cx87_ok (X : Type) (n : Nat) : CxOK Tryz.prog SW (cx87 X n) := mkCx_ok mixed (tabOK tab_ok) ⟨⟨Tryz.func87, by decide⟩, trivial⟩ trivial ⟨okC_mk (fun _ => rfl) (by kernel_rfl) (castP (by kernel_rfl) (show True from trivial)) (castP (by kernel_rfl) (show True from trivial)), trivial⟩ trivial
theorem ok87 (n : Nat) : FnOK Tryz.prog SW 87 [(.agg [.str, (.int .i64), (.sl (.agg [.bool, (.int .u64), (.int .i64)]) .unk), (.int .i64), (.sl (.agg [.str, .str]) .unk), (.int .i64)])] (.one .bool) (fun x => F.expr_said_any n x.1) := fnOK_of WOf.st (cx87_ok _ n) (d := 8) (fun x => by kernel_rfl)
noncomputable def cx88 (X : Type) (n : Nat) : Cx X := mkCx tab.get [(88, Tryz.f88)] [(122, orcOf [(.agg [.str, (.int .i64), (.sl (.agg [.bool, (.int .u64), (.int .i64)]) .unk), (.int .i64), (.sl (.agg [.str, .str]) .unk), (.int .i64)])] (.one .bool) (fun x => F.expr_said_bare n x.1))] [] [] [] []
theorem cx88_ok (X : Type) (n : Nat) : CxOK Tryz.prog SW (cx88 X n) := mkCx_ok mixed (tabOK tab_ok) ⟨⟨Tryz.func88, by decide⟩, trivial⟩ ⟨orcOf_ok (ok122 n), trivial⟩ ⟨okC_mk (fun _ => rfl) (by kernel_rfl) (castP (by kernel_rfl) (show True from trivial)) (castP (by kernel_rfl) (show True from trivial)), trivial⟩ trivial
theorem ok88 (n : Nat) : FnOK Tryz.prog SW 88 [(.agg [.str, (.int .i64), (.sl (.agg [.bool, (.int .u64), (.int .i64)]) .unk), (.int .i64), (.sl (.agg [.str, .str]) .unk), (.int .i64)])] (.one .bool) (fun x => F.expr_said_graphite n x.1) := fnOK_of WOf.st (cx88_ok _ n) (d := 8) (fun x => by kernel_rfl)
def fmtsMap (a b c d : Nat) : Array MapEntry := #[⟨.int .i64 1, .func (.func a) #[] #[], 0⟩, ⟨.int .i64 2, .func (.func b) #[] #[], 1⟩, ⟨.int .i64 3, .func (.func c) #[] #[], 2⟩, ⟨.int .i64 4, .func (.func d) #[] #[], 3⟩]
set_option maxHeartbeats 6400000 in
set_option maxRecDepth 100000 in
theorem formats_call (w : World) : Calls Tryz.prog 51 #[] w fun e w' => e = .returned (.map (some w.heap.size)) ∧ w' = w.alloc (.map (fmtsMap 86 87 88 87) 4) := by
  have mixed : Tryz.prog.follows .mixedOrders := by kernel_rfl
  have h0 : (Instr.makeMap 81 none).run Tryz.prog w = .ok (.map (some w.heap.size)) (w.alloc (.map #[] 0)) := rfl
  have up := fun es c key v h => mapUpdate_int (P := Tryz.prog) (t := 81) (k := 3) (e := 79) Tryz.underlying81 Tryz.underlying3 w es c key v h
  have h1 := up #[] 0 1 (.func (.func 86) #[] #[]) (by simp)
  have h2 := up #[⟨.int .i64 1, .func (.func 86) #[] #[], 0⟩] 1 2 (.func (.func 87) #[] #[]) (by simp)
  have h3 := up #[⟨.int .i64 1, .func (.func 86) #[] #[], 0⟩, ⟨.int .i64 2, .func (.func 87) #[] #[], 1⟩] 2 3 (.func (.func 88) #[] #[]) (by simp)
  have h4 := up #[⟨.int .i64 1, .func (.func 86) #[] #[], 0⟩, ⟨.int .i64 2, .func (.func 87) #[] #[], 1⟩, ⟨.int .i64 3, .func (.func 88) #[] #[], 2⟩] 3 4 (.func (.func 87) #[] #[]) (by simp)
  clear up
  simp only [List.push_toArray, List.nil_append, List.cons_append] at h1 h2 h3 h4
  go_enter Tryz.func51, Tryz.ntmps51
  go_wp2
  go_ret
  exact ⟨rfl, rfl⟩
set_option maxHeartbeats 6400000 in
set_option maxRecDepth 100000 in
theorem metric_no (v0 v1 v2 v3 v4 v5 : Value) (k : Int) (hk : k ≠ 1 ∧ k ≠ 2 ∧ k ≠ 3 ∧ k ≠ 4) (w : World) : Calls Tryz.prog 25 #[.agg #[v0, v1, v2, v3, v4, v5], .int .i64 k] w fun e w' => e = .returned (.int .i64 29) ∧ Below w.heap.size w w' := by
  have mixed : Tryz.prog.follows .mixedOrders := by kernel_rfl
  have e1 : ∀ args w, (callFunc 51 args).run Tryz.prog w = .ok (.enter 51 args) w := enters_of Tryz.func51 (by kernel_rfl) rfl
  have hz : ∀ w', (zeroValue 79).run Tryz.prog w' = .ok .nilFunc w' := fun w' => by rfl
  have hl := lookup_int_no (P := Tryz.prog) (t := 81) (k := 3) (e := 79) Tryz.underlying81 Tryz.underlying3 (w.alloc (.cells #[v0, v1, v2, v3, v4, v5] 25)) (fmtsMap 86 87 88 87) 4 k (by
      intro x hx
      simp only [fmtsMap, List.mem_cons, List.mem_nil_iff, or_false] at hx
      rcases hx with rfl | rfl | rfl | rfl
      · exact ⟨1, rfl, Ne.symm hk.1⟩
      · exact ⟨2, rfl, Ne.symm hk.2.1⟩
      · exact ⟨3, rfl, Ne.symm hk.2.2.1⟩
      · exact ⟨4, rfl, Ne.symm hk.2.2.2⟩) hz
  have hsz : (w.alloc (.cells #[v0, v1, v2, v3, v4, v5] 25)).heap.size = w.heap.size + 1 := Array.size_push ..
  rw [hsz] at hl
  clear hz
  go_enter Tryz.func25, Tryz.ntmps25
  go_wp2_with (go_at_fn 51; refine (formats_call _).mono ?_; rintro e w' ⟨rfl, rfl⟩)
  all_goals go_ret
  all_goals exact ⟨rfl, ((Below.refl _ _).alloc (Nat.le_refl _) _).alloc (by rw [hsz]; omega) _⟩
def fmtF (k : Int) : Nat := if k = 1 then 86 else if k = 3 then 88 else 87
set_option maxHeartbeats 6400000 in
set_option maxRecDepth 100000 in
theorem metric_yes (v0 v1 v2 v3 v4 v5 : Value) (k : Int) (hk : k = 1 ∨ k = 2 ∨ k = 3 ∨ k = 4) (w : World) (c : Int) (b : Bool)
    (h52 : ∀ w1, Below w.heap.size w w1 → Calls Tryz.prog 52 #[.agg #[v0, v1, v2, v3, v4, v5]] w1 fun e w' => e = .returned (.int .i64 c) ∧ Below w1.heap.size w1 w')
    (hf : c = 0 → ∀ w1, Below w.heap.size w w1 → Calls Tryz.prog (fmtF k) #[.agg #[v0, v1, v2, v3, v4, v5]] w1 fun e w' => e = .returned (.bool b) ∧ Below w1.heap.size w1 w') :
    Calls Tryz.prog 25 #[.agg #[v0, v1, v2, v3, v4, v5], .int .i64 k] w fun e w' => e = .returned (.int .i64 (if c = 0 then (if b then 0 else 26) else c)) ∧ Below w.heap.size w w' := by
  have mixed : Tryz.prog.follows .mixedOrders := by kernel_rfl
  have e1 : ∀ args w, (callFunc 51 args).run Tryz.prog w = .ok (.enter 51 args) w := enters_of Tryz.func51 (by kernel_rfl) rfl
  have e2 : ∀ args w, (callFunc 52 args).run Tryz.prog w = .ok (.enter 52 args) w := enters_of Tryz.func52 (by kernel_rfl) rfl
  have e3 : ∀ args w, (callFunc 86 args).run Tryz.prog w = .ok (.enter 86 args) w := enters_of Tryz.func86 (by kernel_rfl) rfl
  have e4 : ∀ args w, (callFunc 87 args).run Tryz.prog w = .ok (.enter 87 args) w := enters_of Tryz.func87 (by kernel_rfl) rfl
  have e5 : ∀ args w, (callFunc 88 args).run Tryz.prog w = .ok (.enter 88 args) w := enters_of Tryz.func88 (by kernel_rfl) rfl
  have hsz : (w.alloc (.cells #[v0, v1, v2, v3, v4, v5] 25)).heap.size = w.heap.size + 1 := Array.size_push ..
  have hB0 : Below w.heap.size w ((w.alloc (.cells #[v0, v1, v2, v3, v4, v5] 25)).alloc (.map (fmtsMap 86 87 88 87) 4)) := ((Below.refl _ _).alloc (Nat.le_refl _) _).alloc (by rw [hsz]; omega) _
  have hl : (Instr.lookup 81 (.map (some (w.heap.size + 1))) (.int .i64 k) true).run Tryz.prog ((w.alloc (.cells #[v0, v1, v2, v3, v4, v5] 25)).alloc (.map (fmtsMap 86 87 88 87) 4)) = .ok (.tuple #[.func (.func (fmtF k)) #[] #[], .bool true]) ((w.alloc (.cells #[v0, v1, v2, v3, v4, v5] 25)).alloc (.map (fmtsMap 86 87 88 87) 4)) := by
    rw [← hsz]
    rcases hk with rfl | rfl | rfl | rfl
    · exact lookup_int (P := Tryz.prog) (t := 81) (k := 3) (e := 79) Tryz.underlying81 Tryz.underlying3 (w.alloc (.cells #[v0, v1, v2, v3, v4, v5] 25)) (fmtsMap 86 87 88 87) 4 1 (i := 0) rfl rfl
    · exact lookup_int (P := Tryz.prog) (t := 81) (k := 3) (e := 79) Tryz.underlying81 Tryz.underlying3 (w.alloc (.cells #[v0, v1, v2, v3, v4, v5] 25)) (fmtsMap 86 87 88 87) 4 2 (i := 1) rfl rfl
    · exact lookup_int (P := Tryz.prog) (t := 81) (k := 3) (e := 79) Tryz.underlying81 Tryz.underlying3 (w.alloc (.cells #[v0, v1, v2, v3, v4, v5] 25)) (fmtsMap 86 87 88 87) 4 3 (i := 2) rfl rfl
    · exact lookup_int (P := Tryz.prog) (t := 81) (k := 3) (e := 79) Tryz.underlying81 Tryz.underlying3 (w.alloc (.cells #[v0, v1, v2, v3, v4, v5] 25)) (fmtsMap 86 87 88 87) 4 4 (i := 3) rfl rfl
  go_enter Tryz.func25, Tryz.ntmps25
  go_wp2_with (first
    | (go_at_fn 51; refine (formats_call _).mono ?_; rintro e w' ⟨rfl, rfl⟩))
  have eF : ∀ args w, (callFunc (fmtF k) args).run Tryz.prog w = .ok (.enter (fmtF k) args) w := by
    rcases hk with rfl | rfl | rfl | rfl
    · exact e3
    · exact e4
    · exact e5
    · exact e4
  refine (h52 _ hB0).mono ?_
  rintro e w1 ⟨rfl, hb1⟩
  have hB1 : Below w.heap.size w w1 := hB0.trans (hb1.mono hB0.size)
  have hcells : ∀ (i : Nat) (v : Value), (#[v0, v1, v2, v3, v4, v5] : Array Value)[i]? = some v → w1.cell? ⟨w.heap.size, i, none⟩ = some v := by
    intro i v hv
    have h0 : ((w.alloc (.cells #[v0, v1, v2, v3, v4, v5] 25)).alloc (.map (fmtsMap 86 87 88 87) 4)).cell? ⟨w.heap.size, i, none⟩ = some v := by
      have hx : (w.alloc (.cells #[v0, v1, v2, v3, v4, v5] 25)).cell? ⟨w.heap.size, i, none⟩ = some v := by
        rw [World.cell?_alloc_new]; exact hv
      exact ((Below.refl _ _).alloc (B := (w.alloc (.cells #[v0, v1, v2, v3, v4, v5] 25)).heap.size) (Nat.le_refl _) _).cell (p := ⟨w.heap.size, i, none⟩) (by rw [hsz]; show w.heap.size < _; omega) |>.trans hx
    exact (hb1.cell (p := ⟨w.heap.size, i, none⟩) (by show w.heap.size < ((w.alloc _).heap.push _).size; rw [Array.size_push, hsz]; omega)).trans h0
  have k0 := hcells 0 v0 rfl
  have k1 := hcells 1 v1 rfl
  have k2 := hcells 2 v2 rfl
  have k3 := hcells 3 v3 rfl
  have k4 := hcells 4 v4 rfl
  have k5 := hcells 5 v5 rfl
  clear e1 e2 e3 e4 e5 hl hk h52 hcells
  simp only []
  by_cases hc : c = 0
  · subst hc
    go_wp2
    refine (hf (by first | trivial | rfl) _ hB1).mono ?_
    rintro e w2 ⟨rfl, hb2⟩
    have hB2 : Below w.heap.size w w2 := hB1.trans (hb2.mono hB1.size)
    simp only []
    cases b
    · go_wp2
      all_goals go_ret
      all_goals exact ⟨rfl, hB2⟩
    · go_wp2
      all_goals go_ret
      all_goals exact ⟨rfl, hB2⟩
  · go_wp2
    all_goals go_ret
    all_goals exact ⟨rfl, hB1⟩
theorem ok25 (n : Nat) : FnOK Tryz.prog SW 25 [(.agg [.str, (.int .i64), (.sl (.agg [.bool, (.int .u64), (.int .i64)]) .unk), (.int .i64), (.sl (.agg [.str, .str]) .unk), (.int .i64)]), (.int .i64)] (.one (.int .i64)) (fun x => F.expr_Metric n x.1 x.2.1) := by
  rintro ⟨m, k, _⟩ y hy w D vals hw ha hc
  obtain ⟨u, v, rfl, hu, hv⟩ := repl2 ha
  obtain ⟨rfl, _⟩ := rep_int hv
  obtain ⟨v0, v1, v2, v3, v4, v5, rfl⟩ := agg6 hu
  have ha1 : RepL w ⟨D, [], [], [], []⟩ (#[.agg #[v0, v1, v2, v3, v4, v5]] : Array Value).toList (sencL [(.agg [.str, (.int .i64), (.sl (.agg [.bool, (.int .u64), (.int .i64)]) .unk), (.int .i64), (.sl (.agg [.str, .str]) .unk), (.int .i64)])] (m, ())) := .cons hu .nil
  simp only [F.expr_Metric] at hy
  by_cases hk : k = 1 ∨ k = 2 ∨ k = 3 ∨ k = 4
  · have ek : (k == 1 || (k == 2 || (k == 3 || k == 4))) = true := by simpa using hk
    rw [ek, cond_true] at hy
    obtain ⟨c, h52, hy⟩ := Option.bind_eq_some_iff.1 hy
    have c52 := fun w1 hb => (calls_later (enters Tryz.func52 (by kernel_rfl) (by decide)) (ok52 n) WOf.st (x := (m, ())) h52 hw ha1 hc w1 hb).mono fun e w' ⟨v, he, ho⟩ => by
      obtain ⟨rfl, hb⟩ := orc_int (n := c) ho
      exact (⟨he, hb⟩ : e = .returned (.int .i64 c) ∧ Below w1.heap.size w1 w')
    by_cases h0 : c = 0
    · subst h0
      have e0 : (!((0 : Int) == 0)) = false := rfl
      rw [e0, cond_false] at hy
      obtain ⟨b, hf, hy⟩ := Option.bind_eq_some_iff.1 hy
      have cf : ∀ w1, Below w.heap.size w w1 → Calls Tryz.prog (fmtF k) #[.agg #[v0, v1, v2, v3, v4, v5]] w1 fun e w' => e = .returned (.bool b) ∧ Below w1.heap.size w1 w' := by
        intro w1 hb
        rcases hk with rfl | rfl | rfl | rfl
        · exact (calls_later (enters Tryz.func86 (by kernel_rfl) (by decide)) (ok86 n) WOf.st (x := (m, ())) hf hw ha1 hc w1 hb).mono fun e w' ⟨v, he, ho⟩ => by
            obtain ⟨rfl, hb⟩ := orc_bool (b := b) ho
            exact ⟨he, hb⟩
        · exact (calls_later (enters Tryz.func87 (by kernel_rfl) (by decide)) (ok87 n) WOf.st (x := (m, ())) hf hw ha1 hc w1 hb).mono fun e w' ⟨v, he, ho⟩ => by
            obtain ⟨rfl, hb⟩ := orc_bool (b := b) ho
            exact ⟨he, hb⟩
        · exact (calls_later (enters Tryz.func88 (by kernel_rfl) (by decide)) (ok88 n) WOf.st (x := (m, ())) hf hw ha1 hc w1 hb).mono fun e w' ⟨v, he, ho⟩ => by
            obtain ⟨rfl, hb⟩ := orc_bool (b := b) ho
            exact ⟨he, hb⟩
        · exact (calls_later (enters Tryz.func87 (by kernel_rfl) (by decide)) (ok87 n) WOf.st (x := (m, ())) hf hw ha1 hc w1 hb).mono fun e w' ⟨v, he, ho⟩ => by
            obtain ⟨rfl, hb⟩ := orc_bool (b := b) ho
            exact ⟨he, hb⟩
      refine goes_of (enters Tryz.func25 (by kernel_rfl) (by decide)) ((metric_yes v0 v1 v2 v3 v4 v5 k hk w 0 b c52 (fun _ => cf)).mono fun e w' ⟨h1, h2⟩ => ⟨_, h1, ?_⟩)
      have hyy : y = if b then 0 else 26 := by cases b <;> exact (Option.some.inj hy).symm
      subst hyy
      exact orcPost_old rfl h2 hc (.int _ _ (by intro h; cases h))
    · have e0 : (!(c == 0)) = true := by simpa using h0
      rw [e0, cond_true] at hy
      obtain rfl := Option.some.inj hy
      refine goes_of (enters Tryz.func25 (by kernel_rfl) (by decide)) ((metric_yes v0 v1 v2 v3 v4 v5 k hk w c true c52 (fun h => absurd h h0)).mono fun e w' ⟨h1, h2⟩ => ⟨_, h1, ?_⟩)
      rw [if_neg h0]
      exact orcPost_old rfl h2 hc (.int _ _ (by intro h; cases h))
  · have ek : (k == 1 || (k == 2 || (k == 3 || k == 4))) = false := by
      simp only [not_or] at hk
      simp [hk]
    rw [ek, cond_false] at hy
    obtain rfl := Option.some.inj hy
    exact goes_of (enters Tryz.func25 (by kernel_rfl) (by decide)) ((metric_no v0 v1 v2 v3 v4 v5 k (by simpa only [not_or] using hk) w).mono fun e w' ⟨h1, h2⟩ => ⟨_, h1, orcPost_old rfl h2 hc (.int _ _ (by intro h; cases h))⟩)
noncomputable def cx11 (X : Type) (n : Nat) : Cx X := mkCx tab.get [(11, Tryz.f11)] [(17, orcOf [(.int .i64)] (.many [.str, (.int .i64)]) (fun x => O.word n x.1)), (21, orcOf [(.agg [.bool, (.int .u64), (.int .i64)])] (.many [.str, (.int .i64)]) (fun x => F.dec_Text n x.1)), (23, orcOf [(.int .i64)] (.many [.str, (.int .i64)]) (fun x => F.num_RateText n x.1)), (25, orcOf [(.agg [.str, (.int .i64), (.sl (.agg [.bool, (.int .u64), (.int .i64)]) .unk), (.int .i64), (.sl (.agg [.str, .str]) .unk), (.int .i64)]), (.int .i64)] (.one (.int .i64)) (fun x => F.expr_Metric n x.1 x.2.1))] [] [] [] []
theorem cx11_ok (X : Type) (n : Nat) : CxOK Tryz.prog SW (cx11 X n) := mkCx_ok mixed (tabOK tab_ok) ⟨⟨Tryz.func11, by decide⟩, trivial⟩ ⟨orcOf_ok (ok17 n),
  orcOf_ok (ok21 n),
  orcOf_ok (ok23 n),
  orcOf_ok (ok25 n), trivial⟩ ⟨okC_mk (fun _ => rfl) (by kernel_rfl) (castP (by kernel_rfl) (show True from trivial)) (castP (by kernel_rfl) (show True from trivial)), trivial⟩ trivial
theorem ok11 (n : Nat) : FnOK Tryz.prog SW 11 [(.agg [.str, (.int .i64), (.sl (.agg [.bool, (.int .u64), (.int .i64)]) .unk), (.int .i64), (.sl (.agg [.str, .str]) .unk), (.int .i64)])] (.many [.str, (.int .i64)]) (fun x => F.statsd_Line n x.1) := fnOK_of WOf.st (cx11_ok _ n) (d := 8) (fun x => by kernel_rfl)
def F.statsd_Kind.L2.head : Shape := ⟨[(0, .str), (4, (.int .i64))], [], [], [], [], 0, 0, 0⟩
def F.statsd_Kind.L2.e0 : Shape := ⟨[], [], [], [], [], 0, 0, 0⟩
def F.statsd_Kind.L2.er : Shape := ⟨[(2, (.int .i64)), (3, (.int .i64))], [], [], [], [], 0, 0, 0⟩
noncomputable def F.statsd_Kind.L2.f {X : Type} (n m : Nat) (ks : Ks X) (s : F.statsd_Kind.L2.head.den) : Option X := F.statsd_Kind.L2 n (fun (_ : Unit) => ks.ex 0 (F.statsd_Kind.L2.e0.e ((), (), (), ())) (F.statsd_Kind.L2.e0.h ((), (), (), ()))) (fun q2 q3 => ks.ret (F.statsd_Kind.L2.er.e ((q2, q3, ()), (), (), ())) (F.statsd_Kind.L2.er.h ((q2, q3, ()), (), (), ()))) m s.1.1 s.1.2.1
noncomputable def F.statsd_Kind.L2.li (X : Type) (n : Nat) : LoopI X := ⟨8, ⟨0, 0, 0⟩, F.statsd_Kind.L2.head, [(0, F.statsd_Kind.L2.e0)], some F.statsd_Kind.L2.er, F.statsd_Kind.L2.f n n⟩
noncomputable def cx19 (X : Type) (n : Nat) : Cx X := mkCx tab.get [(19, Tryz.f19)] [(17, orcOf [(.int .i64)] (.many [.str, (.int .i64)]) (fun x => O.word n x.1))] [(19, 2, [F.statsd_Kind.L2.li X n])] [] [] []
theorem F.statsd_Kind.L2.ok (X : Type) (n : Nat) : LoopOK (cx19 X n) 19 Tryz.f19.ntmps (loopNo Tryz.f19 0) (F.statsd_Kind.L2.li X n) :=
  ⟨F.statsd_Kind.L2.f n, n, fun _ _ => rfl, fun _ _ => rfl, fun m ks s => by kernel_rfl⟩
theorem cx19_ok (X : Type) (n : Nat) : CxOK Tryz.prog SW (cx19 X n) := mkCx_ok mixed (tabOK tab_ok) ⟨⟨Tryz.func19, by decide⟩, trivial⟩ ⟨orcOf_ok (ok17 n), trivial⟩ ⟨okC_mk (fun _ => rfl) (by kernel_rfl) (castP (by kernel_rfl) (show (LoopOK (cx19 X n) 19 Tryz.f19.ntmps (loopNo Tryz.f19 0) (F.statsd_Kind.L2.li X n) ∧ True) ∧ True from ⟨⟨F.statsd_Kind.L2.ok X n, trivial⟩, trivial⟩)) (castP (by kernel_rfl) (show True from trivial)), trivial⟩ trivial
theorem ok19 (n : Nat) : FnOK Tryz.prog SW 19 [.str] (.many [(.int .i64), (.int .i64)]) (fun x => F.statsd_Kind n x.1) := fnOK_of WOf.st (cx19_ok _ n) (d := 8) (fun x => by kernel_rfl)
theorem ok98 (n : Nat) : FnOK Tryz.prog SW 98 [.str, .str] (.one (.int .i64)) (fun x => O.index1 n x.1 x.2.1) := index1_ok (enters Tryz.func98 (by kernel_rfl) (by decide)) Tryz.stringslite_Index_one n
noncomputable def cx58 (X : Type) (n : Nat) : Cx X := mkCx tab.get [(58, Tryz.f58)] [(98, orcOf [.str, .str] (.one (.int .i64)) (fun x => O.index1 n x.1 x.2.1))] [] [] [] []
theorem cx58_ok (X : Type) (n : Nat) : CxOK Tryz.prog SW (cx58 X n) := mkCx_ok mixed (tabOK tab_ok) ⟨⟨Tryz.func58, by decide⟩, trivial⟩ ⟨orcOf_ok (ok98 n), trivial⟩ ⟨okC_mk (fun _ => rfl) (by kernel_rfl) (castP (by kernel_rfl) (show True from trivial)) (castP (by kernel_rfl) (show True from trivial)), trivial⟩ trivial
theorem ok58 (n : Nat) : FnOK Tryz.prog SW 58 [.str, .str] (.many [.str, .str, .bool]) (fun x => F.stringslite_Cut n x.1 x.2.1) := fnOK_of WOf.st (cx58_ok _ n) (d := 8) (fun x => by kernel_rfl)
noncomputable def cx32 (X : Type) (n : Nat) : Cx X := mkCx tab.get [(32, Tryz.f32)] [(58, orcOf [.str, .str] (.many [.str, .str, .bool]) (fun x => F.stringslite_Cut n x.1 x.2.1))] [] [] [] []
theorem cx32_ok (X : Type) (n : Nat) : CxOK Tryz.prog SW (cx32 X n) := mkCx_ok mixed (tabOK tab_ok) ⟨⟨Tryz.func32, by decide⟩, trivial⟩ ⟨orcOf_ok (ok58 n), trivial⟩ ⟨okC_mk (fun _ => rfl) (by kernel_rfl) (castP (by kernel_rfl) (show True from trivial)) (castP (by kernel_rfl) (show True from trivial)), trivial⟩ trivial
theorem ok32 (n : Nat) : FnOK Tryz.prog SW 32 [.str, .str] (.many [.str, .str, .bool]) (fun x => F.strings_Cut n x.1 x.2.1) := fnOK_of WOf.st (cx32_ok _ n) (d := 8) (fun x => by kernel_rfl)
noncomputable def cx34 (X : Type) (n : Nat) : Cx X := mkCx tab.get [(34, Tryz.f34)] [] [] [] [] []
theorem cx34_ok (X : Type) (n : Nat) : CxOK Tryz.prog SW (cx34 X n) := mkCx_ok mixed (tabOK tab_ok) ⟨⟨Tryz.func34, by decide⟩, trivial⟩ trivial ⟨okC_mk (fun _ => rfl) (by kernel_rfl) (castP (by kernel_rfl) (show True from trivial)) (castP (by kernel_rfl) (show True from trivial)), trivial⟩ trivial
theorem ok34 (n : Nat) : FnOK Tryz.prog SW 34 [(.int .i64), (.int .i64)] (.many [(.agg [.str, (.int .i64), (.sl (.agg [.bool, (.int .u64), (.int .i64)]) .unk), (.int .i64), (.sl (.agg [.str, .str]) .unk), (.int .i64)]), (.agg [(.int .i64), (.int .i64)])]) (fun x => F.statsd_fault n x.1 x.2.1) := fnOK_of WOf.st (cx34_ok _ n) (d := 8) (fun x => by kernel_rfl)
noncomputable def cx65 (X : Type) (n : Nat) : Cx X := mkCx tab.get [(65, Tryz.f65)] [] [] [] [] []
theorem cx65_ok (X : Type) (n : Nat) : CxOK Tryz.prog SW (cx65 X n) := mkCx_ok mixed (tabOK tab_ok) ⟨⟨Tryz.func65, by decide⟩, trivial⟩ trivial ⟨okC_mk (fun _ => rfl) (by kernel_rfl) (castP (by kernel_rfl) (show True from trivial)) (castP (by kernel_rfl) (show True from trivial)), trivial⟩ trivial
theorem ok65 (n : Nat) : FnOK Tryz.prog SW 65 [.str, .str] (.one .bool) (fun x => F.stringslite_HasPrefix n x.1 x.2.1) := fnOK_of WOf.st (cx65_ok _ n) (d := 8) (fun x => by kernel_rfl)
noncomputable def cx36 (X : Type) (n : Nat) : Cx X := mkCx tab.get [(36, Tryz.f36)] [(65, orcOf [.str, .str] (.one .bool) (fun x => F.stringslite_HasPrefix n x.1 x.2.1))] [] [] [] []
theorem cx36_ok (X : Type) (n : Nat) : CxOK Tryz.prog SW (cx36 X n) := mkCx_ok mixed (tabOK tab_ok) ⟨⟨Tryz.func36, by decide⟩, trivial⟩ ⟨orcOf_ok (ok65 n), trivial⟩ ⟨okC_mk (fun _ => rfl) (by kernel_rfl) (castP (by kernel_rfl) (show True from trivial)) (castP (by kernel_rfl) (show True from trivial)), trivial⟩ trivial
theorem ok36 (n : Nat) : FnOK Tryz.prog SW 36 [.str, .str] (.one .bool) (fun x => F.strings_HasPrefix n x.1 x.2.1) := fnOK_of WOf.st (cx36_ok _ n) (d := 8) (fun x => by kernel_rfl)
def F.dec_look.L2_dec_look_1.head : Shape := ⟨[(0, (.const (.ref 2 0))), (1, (.const (.ref 0 0))), (3, (.int .i64))], [[.str], [(.int .i64), (.int .i64)], [(.int .i64)]], [], [], [], 3, 0, 0⟩
def F.dec_look.L2_dec_look_1.e0 : Shape := ⟨[(0, (.const (.ref 2 0))), (3, (.int .i64))], [[.str], [(.int .i64), (.int .i64)], [(.int .i64)]], [], [], [], 3, 0, 0⟩
noncomputable def F.dec_look.L2_dec_look_1.f {X : Type} (n m : Nat) (ks : Ks X) (s : F.dec_look.L2_dec_look_1.head.den) : Option X := F.dec_look.L2_dec_look_1 n (fun q3 qb0_0 qb1_0 qb1_1 qb2_0 => ks.ex 0 (F.dec_look.L2_dec_look_1.e0.e (((), q3, ()), ((qb0_0, ()), (qb1_0, qb1_1, ()), (qb2_0, ()), ()), (), ())) (F.dec_look.L2_dec_look_1.e0.h (((), q3, ()), ((qb0_0, ()), (qb1_0, qb1_1, ()), (qb2_0, ()), ()), (), ()))) m s.1.2.2.1 s.2.1.1.1 s.2.1.2.1.1 s.2.1.2.1.2.1 s.2.1.2.2.1.1
noncomputable def F.dec_look.L2_dec_look_1.li (X : Type) (n : Nat) : LoopI X := ⟨7, ⟨3, 0, 0⟩, F.dec_look.L2_dec_look_1.head, [(0, F.dec_look.L2_dec_look_1.e0)], none, F.dec_look.L2_dec_look_1.f n n⟩
noncomputable def cx60 (X : Type) (n : Nat) : Cx X := mkCx tab.get [(60, Tryz.f60), (101, Tryz.f101)] [(36, orcOf [.str, .str] (.one .bool) (fun x => F.strings_HasPrefix n x.1 x.2.1))] [(101, 2, [F.dec_look.L2_dec_look_1.li X n])] [] [] []
theorem F.dec_look.L2_dec_look_1.ok (X : Type) (n : Nat) : LoopOK (cx60 X n) 101 Tryz.f101.ntmps (loopNo Tryz.f101 0) (F.dec_look.L2_dec_look_1.li X n) :=
  ⟨F.dec_look.L2_dec_look_1.f n, n, fun _ _ => rfl, fun _ _ => rfl, fun m ks s => by kernel_rfl⟩
theorem cx60_ok (X : Type) (n : Nat) : CxOK Tryz.prog SW (cx60 X n) := mkCx_ok mixed (tabOK tab_ok) ⟨⟨Tryz.func60, by decide⟩,
  ⟨Tryz.func101, by decide⟩, trivial⟩ ⟨orcOf_ok (ok36 n), trivial⟩ ⟨okC_mk (fun _ => rfl) (by kernel_rfl) (castP (by kernel_rfl) (show True from trivial)) (castP (by kernel_rfl) (show True from trivial)),
  okC_mk (fun _ => rfl) (by kernel_rfl) (castP (by kernel_rfl) (show (LoopOK (cx60 X n) 101 Tryz.f101.ntmps (loopNo Tryz.f101 0) (F.dec_look.L2_dec_look_1.li X n) ∧ True) ∧ True from ⟨⟨F.dec_look.L2_dec_look_1.ok X n, trivial⟩, trivial⟩)) (castP (by kernel_rfl) (show True from trivial)), trivial⟩ trivial
theorem ok60 (n : Nat) : FnOK Tryz.prog SW 60 [.str] (.one (.agg [(.int .i64), (.int .i64)])) (fun x => F.dec_look n x.1) := fnOK_of WOf.st (cx60_ok _ n) (d := 8) (fun x => by kernel_rfl)
noncomputable def cx102 (X : Type) (n : Nat) : Cx X := mkCx tab.get [(102, Tryz.f102)] [(65, orcOf [.str, .str] (.one .bool) (fun x => F.stringslite_HasPrefix n x.1 x.2.1))] [] [] [] []
theorem cx102_ok (X : Type) (n : Nat) : CxOK Tryz.prog SW (cx102 X n) := mkCx_ok mixed (tabOK tab_ok) ⟨⟨Tryz.func102, by decide⟩, trivial⟩ ⟨orcOf_ok (ok65 n), trivial⟩ ⟨okC_mk (fun _ => rfl) (by kernel_rfl) (castP (by kernel_rfl) (show True from trivial)) (castP (by kernel_rfl) (show True from trivial)), trivial⟩ trivial
theorem ok102 (n : Nat) : FnOK Tryz.prog SW 102 [.str, .str] (.many [.str, .bool]) (fun x => F.stringslite_CutPrefix n x.1 x.2.1) := fnOK_of WOf.st (cx102_ok _ n) (d := 8) (fun x => by kernel_rfl)
noncomputable def cx61 (X : Type) (n : Nat) : Cx X := mkCx tab.get [(61, Tryz.f61)] [(102, orcOf [.str, .str] (.many [.str, .bool]) (fun x => F.stringslite_CutPrefix n x.1 x.2.1))] [] [] [] []
theorem cx61_ok (X : Type) (n : Nat) : CxOK Tryz.prog SW (cx61 X n) := mkCx_ok mixed (tabOK tab_ok) ⟨⟨Tryz.func61, by decide⟩, trivial⟩ ⟨orcOf_ok (ok102 n), trivial⟩ ⟨okC_mk (fun _ => rfl) (by kernel_rfl) (castP (by kernel_rfl) (show True from trivial)) (castP (by kernel_rfl) (show True from trivial)), trivial⟩ trivial
theorem ok61 (n : Nat) : FnOK Tryz.prog SW 61 [.str, .str] (.many [.str, .bool]) (fun x => F.strings_CutPrefix n x.1 x.2.1) := fnOK_of WOf.st (cx61_ok _ n) (d := 8) (fun x => by kernel_rfl)
theorem ok62 (n : Nat) : FnOK Tryz.prog SW 62 [.str, .str] (.one .str) (fun x => O.trimL n x.1 x.2.1) := trimL_ok (enters Tryz.func62 (by kernel_rfl) (by decide)) Tryz.strings_TrimLeft_one n
def F.dec_Parse.L14.head : Shape := ⟨[(2, (.const (.ref 0 0))), (3, (.const (.ref 1 0))), (10, .str), (11, (.const (.ref 3 0))), (66, (.int .i64)), (67, (.int .i64))], [[.bool, (.int .u64), (.int .i64)], [(.int .i64), (.int .i64)], [(.int .i64), (.int .i64)], [.bool, (.int .u64), (.int .i64)]], [], [], [], 4, 0, 0⟩
def F.dec_Parse.L14.e0 : Shape := ⟨[(2, (.const (.ref 0 0))), (3, (.const (.ref 1 0))), (11, (.const (.ref 3 0)))], [[.bool, (.int .u64), (.int .i64)], [(.int .i64), (.int .i64)], [(.int .i64), (.int .i64)], [.bool, (.int .u64), (.int .i64)]], [], [], [], 4, 0, 0⟩
noncomputable def F.dec_Parse.L14.f {X : Type} (n m : Nat) (ks : Ks X) (s : F.dec_Parse.L14.head.den) : Option X := F.dec_Parse.L14 n (fun qb0_0 qb0_1 qb0_2 qb1_0 qb1_1 qb2_0 qb2_1 qb3_0 qb3_1 qb3_2 => ks.ex 0 (F.dec_Parse.L14.e0.e (((), (), (), ()), ((qb0_0, qb0_1, qb0_2, ()), (qb1_0, qb1_1, ()), (qb2_0, qb2_1, ()), (qb3_0, qb3_1, qb3_2, ()), ()), (), ())) (F.dec_Parse.L14.e0.h (((), (), (), ()), ((qb0_0, qb0_1, qb0_2, ()), (qb1_0, qb1_1, ()), (qb2_0, qb2_1, ()), (qb3_0, qb3_1, qb3_2, ()), ()), (), ()))) m s.1.2.2.1 s.1.2.2.2.2.1 s.1.2.2.2.2.2.1 s.2.1.1.1 s.2.1.1.2.1 s.2.1.1.2.2.1 s.2.1.2.1.1 s.2.1.2.1.2.1 s.2.1.2.2.1.1 s.2.1.2.2.1.2.1 s.2.1.2.2.2.1.1 s.2.1.2.2.2.1.2.1 s.2.1.2.2.2.1.2.2.1
noncomputable def F.dec_Parse.L14.li (X : Type) (n : Nat) : LoopI X := ⟨8, ⟨0, 0, 0⟩, F.dec_Parse.L14.head, [(0, F.dec_Parse.L14.e0)], none, F.dec_Parse.L14.f n n⟩
noncomputable def cx35 (X : Type) (n : Nat) : Cx X := mkCx tab.get [(35, Tryz.f35)] [(32, orcOf [.str, .str] (.many [.str, .str, .bool]) (fun x => F.strings_Cut n x.1 x.2.1)), (48, orcOf [.str, .str] (.one .str) (fun x => O.trimR n x.1 x.2.1)), (60, orcOf [.str] (.one (.agg [(.int .i64), (.int .i64)])) (fun x => F.dec_look n x.1)), (61, orcOf [.str, .str] (.many [.str, .bool]) (fun x => F.strings_CutPrefix n x.1 x.2.1)), (62, orcOf [.str, .str] (.one .str) (fun x => O.trimL n x.1 x.2.1)), (63, orcOf [(.int .u64), (.int .u64)] (.many [(.int .u64), .bool]) (fun x => F.dec_times n x.1 x.2.1)), (64, orcOf [(.agg [.bool, (.int .u64), (.int .i64)])] (.many [(.agg [.bool, (.int .u64), (.int .i64)]), (.int .i64)]) (fun x => F.dec_Normal n x.1))] [(35, 14, [F.dec_Parse.L14.li X n])] [] [(35, 3, [(1, 2)])] []
theorem F.dec_Parse.L14.ok (X : Type) (n : Nat) : LoopOK (cx35 X n) 35 Tryz.f35.ntmps (loopNo Tryz.f35 0) (F.dec_Parse.L14.li X n) :=
  ⟨F.dec_Parse.L14.f n, n, fun _ _ => rfl, fun _ _ => rfl, fun m ks s => by kernel_rfl⟩
theorem cx35_ok (X : Type) (n : Nat) : CxOK Tryz.prog SW (cx35 X n) := mkCx_ok mixed (tabOK tab_ok) ⟨⟨Tryz.func35, by decide⟩, trivial⟩ ⟨orcOf_ok (ok32 n),
  orcOf_ok (ok48 n),
  orcOf_ok (ok60 n),
  orcOf_ok (ok61 n),
  orcOf_ok (ok62 n),
  orcOf_ok (ok63 n),
  orcOf_ok (ok64 n), trivial⟩ ⟨okC_mk (fun _ => rfl) (by kernel_rfl) (castP (by kernel_rfl) (show (LoopOK (cx35 X n) 35 Tryz.f35.ntmps (loopNo Tryz.f35 0) (F.dec_Parse.L14.li X n) ∧ True) ∧ True from ⟨⟨F.dec_Parse.L14.ok X n, trivial⟩, trivial⟩)) (castP (by kernel_rfl) (show True from trivial)), trivial⟩ trivial
theorem ok35 (n : Nat) : FnOK Tryz.prog SW 35 [.str] (.many [(.agg [.bool, (.int .u64), (.int .i64)]), (.agg [(.int .i64), (.int .i64)])]) (fun x => F.dec_Parse n x.1) := fnOK_of WOf.st (cx35_ok _ n) (d := 8) (fun x => by kernel_rfl)
noncomputable def cx66 (X : Type) (n : Nat) : Cx X := mkCx tab.get [(66, Tryz.f66)] [] [] [] [] []
theorem cx66_ok (X : Type) (n : Nat) : CxOK Tryz.prog SW (cx66 X n) := mkCx_ok mixed (tabOK tab_ok) ⟨⟨Tryz.func66, by decide⟩, trivial⟩ trivial ⟨okC_mk (fun _ => rfl) (by kernel_rfl) (castP (by kernel_rfl) (show True from trivial)) (castP (by kernel_rfl) (show True from trivial)), trivial⟩ trivial
theorem ok66 (n : Nat) : FnOK Tryz.prog SW 66 [(.int .i64), (.int .i64)] (.many [(.int .i64), (.agg [(.int .i64), (.int .i64)])]) (fun x => F.num_fault n x.1 x.2.1) := fnOK_of WOf.st (cx66_ok _ n) (d := 8) (fun x => by kernel_rfl)
def F.num_Rate.L5.head : Shape := ⟨[(0, .str), (3, (.const (.ref 0 0))), (4, (.const (.ref 1 0))), (16, (.agg [(.int .u8), (.int .u8)])), (17, (.int .i64))], [[(.int .i64), (.int .i64)], [(.int .i64), (.int .i64)]], [], [], [], 2, 0, 0⟩
def F.num_Rate.L5.e0 : Shape := ⟨[(0, .str), (3, (.const (.ref 0 0))), (4, (.const (.ref 1 0)))], [[(.int .i64), (.int .i64)], [(.int .i64), (.int .i64)]], [], [], [], 2, 0, 0⟩
noncomputable def F.num_Rate.L5.f {X : Type} (n m : Nat) (ks : Ks X) (s : F.num_Rate.L5.head.den) : Option X := F.num_Rate.L5 n (fun q0 qb0_0 qb0_1 qb1_0 qb1_1 => ks.ex 0 (F.num_Rate.L5.e0.e ((q0, (), (), ()), ((qb0_0, qb0_1, ()), (qb1_0, qb1_1, ()), ()), (), ())) (F.num_Rate.L5.e0.h ((q0, (), (), ()), ((qb0_0, qb0_1, ()), (qb1_0, qb1_1, ()), ()), (), ()))) m s.1.1 s.1.2.2.2.1 s.1.2.2.2.2.1 s.2.1.1.1 s.2.1.1.2.1 s.2.1.2.1.1 s.2.1.2.1.2.1
noncomputable def F.num_Rate.L5.li (X : Type) (n : Nat) : LoopI X := ⟨8, ⟨0, 0, 0⟩, F.num_Rate.L5.head, [(0, F.num_Rate.L5.e0)], none, F.num_Rate.L5.f n n⟩
def F.num_Rate.L23.head : Shape := ⟨[(3, (.const (.ref 0 0))), (7, .str), (9, (.const (.ref 3 0))), (10, (.const (.fn 67 [] [(.ref 3 0)]))), (81, (.int .i64))], [[(.int .i64), (.int .i64)], [(.int .i64), (.int .i64)], [(.int .i64), (.int .i64)], [(.int .i64)]], [], [], [], 4, 0, 0⟩
def F.num_Rate.L23.e3 : Shape := ⟨[(3, (.const (.ref 0 0))), (9, (.const (.ref 3 0)))], [[(.int .i64), (.int .i64)], [(.int .i64), (.int .i64)], [(.int .i64), (.int .i64)], [(.int .i64)]], [], [], [], 4, 0, 0⟩
noncomputable def F.num_Rate.L23.f {X : Type} (n m : Nat) (ks : Ks X) (s : F.num_Rate.L23.head.den) : Option X := F.num_Rate.L23 n (fun qb0_0 qb0_1 qb1_0 qb1_1 qb2_0 qb2_1 qb3_0 => ks.ex 3 (F.num_Rate.L23.e3.e (((), (), ()), ((qb0_0, qb0_1, ()), (qb1_0, qb1_1, ()), (qb2_0, qb2_1, ()), (qb3_0, ()), ()), (), ())) (F.num_Rate.L23.e3.h (((), (), ()), ((qb0_0, qb0_1, ()), (qb1_0, qb1_1, ()), (qb2_0, qb2_1, ()), (qb3_0, ()), ()), (), ()))) m s.1.2.1 s.1.2.2.2.2.1 s.2.1.1.1 s.2.1.1.2.1 s.2.1.2.1.1 s.2.1.2.1.2.1 s.2.1.2.2.1.1 s.2.1.2.2.1.2.1 s.2.1.2.2.2.1.1
noncomputable def F.num_Rate.L23.li (X : Type) (n : Nat) : LoopI X := ⟨8, ⟨0, 0, 0⟩, F.num_Rate.L23.head, [(3, F.num_Rate.L23.e3)], none, F.num_Rate.L23.f n n⟩
noncomputable def cx37 (X : Type) (n : Nat) : Cx X := mkCx tab.get [(37, Tryz.f37), (67, Tryz.f67)] [(33, orcOf [(.int .i64), .str, (.int .i64), (.int .i64)] (.one (.agg [(.int .i64), (.int .i64)])) (fun x => F.class_Text n x.1 x.2.1 x.2.2.1 x.2.2.2.1)), (66, orcOf [(.int .i64), (.int .i64)] (.many [(.int .i64), (.agg [(.int .i64), (.int .i64)])]) (fun x => F.num_fault n x.1 x.2.1))] [(37, 5, [F.num_Rate.L5.li X n]), (37, 23, [F.num_Rate.L23.li X n])] [] [] []
theorem F.num_Rate.L5.ok (X : Type) (n : Nat) : LoopOK (cx37 X n) 37 Tryz.f37.ntmps (loopNo Tryz.f37 0) (F.num_Rate.L5.li X n) :=
  ⟨F.num_Rate.L5.f n, n, fun _ _ => rfl, fun _ _ => rfl, fun m ks s => by kernel_rfl⟩
theorem F.num_Rate.L23.ok (X : Type) (n : Nat) : LoopOK (cx37 X n) 37 Tryz.f37.ntmps (loopNo Tryz.f37 1) (F.num_Rate.L23.li X n) :=
  ⟨F.num_Rate.L23.f n, n, fun _ _ => rfl, fun _ _ => rfl, fun m ks s => by kernel_rfl⟩
theorem cx37_ok (X : Type) (n : Nat) : CxOK Tryz.prog SW (cx37 X n) := mkCx_ok mixed (tabOK tab_ok) ⟨⟨Tryz.func37, by decide⟩,
  ⟨Tryz.func67, by decide⟩, trivial⟩ ⟨orcOf_ok (ok33 n),
  orcOf_ok (ok66 n), trivial⟩ ⟨okC_mk (fun _ => rfl) (by kernel_rfl) (castP (by kernel_rfl) (show (LoopOK (cx37 X n) 37 Tryz.f37.ntmps (loopNo Tryz.f37 0) (F.num_Rate.L5.li X n) ∧ True) ∧ (LoopOK (cx37 X n) 37 Tryz.f37.ntmps (loopNo Tryz.f37 1) (F.num_Rate.L23.li X n) ∧ True) ∧ True from ⟨⟨F.num_Rate.L5.ok X n, trivial⟩, ⟨F.num_Rate.L23.ok X n, trivial⟩, trivial⟩)) (castP (by kernel_rfl) (show True from trivial)),
  okC_mk (fun _ => rfl) (by kernel_rfl) (castP (by kernel_rfl) (show True from trivial)) (castP (by kernel_rfl) (show True from trivial)), trivial⟩ trivial
theorem ok37 (n : Nat) : FnOK Tryz.prog SW 37 [.str] (.many [(.int .i64), (.agg [(.int .i64), (.int .i64)])]) (fun x => F.num_Rate n x.1) := fnOK_of WOf.st (cx37_ok _ n) (d := 8) (fun x => by kernel_rfl)
def F.statsd_Parse.C30.head : Shape := ⟨[(2, (.const (.ref 1 0))), (3, (.const (.ref 2 0))), (4, (.const (.ref 3 0))), (6, (.const (.ref 4 0))), (9, .bool), (19, (.int .i64)), (141, .bool)], [[.str], [.str, (.int .i64), (.sl (.agg [.bool, (.int .u64), (.int .i64)]) (.own 0)), (.int .i64), (.sl (.agg [.str, .str]) (.own 1)), (.int .i64)], [(.int .i64), (.int .i64)], [(.int .i64)], [.str, (.int .i64), (.sl (.agg [.bool, (.int .u64), (.int .i64)]) (.own 2)), (.int .i64), (.sl (.agg [.str, .str]) (.own 3)), (.int .i64)]], [true, true, true, true], [], [], 5, 0, 0⟩
def F.statsd_Parse.C30.er : Shape := ⟨[(2, (.const (.ref 1 0))), (3, (.const (.ref 2 0)))], [[.str], [.str, (.int .i64), (.sl (.agg [.bool, (.int .u64), (.int .i64)]) .unk), (.int .i64), (.sl (.agg [.str, .str]) .unk), (.int .i64)], [(.int .i64), (.int .i64)]], [], [], [], 3, 0, 0⟩
def F.statsd_Parse.C30.en : Shape := ⟨[(2, (.const (.ref 1 0))), (3, (.const (.ref 2 0))), (4, (.const (.ref 3 0))), (6, (.const (.ref 4 0))), (9, .bool)], [[.str], [.str, (.int .i64), (.sl (.agg [.bool, (.int .u64), (.int .i64)]) (.own 0)), (.int .i64), (.sl (.agg [.str, .str]) (.own 1)), (.int .i64)], [(.int .i64), (.int .i64)], [(.int .i64)], [.str, (.int .i64), (.sl (.agg [.bool, (.int .u64), (.int .i64)]) (.own 2)), (.int .i64), (.sl (.agg [.str, .str]) (.own 3)), (.int .i64)]], [true, true, true, true], [], [], 5, 0, 0⟩
noncomputable def F.statsd_Parse.C30.f {X : Type} (n : Nat) (ks : Ks X) (s : F.statsd_Parse.C30.head.den) : Option X := F.statsd_Parse.C30 n (fun qb0_0 qb1_0 qb1_1 qb1_2 qb1_3 qb1_4 qb1_5 qb2_0 qb2_1 => ks.ret (F.statsd_Parse.C30.er.e (((), (), ()), ((qb0_0, ()), (qb1_0, qb1_1, qb1_2, qb1_3, qb1_4, qb1_5, ()), (qb2_0, qb2_1, ()), ()), (), ())) (F.statsd_Parse.C30.er.h (((), (), ()), ((qb0_0, ()), (qb1_0, qb1_1, qb1_2, qb1_3, qb1_4, qb1_5, ()), (qb2_0, qb2_1, ()), ()), (), ()))) (fun q9 qb0_0 qb1_0 qb1_1 qb1_2 qb1_3 qb1_4 qb1_5 qb2_0 qb2_1 qb3_0 qb4_0 qb4_1 qb4_2 qb4_3 qb4_4 qb4_5 qk0 qk1 qk2 qk3 => ks.nxt (F.statsd_Parse.C30.en.e (((), (), (), (), q9, ()), ((qb0_0, ()), (qb1_0, qb1_1, qb1_2, qb1_3, qb1_4, qb1_5, ()), (qb2_0, qb2_1, ()), (qb3_0, ()), (qb4_0, qb4_1, qb4_2, qb4_3, qb4_4, qb4_5, ()), ()), (qk0, qk1, qk2, qk3, ()), ())) (F.statsd_Parse.C30.en.h (((), (), (), (), q9, ()), ((qb0_0, ()), (qb1_0, qb1_1, qb1_2, qb1_3, qb1_4, qb1_5, ()), (qb2_0, qb2_1, ()), (qb3_0, ()), (qb4_0, qb4_1, qb4_2, qb4_3, qb4_4, qb4_5, ()), ()), (qk0, qk1, qk2, qk3, ()), ()))) s.1.2.2.2.2.1 s.1.2.2.2.2.2.1 s.1.2.2.2.2.2.2.1 s.2.1.1.1 s.2.1.2.1.1 s.2.1.2.1.2.1 s.2.1.2.1.2.2.1 s.2.1.2.1.2.2.2.1 s.2.1.2.1.2.2.2.2.1 s.2.1.2.1.2.2.2.2.2.1 s.2.1.2.2.1.1 s.2.1.2.2.1.2.1 s.2.1.2.2.2.1.1 s.2.1.2.2.2.2.1.1 s.2.1.2.2.2.2.1.2.1 s.2.1.2.2.2.2.1.2.2.1 s.2.1.2.2.2.2.1.2.2.2.1 s.2.1.2.2.2.2.1.2.2.2.2.1 s.2.1.2.2.2.2.1.2.2.2.2.2.1 s.2.2.1.1 s.2.2.1.2.1 s.2.2.1.2.2.1 s.2.2.1.2.2.2.1
noncomputable def F.statsd_Parse.C30.ci (X : Type) (n : Nat) : CutI X := ⟨8, ⟨0, 0, 0⟩, F.statsd_Parse.C30.head, some F.statsd_Parse.C30.en, [], some F.statsd_Parse.C30.er, F.statsd_Parse.C30.f n⟩
def F.statsd_Parse.C31.head : Shape := ⟨[(2, (.const (.ref 1 0))), (3, (.const (.ref 2 0))), (4, (.const (.ref 3 0))), (6, (.const (.ref 4 0))), (9, .bool)], [[.str], [.str, (.int .i64), (.sl (.agg [.bool, (.int .u64), (.int .i64)]) (.own 0)), (.int .i64), (.sl (.agg [.str, .str]) (.own 1)), (.int .i64)], [(.int .i64), (.int .i64)], [(.int .i64)], [.str, (.int .i64), (.sl (.agg [.bool, (.int .u64), (.int .i64)]) (.own 2)), (.int .i64), (.sl (.agg [.str, .str]) (.own 3)), (.int .i64)]], [true, true, true, true], [], [], 5, 0, 0⟩
def F.statsd_Parse.C31.er : Shape := ⟨[(2, (.const (.ref 1 0))), (3, (.const (.ref 2 0)))], [[.str], [.str, (.int .i64), (.sl (.agg [.bool, (.int .u64), (.int .i64)]) .unk), (.int .i64), (.sl (.agg [.str, .str]) .unk), (.int .i64)], [(.int .i64), (.int .i64)]], [], [], [], 3, 0, 0⟩
noncomputable def F.statsd_Parse.C31.f {X : Type} (n : Nat) (ks : Ks X) (s : F.statsd_Parse.C31.head.den) : Option X := F.statsd_Parse.C31 n (fun qb0_0 qb1_0 qb1_1 qb1_2 qb1_3 qb1_4 qb1_5 qb2_0 qb2_1 => ks.ret (F.statsd_Parse.C31.er.e (((), (), ()), ((qb0_0, ()), (qb1_0, qb1_1, qb1_2, qb1_3, qb1_4, qb1_5, ()), (qb2_0, qb2_1, ()), ()), (), ())) (F.statsd_Parse.C31.er.h (((), (), ()), ((qb0_0, ()), (qb1_0, qb1_1, qb1_2, qb1_3, qb1_4, qb1_5, ()), (qb2_0, qb2_1, ()), ()), (), ()))) s.1.2.2.2.2.1 s.2.1.1.1 s.2.1.2.1.1 s.2.1.2.1.2.1 s.2.1.2.1.2.2.1 s.2.1.2.1.2.2.2.1 s.2.1.2.1.2.2.2.2.1 s.2.1.2.1.2.2.2.2.2.1 s.2.1.2.2.1.1 s.2.1.2.2.1.2.1 s.2.1.2.2.2.1.1 s.2.1.2.2.2.2.1.1 s.2.1.2.2.2.2.1.2.1 s.2.1.2.2.2.2.1.2.2.1 s.2.1.2.2.2.2.1.2.2.2.1 s.2.1.2.2.2.2.1.2.2.2.2.1 s.2.1.2.2.2.2.1.2.2.2.2.2.1 s.2.2.1.1 s.2.2.1.2.1 s.2.2.1.2.2.1 s.2.2.1.2.2.2.1
noncomputable def F.statsd_Parse.C31.ci (X : Type) (n : Nat) : CutI X := ⟨8, ⟨0, 0, 0⟩, F.statsd_Parse.C31.head, none, [], some F.statsd_Parse.C31.er, F.statsd_Parse.C31.f n⟩
def F.statsd_Parse.C28.head : Shape := ⟨[(2, (.const (.ref 1 0))), (3, (.const (.ref 2 0))), (4, (.const (.ref 3 0))), (6, (.const (.ref 4 0))), (9, .bool), (13, (.const (.ref 6 0))), (16, (.int .i64)), (18, .str), (19, (.int .i64))], [[.str], [.str, (.int .i64), (.sl (.agg [.bool, (.int .u64), (.int .i64)]) (.own 0)), (.int .i64), (.sl (.agg [.str, .str]) (.own 1)), (.int .i64)], [(.int .i64), (.int .i64)], [(.int .i64)], [.str, (.int .i64), (.sl (.agg [.bool, (.int .u64), (.int .i64)]) (.own 2)), (.int .i64), (.sl (.agg [.str, .str]) (.own 3)), (.int .i64)], [.bool, (.int .u64), (.int .i64)], [(.int .i64), (.int .i64)]], [true, true, true, true], [], [], 7, 0, 0⟩
def F.statsd_Parse.C28.er : Shape := ⟨[(2, (.const (.ref 1 0))), (3, (.const (.ref 2 0)))], [[.str], [.str, (.int .i64), (.sl (.agg [.bool, (.int .u64), (.int .i64)]) .unk), (.int .i64), (.sl (.agg [.str, .str]) .unk), (.int .i64)], [(.int .i64), (.int .i64)]], [], [], [], 3, 0, 0⟩
noncomputable def F.statsd_Parse.C28.f {X : Type} (n : Nat) (ks : Ks X) (s : F.statsd_Parse.C28.head.den) : Option X := F.statsd_Parse.C28 n (fun qb0_0 qb1_0 qb1_1 qb1_2 qb1_3 qb1_4 qb1_5 qb2_0 qb2_1 => ks.ret (F.statsd_Parse.C28.er.e (((), (), ()), ((qb0_0, ()), (qb1_0, qb1_1, qb1_2, qb1_3, qb1_4, qb1_5, ()), (qb2_0, qb2_1, ()), ()), (), ())) (F.statsd_Parse.C28.er.h (((), (), ()), ((qb0_0, ()), (qb1_0, qb1_1, qb1_2, qb1_3, qb1_4, qb1_5, ()), (qb2_0, qb2_1, ()), ()), (), ()))) s.1.2.2.2.2.1 s.1.2.2.2.2.2.2.1 s.1.2.2.2.2.2.2.2.1 s.1.2.2.2.2.2.2.2.2.1 s.2.1.1.1 s.2.1.2.1.1 s.2.1.2.1.2.1 s.2.1.2.1.2.2.1 s.2.1.2.1.2.2.2.1 s.2.1.2.1.2.2.2.2.1 s.2.1.2.1.2.2.2.2.2.1 s.2.1.2.2.1.1 s.2.1.2.2.1.2.1 s.2.1.2.2.2.1.1 s.2.1.2.2.2.2.1.1 s.2.1.2.2.2.2.1.2.1 s.2.1.2.2.2.2.1.2.2.1 s.2.1.2.2.2.2.1.2.2.2.1 s.2.1.2.2.2.2.1.2.2.2.2.1 s.2.1.2.2.2.2.1.2.2.2.2.2.1 s.2.1.2.2.2.2.2.1.1 s.2.1.2.2.2.2.2.1.2.1 s.2.1.2.2.2.2.2.1.2.2.1 s.2.1.2.2.2.2.2.2.1.1 s.2.1.2.2.2.2.2.2.1.2.1 s.2.2.1.1 s.2.2.1.2.1 s.2.2.1.2.2.1 s.2.2.1.2.2.2.1
noncomputable def F.statsd_Parse.C28.ci (X : Type) (n : Nat) : CutI X := ⟨8, ⟨0, 0, 0⟩, F.statsd_Parse.C28.head, none, [], some F.statsd_Parse.C28.er, F.statsd_Parse.C28.f n⟩
def F.statsd_Parse.C21.head : Shape := ⟨[(1, (.const (.ref 0 0))), (2, (.const (.ref 1 0))), (3, (.const (.ref 2 0))), (4, (.const (.ref 3 0))), (5, (.const (.fn 31 [] [(.ref 3 0), (.ref 0 0)]))), (6, (.const (.ref 4 0))), (7, .str), (9, .bool), (12, (.const (.ref 5 0))), (13, (.const (.ref 6 0))), (16, (.int .i64))], [[.str], [.str, (.int .i64), (.sl (.agg [.bool, (.int .u64), (.int .i64)]) (.own 0)), (.int .i64), (.sl (.agg [.str, .str]) (.own 1)), (.int .i64)], [(.int .i64), (.int .i64)], [(.int .i64)], [.str, (.int .i64), (.sl (.agg [.bool, (.int .u64), (.int .i64)]) (.own 2)), (.int .i64), (.sl (.agg [.str, .str]) (.own 3)), (.int .i64)], [.bool, (.int .u64), (.int .i64)], [(.int .i64), (.int .i64)]], [true, true, true, true], [], [], 7, 0, 0⟩
def F.statsd_Parse.C21.er : Shape := ⟨[(2, (.const (.ref 1 0))), (3, (.const (.ref 2 0)))], [[.str], [.str, (.int .i64), (.sl (.agg [.bool, (.int .u64), (.int .i64)]) .unk), (.int .i64), (.sl (.agg [.str, .str]) .unk), (.int .i64)], [(.int .i64), (.int .i64)]], [], [], [], 3, 0, 0⟩
noncomputable def F.statsd_Parse.C21.f {X : Type} (n : Nat) (ks : Ks X) (s : F.statsd_Parse.C21.head.den) : Option X := F.statsd_Parse.C21 n (fun qb0_0 qb1_0 qb1_1 qb1_2 qb1_3 qb1_4 qb1_5 qb2_0 qb2_1 => ks.ret (F.statsd_Parse.C21.er.e (((), (), ()), ((qb0_0, ()), (qb1_0, qb1_1, qb1_2, qb1_3, qb1_4, qb1_5, ()), (qb2_0, qb2_1, ()), ()), (), ())) (F.statsd_Parse.C21.er.h (((), (), ()), ((qb0_0, ()), (qb1_0, qb1_1, qb1_2, qb1_3, qb1_4, qb1_5, ()), (qb2_0, qb2_1, ()), ()), (), ()))) s.1.2.2.2.2.2.2.1 s.1.2.2.2.2.2.2.2.1 s.1.2.2.2.2.2.2.2.2.2.2.1 s.2.1.1.1 s.2.1.2.1.1 s.2.1.2.1.2.1 s.2.1.2.1.2.2.1 s.2.1.2.1.2.2.2.1 s.2.1.2.1.2.2.2.2.1 s.2.1.2.1.2.2.2.2.2.1 s.2.1.2.2.1.1 s.2.1.2.2.1.2.1 s.2.1.2.2.2.1.1 s.2.1.2.2.2.2.1.1 s.2.1.2.2.2.2.1.2.1 s.2.1.2.2.2.2.1.2.2.1 s.2.1.2.2.2.2.1.2.2.2.1 s.2.1.2.2.2.2.1.2.2.2.2.1 s.2.1.2.2.2.2.1.2.2.2.2.2.1 s.2.1.2.2.2.2.2.1.1 s.2.1.2.2.2.2.2.1.2.1 s.2.1.2.2.2.2.2.1.2.2.1 s.2.1.2.2.2.2.2.2.1.1 s.2.1.2.2.2.2.2.2.1.2.1 s.2.2.1.1 s.2.2.1.2.1 s.2.2.1.2.2.1 s.2.2.1.2.2.2.1
noncomputable def F.statsd_Parse.C21.ci (X : Type) (n : Nat) : CutI X := ⟨8, ⟨0, 0, 0⟩, F.statsd_Parse.C21.head, none, [], some F.statsd_Parse.C21.er, F.statsd_Parse.C21.f n⟩
def F.statsd_Parse.C16.head : Shape := ⟨[(1, (.const (.ref 0 0))), (2, (.const (.ref 1 0))), (3, (.const (.ref 2 0))), (4, (.const (.ref 3 0))), (5, (.const (.fn 31 [] [(.ref 3 0), (.ref 0 0)]))), (6, (.const (.ref 4 0))), (7, .str), (9, .bool), (10, .str), (11, (.int .i64)), (12, (.const (.ref 5 0))), (13, (.const (.ref 6 0))), (14, .str), (15, (.int .i64))], [[.str], [.str, (.int .i64), (.sl (.agg [.bool, (.int .u64), (.int .i64)]) (.own 0)), (.int .i64), (.sl (.agg [.str, .str]) (.own 1)), (.int .i64)], [(.int .i64), (.int .i64)], [(.int .i64)], [.str, (.int .i64), (.sl (.agg [.bool, (.int .u64), (.int .i64)]) (.own 2)), (.int .i64), (.sl (.agg [.str, .str]) (.own 3)), (.int .i64)], [.bool, (.int .u64), (.int .i64)], [(.int .i64), (.int .i64)]], [true, true, true, true], [], [], 7, 0, 0⟩
def F.statsd_Parse.C16.er : Shape := ⟨[(2, (.const (.ref 1 0))), (3, (.const (.ref 2 0)))], [[.str], [.str, (.int .i64), (.sl (.agg [.bool, (.int .u64), (.int .i64)]) .unk), (.int .i64), (.sl (.agg [.str, .str]) .unk), (.int .i64)], [(.int .i64), (.int .i64)]], [], [], [], 3, 0, 0⟩
noncomputable def F.statsd_Parse.C16.f {X : Type} (n : Nat) (ks : Ks X) (s : F.statsd_Parse.C16.head.den) : Option X := F.statsd_Parse.C16 n (fun qb0_0 qb1_0 qb1_1 qb1_2 qb1_3 qb1_4 qb1_5 qb2_0 qb2_1 => ks.ret (F.statsd_Parse.C16.er.e (((), (), ()), ((qb0_0, ()), (qb1_0, qb1_1, qb1_2, qb1_3, qb1_4, qb1_5, ()), (qb2_0, qb2_1, ()), ()), (), ())) (F.statsd_Parse.C16.er.h (((), (), ()), ((qb0_0, ()), (qb1_0, qb1_1, qb1_2, qb1_3, qb1_4, qb1_5, ()), (qb2_0, qb2_1, ()), ()), (), ()))) s.1.2.2.2.2.2.2.1 s.1.2.2.2.2.2.2.2.1 s.1.2.2.2.2.2.2.2.2.1 s.1.2.2.2.2.2.2.2.2.2.1 s.1.2.2.2.2.2.2.2.2.2.2.2.2.1 s.1.2.2.2.2.2.2.2.2.2.2.2.2.2.1 s.2.1.1.1 s.2.1.2.1.1 s.2.1.2.1.2.1 s.2.1.2.1.2.2.1 s.2.1.2.1.2.2.2.1 s.2.1.2.1.2.2.2.2.1 s.2.1.2.1.2.2.2.2.2.1 s.2.1.2.2.1.1 s.2.1.2.2.1.2.1 s.2.1.2.2.2.1.1 s.2.1.2.2.2.2.1.1 s.2.1.2.2.2.2.1.2.1 s.2.1.2.2.2.2.1.2.2.1 s.2.1.2.2.2.2.1.2.2.2.1 s.2.1.2.2.2.2.1.2.2.2.2.1 s.2.1.2.2.2.2.1.2.2.2.2.2.1 s.2.1.2.2.2.2.2.1.1 s.2.1.2.2.2.2.2.1.2.1 s.2.1.2.2.2.2.2.1.2.2.1 s.2.1.2.2.2.2.2.2.1.1 s.2.1.2.2.2.2.2.2.1.2.1 s.2.2.1.1 s.2.2.1.2.1 s.2.2.1.2.2.1 s.2.2.1.2.2.2.1
noncomputable def F.statsd_Parse.C16.ci (X : Type) (n : Nat) : CutI X := ⟨8, ⟨0, 0, 0⟩, F.statsd_Parse.C16.head, none, [], some F.statsd_Parse.C16.er, F.statsd_Parse.C16.f n⟩
def F.statsd_Parse.C10.head : Shape := ⟨[(1, (.const (.ref 0 0))), (2, (.const (.ref 1 0))), (3, (.const (.ref 2 0))), (4, (.const (.ref 3 0))), (5, (.const (.fn 31 [] [(.ref 3 0), (.ref 0 0)]))), (6, (.const (.ref 4 0))), (7, .str), (9, .bool), (10, .str), (11, (.int .i64))], [[.str], [.str, (.int .i64), (.sl (.agg [.bool, (.int .u64), (.int .i64)]) (.own 0)), (.int .i64), (.sl (.agg [.str, .str]) (.own 1)), (.int .i64)], [(.int .i64), (.int .i64)], [(.int .i64)], [.str, (.int .i64), (.sl (.agg [.bool, (.int .u64), (.int .i64)]) (.own 2)), (.int .i64), (.sl (.agg [.str, .str]) (.own 3)), (.int .i64)]], [true, true, true, true], [], [], 5, 0, 0⟩
def F.statsd_Parse.C10.er : Shape := ⟨[(2, (.const (.ref 1 0))), (3, (.const (.ref 2 0)))], [[.str], [.str, (.int .i64), (.sl (.agg [.bool, (.int .u64), (.int .i64)]) .unk), (.int .i64), (.sl (.agg [.str, .str]) .unk), (.int .i64)], [(.int .i64), (.int .i64)]], [], [], [], 3, 0, 0⟩
noncomputable def F.statsd_Parse.C10.f {X : Type} (n : Nat) (ks : Ks X) (s : F.statsd_Parse.C10.head.den) : Option X := F.statsd_Parse.C10 n (fun qb0_0 qb1_0 qb1_1 qb1_2 qb1_3 qb1_4 qb1_5 qb2_0 qb2_1 => ks.ret (F.statsd_Parse.C10.er.e (((), (), ()), ((qb0_0, ()), (qb1_0, qb1_1, qb1_2, qb1_3, qb1_4, qb1_5, ()), (qb2_0, qb2_1, ()), ()), (), ())) (F.statsd_Parse.C10.er.h (((), (), ()), ((qb0_0, ()), (qb1_0, qb1_1, qb1_2, qb1_3, qb1_4, qb1_5, ()), (qb2_0, qb2_1, ()), ()), (), ()))) s.1.2.2.2.2.2.2.1 s.1.2.2.2.2.2.2.2.1 s.1.2.2.2.2.2.2.2.2.1 s.1.2.2.2.2.2.2.2.2.2.1 s.2.1.1.1 s.2.1.2.1.1 s.2.1.2.1.2.1 s.2.1.2.1.2.2.1 s.2.1.2.1.2.2.2.1 s.2.1.2.1.2.2.2.2.1 s.2.1.2.1.2.2.2.2.2.1 s.2.1.2.2.1.1 s.2.1.2.2.1.2.1 s.2.1.2.2.2.1.1 s.2.1.2.2.2.2.1.1 s.2.1.2.2.2.2.1.2.1 s.2.1.2.2.2.2.1.2.2.1 s.2.1.2.2.2.2.1.2.2.2.1 s.2.1.2.2.2.2.1.2.2.2.2.1 s.2.1.2.2.2.2.1.2.2.2.2.2.1 s.2.2.1.1 s.2.2.1.2.1 s.2.2.1.2.2.1 s.2.2.1.2.2.2.1
noncomputable def F.statsd_Parse.C10.ci (X : Type) (n : Nat) : CutI X := ⟨8, ⟨0, 0, 0⟩, F.statsd_Parse.C10.head, none, [], some F.statsd_Parse.C10.er, F.statsd_Parse.C10.f n⟩
def F.statsd_Parse.C5.head : Shape := ⟨[(1, (.const (.ref 0 0))), (2, (.const (.ref 1 0))), (3, (.const (.ref 2 0))), (4, (.const (.ref 3 0))), (5, (.const (.fn 31 [] [(.ref 3 0), (.ref 0 0)]))), (6, (.const (.ref 4 0))), (7, .str), (9, .bool)], [[.str], [.str, (.int .i64), (.sl (.agg [.bool, (.int .u64), (.int .i64)]) (.own 0)), (.int .i64), (.sl (.agg [.str, .str]) (.own 1)), (.int .i64)], [(.int .i64), (.int .i64)], [(.int .i64)], [.str, (.int .i64), (.sl (.agg [.bool, (.int .u64), (.int .i64)]) (.own 2)), (.int .i64), (.sl (.agg [.str, .str]) (.own 3)), (.int .i64)]], [true, true, true, true], [], [], 5, 0, 0⟩
def F.statsd_Parse.C5.er : Shape := ⟨[(2, (.const (.ref 1 0))), (3, (.const (.ref 2 0)))], [[.str], [.str, (.int .i64), (.sl (.agg [.bool, (.int .u64), (.int .i64)]) .unk), (.int .i64), (.sl (.agg [.str, .str]) .unk), (.int .i64)], [(.int .i64), (.int .i64)]], [], [], [], 3, 0, 0⟩
noncomputable def F.statsd_Parse.C5.f {X : Type} (n : Nat) (ks : Ks X) (s : F.statsd_Parse.C5.head.den) : Option X := F.statsd_Parse.C5 n (fun qb0_0 qb1_0 qb1_1 qb1_2 qb1_3 qb1_4 qb1_5 qb2_0 qb2_1 => ks.ret (F.statsd_Parse.C5.er.e (((), (), ()), ((qb0_0, ()), (qb1_0, qb1_1, qb1_2, qb1_3, qb1_4, qb1_5, ()), (qb2_0, qb2_1, ()), ()), (), ())) (F.statsd_Parse.C5.er.h (((), (), ()), ((qb0_0, ()), (qb1_0, qb1_1, qb1_2, qb1_3, qb1_4, qb1_5, ()), (qb2_0, qb2_1, ()), ()), (), ()))) s.1.2.2.2.2.2.2.1 s.1.2.2.2.2.2.2.2.1 s.2.1.1.1 s.2.1.2.1.1 s.2.1.2.1.2.1 s.2.1.2.1.2.2.1 s.2.1.2.1.2.2.2.1 s.2.1.2.1.2.2.2.2.1 s.2.1.2.1.2.2.2.2.2.1 s.2.1.2.2.1.1 s.2.1.2.2.1.2.1 s.2.1.2.2.2.1.1 s.2.1.2.2.2.2.1.1 s.2.1.2.2.2.2.1.2.1 s.2.1.2.2.2.2.1.2.2.1 s.2.1.2.2.2.2.1.2.2.2.1 s.2.1.2.2.2.2.1.2.2.2.2.1 s.2.1.2.2.2.2.1.2.2.2.2.2.1 s.2.2.1.1 s.2.2.1.2.1 s.2.2.1.2.2.1 s.2.2.1.2.2.2.1
noncomputable def F.statsd_Parse.C5.ci (X : Type) (n : Nat) : CutI X := ⟨8, ⟨0, 0, 0⟩, F.statsd_Parse.C5.head, none, [], some F.statsd_Parse.C5.er, F.statsd_Parse.C5.f n⟩
noncomputable def cx14 (X : Type) (n : Nat) : Cx X := mkCx tab.get [(14, Tryz.f14), (31, Tryz.f31)] [(19, orcOf [.str] (.many [(.int .i64), (.int .i64)]) (fun x => F.statsd_Kind n x.1)), (32, orcOf [.str, .str] (.many [.str, .str, .bool]) (fun x => F.strings_Cut n x.1 x.2.1)), (33, orcOf [(.int .i64), .str, (.int .i64), (.int .i64)] (.one (.agg [(.int .i64), (.int .i64)])) (fun x => F.class_Text n x.1 x.2.1 x.2.2.1 x.2.2.2.1)), (34, orcOf [(.int .i64), (.int .i64)] (.many [(.agg [.str, (.int .i64), (.sl (.agg [.bool, (.int .u64), (.int .i64)]) .unk), (.int .i64), (.sl (.agg [.str, .str]) .unk), (.int .i64)]), (.agg [(.int .i64), (.int .i64)])]) (fun x => F.statsd_fault n x.1 x.2.1)), (35, orcOf [.str] (.many [(.agg [.bool, (.int .u64), (.int .i64)]), (.agg [(.int .i64), (.int .i64)])]) (fun x => F.dec_Parse n x.1)), (36, orcOf [.str, .str] (.one .bool) (fun x => F.strings_HasPrefix n x.1 x.2.1)), (37, orcOf [.str] (.many [(.int .i64), (.agg [(.int .i64), (.int .i64)])]) (fun x => F.num_Rate n x.1))] [] [] [(14, 21, [(2, 5), (2, 7)])] [] [(14, 5, [F.statsd_Parse.C5.ci X n]), (14, 10, [F.statsd_Parse.C10.ci X n]), (14, 16, [F.statsd_Parse.C16.ci X n]), (14, 21, [F.statsd_Parse.C21.ci X n]), (14, 28, [F.statsd_Parse.C28.ci X n]), (14, 30, [F.statsd_Parse.C30.ci X n]), (14, 31, [F.statsd_Parse.C31.ci X n])]
theorem F.statsd_Parse.C30.ok (X : Type) (n : Nat) : CutOK (cx14 X n) 14 Tryz.f14.ntmps (cutNo Tryz.f14 37) (F.statsd_Parse.C30.ci X n) :=
  fun ks s => by kernel_rfl
theorem F.statsd_Parse.C31.ok (X : Type) (n : Nat) : CutOK (cx14 X n) 14 Tryz.f14.ntmps (cutNo Tryz.f14 36) (F.statsd_Parse.C31.ci X n) :=
  fun ks s => by kernel_rfl
theorem F.statsd_Parse.C28.ok (X : Type) (n : Nat) : CutOK (cx14 X n) 14 Tryz.f14.ntmps (cutNo Tryz.f14 34) (F.statsd_Parse.C28.ci X n) :=
  fun ks s => by kernel_rfl
theorem F.statsd_Parse.C21.ok (X : Type) (n : Nat) : CutOK (cx14 X n) 14 Tryz.f14.ntmps (cutNo Tryz.f14 21) (F.statsd_Parse.C21.ci X n) :=
  fun ks s => by kernel_rfl
theorem F.statsd_Parse.C16.ok (X : Type) (n : Nat) : CutOK (cx14 X n) 14 Tryz.f14.ntmps (cutNo Tryz.f14 19) (F.statsd_Parse.C16.ci X n) :=
  fun ks s => by kernel_rfl
theorem F.statsd_Parse.C10.ok (X : Type) (n : Nat) : CutOK (cx14 X n) 14 Tryz.f14.ntmps (cutNo Tryz.f14 11) (F.statsd_Parse.C10.ci X n) :=
  fun ks s => by kernel_rfl
theorem F.statsd_Parse.C5.ok (X : Type) (n : Nat) : CutOK (cx14 X n) 14 Tryz.f14.ntmps (cutNo Tryz.f14 4) (F.statsd_Parse.C5.ci X n) :=
  fun ks s => by kernel_rfl
theorem cx14_ok (X : Type) (n : Nat) : CxOK Tryz.prog SW (cx14 X n) := mkCx_ok mixed (tabOK tab_ok) ⟨⟨Tryz.func14, by decide⟩,
  ⟨Tryz.func31, by decide⟩, trivial⟩ ⟨orcOf_ok (ok19 n),
  orcOf_ok (ok32 n),
  orcOf_ok (ok33 n),
  orcOf_ok (ok34 n),
  orcOf_ok (ok35 n),
  orcOf_ok (ok36 n),
  orcOf_ok (ok37 n), trivial⟩ ⟨okC_mkc (castP (by kernel_rfl) (show (True) ∧ (True) ∧ (True) ∧ (True) ∧ (CutOK (cx14 X n) 14 Tryz.f14.ntmps (cutNo Tryz.f14 4) (F.statsd_Parse.C5.ci X n) ∧ True) ∧ (True) ∧ (True) ∧ (True) ∧ (True) ∧ (True) ∧ (True) ∧ (CutOK (cx14 X n) 14 Tryz.f14.ntmps (cutNo Tryz.f14 11) (F.statsd_Parse.C10.ci X n) ∧ True) ∧ (True) ∧ (True) ∧ (True) ∧ (True) ∧ (True) ∧ (True) ∧ (True) ∧ (CutOK (cx14 X n) 14 Tryz.f14.ntmps (cutNo Tryz.f14 19) (F.statsd_Parse.C16.ci X n) ∧ True) ∧ (True) ∧ (CutOK (cx14 X n) 14 Tryz.f14.ntmps (cutNo Tryz.f14 21) (F.statsd_Parse.C21.ci X n) ∧ True) ∧ (True) ∧ (True) ∧ (True) ∧ (True) ∧ (True) ∧ (True) ∧ (True) ∧ (True) ∧ (True) ∧ (True) ∧ (True) ∧ (True) ∧ (CutOK (cx14 X n) 14 Tryz.f14.ntmps (cutNo Tryz.f14 34) (F.statsd_Parse.C28.ci X n) ∧ True) ∧ (True) ∧ (CutOK (cx14 X n) 14 Tryz.f14.ntmps (cutNo Tryz.f14 36) (F.statsd_Parse.C31.ci X n) ∧ True) ∧ (CutOK (cx14 X n) 14 Tryz.f14.ntmps (cutNo Tryz.f14 37) (F.statsd_Parse.C30.ci X n) ∧ True) ∧ (True) ∧ (True) ∧ (True) ∧ (True) ∧ (True) ∧ True from ⟨trivial, trivial, trivial, trivial, ⟨F.statsd_Parse.C5.ok X n, trivial⟩, trivial, trivial, trivial, trivial, trivial, trivial, ⟨F.statsd_Parse.C10.ok X n, trivial⟩, trivial, trivial, trivial, trivial, trivial, trivial, trivial, ⟨F.statsd_Parse.C16.ok X n, trivial⟩, trivial, ⟨F.statsd_Parse.C21.ok X n, trivial⟩, trivial, trivial, trivial, trivial, trivial, trivial, trivial, trivial, trivial, trivial, trivial, trivial, ⟨F.statsd_Parse.C28.ok X n, trivial⟩, trivial, ⟨F.statsd_Parse.C31.ok X n, trivial⟩, ⟨F.statsd_Parse.C30.ok X n, trivial⟩, trivial, trivial, trivial, trivial, trivial, trivial⟩)) (by kernel_rfl) (castP (by kernel_rfl) (show True from trivial)) (castP (by kernel_rfl) (show True from trivial)),
  okC_mk (fun _ => rfl) (by kernel_rfl) (castP (by kernel_rfl) (show True from trivial)) (castP (by kernel_rfl) (show True from trivial)), trivial⟩ trivial
theorem ok14 (n : Nat) : FnOK Tryz.prog SW 14 [.str] (.many [(.agg [.str, (.int .i64), (.sl (.agg [.bool, (.int .u64), (.int .i64)]) .unk), (.int .i64), (.sl (.agg [.str, .str]) .unk), (.int .i64)]), (.agg [(.int .i64), (.int .i64)])]) (fun x => F.statsd_Parse n x.1) := fnOK_of WOf.st (cx14_ok _ n) (d := 8) (fun x => by kernel_rfl)
noncomputable def cx10 (X : Type) (n : Nat) : Cx X := mkCx tab.get [(10, Tryz.f10)] [(11, orcOf [(.agg [.str, (.int .i64), (.sl (.agg [.bool, (.int .u64), (.int .i64)]) .unk), (.int .i64), (.sl (.agg [.str, .str]) .unk), (.int .i64)])] (.many [.str, (.int .i64)]) (fun x => F.statsd_Line n x.1)), (14, orcOf [.str] (.many [(.agg [.str, (.int .i64), (.sl (.agg [.bool, (.int .u64), (.int .i64)]) .unk), (.int .i64), (.sl (.agg [.str, .str]) .unk), (.int .i64)]), (.agg [(.int .i64), (.int .i64)])]) (fun x => F.statsd_Parse n x.1))] [] [] [] []
theorem cx10_ok (X : Type) (n : Nat) : CxOK Tryz.prog SW (cx10 X n) := mkCx_ok mixed (tabOK tab_ok) ⟨⟨Tryz.func10, by decide⟩, trivial⟩ ⟨orcOf_ok (ok11 n),
  orcOf_ok (ok14 n), trivial⟩ ⟨okC_mk (fun _ => rfl) (by kernel_rfl) (castP (by kernel_rfl) (show True from trivial)) (castP (by kernel_rfl) (show True from trivial)), trivial⟩ trivial
theorem ok10 (n : Nat) : FnOK Tryz.prog SW 10 [] (.one .bool) (fun x => F.law10_awake n ) := fnOK_of WOf.st (cx10_ok _ n) (d := 8) (fun x => by kernel_rfl)
noncomputable def cx18 (X : Type) (n : Nat) : Cx X := mkCx tab.get [(18, Tryz.f18)] [] [] [] [] []
theorem cx18_ok (X : Type) (n : Nat) : CxOK Tryz.prog SW (cx18 X n) := mkCx_ok mixed (tabOK tab_ok) ⟨⟨Tryz.func18, by decide⟩, trivial⟩ trivial ⟨okC_mk (fun _ => rfl) (by kernel_rfl) (castP (by kernel_rfl) (show True from trivial)) (castP (by kernel_rfl) (show True from trivial)), trivial⟩ trivial
theorem ok18 (n : Nat) : FnOK Tryz.prog SW 18 [(.int .i64)] (.one .str) (fun x => F.ref10_Word n x.1) := fnOK_of WOf.st (cx18_ok _ n) (d := 8) (fun x => by kernel_rfl)
def F.ref10_Kind.L2.head : Shape := ⟨[(0, .str), (3, (.int .i64))], [], [], [], [], 0, 0, 0⟩
def F.ref10_Kind.L2.e0 : Shape := ⟨[], [], [], [], [], 0, 0, 0⟩
def F.ref10_Kind.L2.er : Shape := ⟨[(2, (.int .i64))], [], [], [], [], 0, 0, 0⟩
noncomputable def F.ref10_Kind.L2.f {X : Type} (n m : Nat) (ks : Ks X) (s : F.ref10_Kind.L2.head.den) : Option X := F.ref10_Kind.L2 n (fun (_ : Unit) => ks.ex 0 (F.ref10_Kind.L2.e0.e ((), (), (), ())) (F.ref10_Kind.L2.e0.h ((), (), (), ()))) (fun q2 => ks.ret (F.ref10_Kind.L2.er.e ((q2, ()), (), (), ())) (F.ref10_Kind.L2.er.h ((q2, ()), (), (), ()))) m s.1.1 s.1.2.1
noncomputable def F.ref10_Kind.L2.li (X : Type) (n : Nat) : LoopI X := ⟨8, ⟨0, 0, 0⟩, F.ref10_Kind.L2.head, [(0, F.ref10_Kind.L2.e0)], some F.ref10_Kind.L2.er, F.ref10_Kind.L2.f n n⟩
noncomputable def cx20 (X : Type) (n : Nat) : Cx X := mkCx tab.get [(20, Tryz.f20)] [(18, orcOf [(.int .i64)] (.one .str) (fun x => F.ref10_Word n x.1))] [(20, 2, [F.ref10_Kind.L2.li X n])] [] [] []
theorem F.ref10_Kind.L2.ok (X : Type) (n : Nat) : LoopOK (cx20 X n) 20 Tryz.f20.ntmps (loopNo Tryz.f20 0) (F.ref10_Kind.L2.li X n) :=
  ⟨F.ref10_Kind.L2.f n, n, fun _ _ => rfl, fun _ _ => rfl, fun m ks s => by kernel_rfl⟩
theorem cx20_ok (X : Type) (n : Nat) : CxOK Tryz.prog SW (cx20 X n) := mkCx_ok mixed (tabOK tab_ok) ⟨⟨Tryz.func20, by decide⟩, trivial⟩ ⟨orcOf_ok (ok18 n), trivial⟩ ⟨okC_mk (fun _ => rfl) (by kernel_rfl) (castP (by kernel_rfl) (show (LoopOK (cx20 X n) 20 Tryz.f20.ntmps (loopNo Tryz.f20 0) (F.ref10_Kind.L2.li X n) ∧ True) ∧ True from ⟨⟨F.ref10_Kind.L2.ok X n, trivial⟩, trivial⟩)) (castP (by kernel_rfl) (show True from trivial)), trivial⟩ trivial
theorem ok20 (n : Nat) : FnOK Tryz.prog SW 20 [.str] (.one (.int .i64)) (fun x => F.ref10_Kind n x.1) := fnOK_of WOf.st (cx20_ok _ n) (d := 8) (fun x => by kernel_rfl)
noncomputable def cx5 (X : Type) (n : Nat) : Cx X := mkCx tab.get [(5, Tryz.f5)] [(10, orcOf [] (.one .bool) (fun x => F.law10_awake n )), (17, orcOf [(.int .i64)] (.many [.str, (.int .i64)]) (fun x => O.word n x.1)), (18, orcOf [(.int .i64)] (.one .str) (fun x => F.ref10_Word n x.1)), (19, orcOf [.str] (.many [(.int .i64), (.int .i64)]) (fun x => F.statsd_Kind n x.1)), (20, orcOf [.str] (.one (.int .i64)) (fun x => F.ref10_Kind n x.1))] [] [] [] []
theorem cx5_ok (X : Type) (n : Nat) : CxOK Tryz.prog SW (cx5 X n) := mkCx_ok mixed (tabOK tab_ok) ⟨⟨Tryz.func5, by decide⟩, trivial⟩ ⟨orcOf_ok (ok10 n),
  orcOf_ok (ok17 n),
  orcOf_ok (ok18 n),
  orcOf_ok (ok19 n),
  orcOf_ok (ok20 n), trivial⟩ ⟨okC_mk (fun _ => rfl) (by kernel_rfl) (castP (by kernel_rfl) (show True from trivial)) (castP (by kernel_rfl) (show True from trivial)), trivial⟩ trivial
theorem ok5 (n : Nat) : FnOK Tryz.prog SW 5 [(.int .i64), .str] (.one .bool) (fun x => F.law10_StatsdWords n x.1 x.2.1) := fnOK_of WOf.st (cx5_ok _ n) (d := 8) (fun x => by kernel_rfl)
def F.law10_Small.L2.head : Shape := ⟨[(1, (.const (.ref 0 0))), (3, (.int .i64))], [[.str, (.int .i64), (.sl (.agg [.bool, (.int .u64), (.int .i64)]) .unk), (.int .i64), (.sl (.agg [.str, .str]) .unk), (.int .i64)]], [], [], [], 1, 0, 0⟩
def F.law10_Small.L2.e0 : Shape := ⟨[(1, (.const (.ref 0 0)))], [[.str, (.int .i64), (.sl (.agg [.bool, (.int .u64), (.int .i64)]) .unk), (.int .i64), (.sl (.agg [.str, .str]) .unk), (.int .i64)]], [], [], [], 1, 0, 0⟩
def F.law10_Small.L2.er : Shape := ⟨[(2, .bool)], [[.str, (.int .i64), (.sl (.agg [.bool, (.int .u64), (.int .i64)]) .unk), (.int .i64), (.sl (.agg [.str, .str]) .unk), (.int .i64)]], [], [], [], 1, 0, 0⟩
noncomputable def F.law10_Small.L2.f {X : Type} (n m : Nat) (ks : Ks X) (s : F.law10_Small.L2.head.den) : Option X := F.law10_Small.L2 n (fun qb0_0 qb0_1 qb0_2 qb0_3 qb0_4 qb0_5 => ks.ex 0 (F.law10_Small.L2.e0.e (((), ()), ((qb0_0, qb0_1, qb0_2, qb0_3, qb0_4, qb0_5, ()), ()), (), ())) (F.law10_Small.L2.e0.h (((), ()), ((qb0_0, qb0_1, qb0_2, qb0_3, qb0_4, qb0_5, ()), ()), (), ()))) (fun q2 qb0_0 qb0_1 qb0_2 qb0_3 qb0_4 qb0_5 => ks.ret (F.law10_Small.L2.er.e ((q2, ()), ((qb0_0, qb0_1, qb0_2, qb0_3, qb0_4, qb0_5, ()), ()), (), ())) (F.law10_Small.L2.er.h ((q2, ()), ((qb0_0, qb0_1, qb0_2, qb0_3, qb0_4, qb0_5, ()), ()), (), ()))) m s.1.2.1 s.2.1.1.1 s.2.1.1.2.1 s.2.1.1.2.2.1 s.2.1.1.2.2.2.1 s.2.1.1.2.2.2.2.1 s.2.1.1.2.2.2.2.2.1
noncomputable def F.law10_Small.L2.li (X : Type) (n : Nat) : LoopI X := ⟨8, ⟨0, 0, 0⟩, F.law10_Small.L2.head, [(0, F.law10_Small.L2.e0)], some F.law10_Small.L2.er, F.law10_Small.L2.f n n⟩
noncomputable def cx9 (X : Type) (n : Nat) : Cx X := mkCx tab.get [(9, Tryz.f9)] [] [(9, 2, [F.law10_Small.L2.li X n])] [] [] []
theorem F.law10_Small.L2.ok (X : Type) (n : Nat) : LoopOK (cx9 X n) 9 Tryz.f9.ntmps (loopNo Tryz.f9 0) (F.law10_Small.L2.li X n) :=
  ⟨F.law10_Small.L2.f n, n, fun _ _ => rfl, fun _ _ => rfl, fun m ks s => by kernel_rfl⟩
theorem cx9_ok (X : Type) (n : Nat) : CxOK Tryz.prog SW (cx9 X n) := mkCx_ok mixed (tabOK tab_ok) ⟨⟨Tryz.func9, by decide⟩, trivial⟩ trivial ⟨okC_mk (fun _ => rfl) (by kernel_rfl) (castP (by kernel_rfl) (show (LoopOK (cx9 X n) 9 Tryz.f9.ntmps (loopNo Tryz.f9 0) (F.law10_Small.L2.li X n) ∧ True) ∧ True from ⟨⟨F.law10_Small.L2.ok X n, trivial⟩, trivial⟩)) (castP (by kernel_rfl) (show True from trivial)), trivial⟩ trivial
theorem ok9 (n : Nat) : FnOK Tryz.prog SW 9 [(.agg [.str, (.int .i64), (.sl (.agg [.bool, (.int .u64), (.int .i64)]) .unk), (.int .i64), (.sl (.agg [.str, .str]) .unk), (.int .i64)])] (.one .bool) (fun x => F.law10_Small n x.1) := fnOK_of WOf.st (cx9_ok _ n) (d := 8) (fun x => by kernel_rfl)
noncomputable def cx56 (X : Type) (n : Nat) (m : Nat) : Cx X := mkCx tab.get [(56, Tryz.f56)] [(56, orcOf [(.int .u64)] (.one .str) (fun x => F.ref03_Digits.go n m x.1))] [] [] [] []
theorem cx56_ok (X : Type) (n : Nat) (m : Nat) (ih : FnOK Tryz.prog SW 56 [(.int .u64)] (.one .str) (fun x => F.ref03_Digits.go n m x.1)) : CxOK Tryz.prog SW (cx56 X n m) := mkCx_ok mixed (tabOK tab_ok) ⟨⟨Tryz.func56, by decide⟩, trivial⟩ ⟨orcOf_ok (ih), trivial⟩ ⟨okC_mk (fun _ => rfl) (by kernel_rfl) (castP (by kernel_rfl) (show True from trivial)) (castP (by kernel_rfl) (show True from trivial)), trivial⟩ trivial
theorem ok56_go (n : Nat) : ∀ m : Nat, FnOK Tryz.prog SW 56 [(.int .u64)] (.one .str) (fun x => F.ref03_Digits.go n m x.1)
  | 0 => fun x y hy => by cases hy
  | m + 1 => fnOK_of WOf.st (cx56_ok _ n m (ok56_go n m)) (d := 8) (fun x => by kernel_rfl)
theorem ok56 (n : Nat) : FnOK Tryz.prog SW 56 [(.int .u64)] (.one .str) (fun x => F.ref03_Digits n x.1) := ok56_go n n
noncomputable def cx108 (X : Type) (n : Nat) : Cx X := mkCx tab.get [(108, Tryz.f108)] [] [] [] [] []
theorem cx108_ok (X : Type) (n : Nat) : CxOK Tryz.prog SW (cx108 X n) := mkCx_ok mixed (tabOK tab_ok) ⟨⟨Tryz.func108, by decide⟩, trivial⟩ trivial ⟨okC_mk (fun _ => rfl) (by kernel_rfl) (castP (by kernel_rfl) (show True from trivial)) (castP (by kernel_rfl) (show True from trivial)), trivial⟩ trivial
theorem ok108 (n : Nat) : FnOK Tryz.prog SW 108 [.str] (.one .bool) (fun x => F.ref03_Fits n x.1) := fnOK_of WOf.st (cx108_ok _ n) (d := 8) (fun x => by kernel_rfl)
def F.ref03_Value.L3.head : Shape := ⟨[(0, .str), (3, (.int .u64)), (4, (.int .i64))], [], [], [], [], 0, 0, 0⟩
def F.ref03_Value.L3.e0 : Shape := ⟨[(3, (.int .u64))], [], [], [], [], 0, 0, 0⟩
noncomputable def F.ref03_Value.L3.f {X : Type} (n m : Nat) (ks : Ks X) (s : F.ref03_Value.L3.head.den) : Option X := F.ref03_Value.L3 n (fun q3 => ks.ex 0 (F.ref03_Value.L3.e0.e ((q3, ()), (), (), ())) (F.ref03_Value.L3.e0.h ((q3, ()), (), (), ()))) m s.1.1 s.1.2.1 s.1.2.2.1
noncomputable def F.ref03_Value.L3.li (X : Type) (n : Nat) : LoopI X := ⟨8, ⟨0, 0, 0⟩, F.ref03_Value.L3.head, [(0, F.ref03_Value.L3.e0)], none, F.ref03_Value.L3.f n n⟩
noncomputable def cx109 (X : Type) (n : Nat) : Cx X := mkCx tab.get [(109, Tryz.f109)] [] [(109, 3, [F.ref03_Value.L3.li X n])] [] [] []
theorem F.ref03_Value.L3.ok (X : Type) (n : Nat) : LoopOK (cx109 X n) 109 Tryz.f109.ntmps (loopNo Tryz.f109 0) (F.ref03_Value.L3.li X n) :=
  ⟨F.ref03_Value.L3.f n, n, fun _ _ => rfl, fun _ _ => rfl, fun m ks s => by kernel_rfl⟩
theorem cx109_ok (X : Type) (n : Nat) : CxOK Tryz.prog SW (cx109 X n) := mkCx_ok mixed (tabOK tab_ok) ⟨⟨Tryz.func109, by decide⟩, trivial⟩ trivial ⟨okC_mk (fun _ => rfl) (by kernel_rfl) (castP (by kernel_rfl) (show (LoopOK (cx109 X n) 109 Tryz.f109.ntmps (loopNo Tryz.f109 0) (F.ref03_Value.L3.li X n) ∧ True) ∧ True from ⟨⟨F.ref03_Value.L3.ok X n, trivial⟩, trivial⟩)) (castP (by kernel_rfl) (show True from trivial)), trivial⟩ trivial
theorem ok109 (n : Nat) : FnOK Tryz.prog SW 109 [.str] (.one (.int .u64)) (fun x => F.ref03_Value n x.1) := fnOK_of WOf.st (cx109_ok _ n) (d := 8) (fun x => by kernel_rfl)
def F.ref03_Make.L1.head : Shape := ⟨[(0, .bool), (1, .str), (2, (.int .i64)), (6, (.const (.ref 0 0)))], [[.bool, (.int .u64), (.int .i64)]], [], [], [], 1, 0, 0⟩
def F.ref03_Make.L1.e0 : Shape := ⟨[(0, .bool), (1, .str), (2, (.int .i64)), (6, (.const (.ref 0 0)))], [[.bool, (.int .u64), (.int .i64)]], [], [], [], 1, 0, 0⟩
noncomputable def F.ref03_Make.L1.f {X : Type} (n m : Nat) (ks : Ks X) (s : F.ref03_Make.L1.head.den) : Option X := F.ref03_Make.L1 n (fun q0 q1 q2 qb0_0 qb0_1 qb0_2 => ks.ex 0 (F.ref03_Make.L1.e0.e ((q0, q1, q2, (), ()), ((qb0_0, qb0_1, qb0_2, ()), ()), (), ())) (F.ref03_Make.L1.e0.h ((q0, q1, q2, (), ()), ((qb0_0, qb0_1, qb0_2, ()), ()), (), ()))) m s.1.1 s.1.2.1 s.1.2.2.1 s.2.1.1.1 s.2.1.1.2.1 s.2.1.1.2.2.1
noncomputable def F.ref03_Make.L1.li (X : Type) (n : Nat) : LoopI X := ⟨8, ⟨0, 0, 0⟩, F.ref03_Make.L1.head, [(0, F.ref03_Make.L1.e0)], none, F.ref03_Make.L1.f n n⟩
def F.ref03_Make.L7.head : Shape := ⟨[(0, .bool), (1, .str), (2, (.int .i64)), (6, (.const (.ref 0 0)))], [[.bool, (.int .u64), (.int .i64)]], [], [], [], 1, 0, 0⟩
def F.ref03_Make.L7.e2 : Shape := ⟨[(0, .bool), (1, .str), (2, (.int .i64)), (6, (.const (.ref 0 0)))], [[.bool, (.int .u64), (.int .i64)]], [], [], [], 1, 0, 0⟩
noncomputable def F.ref03_Make.L7.f {X : Type} (n m : Nat) (ks : Ks X) (s : F.ref03_Make.L7.head.den) : Option X := F.ref03_Make.L7 n (fun q0 q1 q2 qb0_0 qb0_1 qb0_2 => ks.ex 2 (F.ref03_Make.L7.e2.e ((q0, q1, q2, (), ()), ((qb0_0, qb0_1, qb0_2, ()), ()), (), ())) (F.ref03_Make.L7.e2.h ((q0, q1, q2, (), ()), ((qb0_0, qb0_1, qb0_2, ()), ()), (), ()))) m s.1.1 s.1.2.1 s.1.2.2.1 s.2.1.1.1 s.2.1.1.2.1 s.2.1.1.2.2.1
noncomputable def F.ref03_Make.L7.li (X : Type) (n : Nat) : LoopI X := ⟨8, ⟨0, 0, 0⟩, F.ref03_Make.L7.head, [(2, F.ref03_Make.L7.e2)], none, F.ref03_Make.L7.f n n⟩
def F.ref03_Make.L10.head : Shape := ⟨[(0, .bool), (1, .str), (2, (.int .i64)), (6, (.const (.ref 0 0)))], [[.bool, (.int .u64), (.int .i64)]], [], [], [], 1, 0, 0⟩
def F.ref03_Make.L10.e4 : Shape := ⟨[(0, .bool), (1, .str), (2, (.int .i64)), (6, (.const (.ref 0 0)))], [[.bool, (.int .u64), (.int .i64)]], [], [], [], 1, 0, 0⟩
noncomputable def F.ref03_Make.L10.f {X : Type} (n m : Nat) (ks : Ks X) (s : F.ref03_Make.L10.head.den) : Option X := F.ref03_Make.L10 n (fun q0 q1 q2 qb0_0 qb0_1 qb0_2 => ks.ex 4 (F.ref03_Make.L10.e4.e ((q0, q1, q2, (), ()), ((qb0_0, qb0_1, qb0_2, ()), ()), (), ())) (F.ref03_Make.L10.e4.h ((q0, q1, q2, (), ()), ((qb0_0, qb0_1, qb0_2, ()), ()), (), ()))) m s.1.1 s.1.2.1 s.1.2.2.1 s.2.1.1.1 s.2.1.1.2.1 s.2.1.1.2.2.1
noncomputable def F.ref03_Make.L10.li (X : Type) (n : Nat) : LoopI X := ⟨8, ⟨0, 0, 0⟩, F.ref03_Make.L10.head, [(4, F.ref03_Make.L10.e4)], none, F.ref03_Make.L10.f n n⟩
noncomputable def cx70 (X : Type) (n : Nat) : Cx X := mkCx tab.get [(70, Tryz.f70)] [(108, orcOf [.str] (.one .bool) (fun x => F.ref03_Fits n x.1)), (109, orcOf [.str] (.one (.int .u64)) (fun x => F.ref03_Value n x.1))] [(70, 1, [F.ref03_Make.L1.li X n]), (70, 7, [F.ref03_Make.L7.li X n]), (70, 10, [F.ref03_Make.L10.li X n])] [] [] []
theorem F.ref03_Make.L1.ok (X : Type) (n : Nat) : LoopOK (cx70 X n) 70 Tryz.f70.ntmps (loopNo Tryz.f70 0) (F.ref03_Make.L1.li X n) :=
  ⟨F.ref03_Make.L1.f n, n, fun _ _ => rfl, fun _ _ => rfl, fun m ks s => by kernel_rfl⟩
theorem F.ref03_Make.L7.ok (X : Type) (n : Nat) : LoopOK (cx70 X n) 70 Tryz.f70.ntmps (loopNo Tryz.f70 1) (F.ref03_Make.L7.li X n) :=
  ⟨F.ref03_Make.L7.f n, n, fun _ _ => rfl, fun _ _ => rfl, fun m ks s => by kernel_rfl⟩
theorem F.ref03_Make.L10.ok (X : Type) (n : Nat) : LoopOK (cx70 X n) 70 Tryz.f70.ntmps (loopNo Tryz.f70 2) (F.ref03_Make.L10.li X n) :=
  ⟨F.ref03_Make.L10.f n, n, fun _ _ => rfl, fun _ _ => rfl, fun m ks s => by kernel_rfl⟩
theorem cx70_ok (X : Type) (n : Nat) : CxOK Tryz.prog SW (cx70 X n) := mkCx_ok mixed (tabOK tab_ok) ⟨⟨Tryz.func70, by decide⟩, trivial⟩ ⟨orcOf_ok (ok108 n),
  orcOf_ok (ok109 n), trivial⟩ ⟨okC_mk (fun _ => rfl) (by kernel_rfl) (castP (by kernel_rfl) (show (LoopOK (cx70 X n) 70 Tryz.f70.ntmps (loopNo Tryz.f70 0) (F.ref03_Make.L1.li X n) ∧ True) ∧ (LoopOK (cx70 X n) 70 Tryz.f70.ntmps (loopNo Tryz.f70 1) (F.ref03_Make.L7.li X n) ∧ True) ∧ (LoopOK (cx70 X n) 70 Tryz.f70.ntmps (loopNo Tryz.f70 2) (F.ref03_Make.L10.li X n) ∧ True) ∧ True from ⟨⟨F.ref03_Make.L1.ok X n, trivial⟩, ⟨F.ref03_Make.L7.ok X n, trivial⟩, ⟨F.ref03_Make.L10.ok X n, trivial⟩, trivial⟩)) (castP (by kernel_rfl) (show True from trivial)), trivial⟩ trivial
theorem ok70 (n : Nat) : FnOK Tryz.prog SW 70 [.bool, .str, (.int .i64)] (.many [(.agg [.bool, (.int .u64), (.int .i64)]), .bool]) (fun x => F.ref03_Make n x.1 x.2.1 x.2.2.1) := fnOK_of WOf.st (cx70_ok _ n) (d := 8) (fun x => by kernel_rfl)
noncomputable def cx54 (X : Type) (n : Nat) : Cx X := mkCx tab.get [(54, Tryz.f54)] [(56, orcOf [(.int .u64)] (.one .str) (fun x => F.ref03_Digits n x.1)), (70, orcOf [.bool, .str, (.int .i64)] (.many [(.agg [.bool, (.int .u64), (.int .i64)]), .bool]) (fun x => F.ref03_Make n x.1 x.2.1 x.2.2.1))] [] [] [] []
theorem cx54_ok (X : Type) (n : Nat) : CxOK Tryz.prog SW (cx54 X n) := mkCx_ok mixed (tabOK tab_ok) ⟨⟨Tryz.func54, by decide⟩, trivial⟩ ⟨orcOf_ok (ok56 n),
  orcOf_ok (ok70 n), trivial⟩ ⟨okC_mk (fun _ => rfl) (by kernel_rfl) (castP (by kernel_rfl) (show True from trivial)) (castP (by kernel_rfl) (show True from trivial)), trivial⟩ trivial
theorem ok54 (n : Nat) : FnOK Tryz.prog SW 54 [(.agg [.bool, (.int .u64), (.int .i64)])] (.one (.int .i64)) (fun x => F.ref03_Check n x.1) := fnOK_of WOf.st (cx54_ok _ n) (d := 8) (fun x => by kernel_rfl)
def F.ref07_Name.L2.head : Shape := ⟨[(0, .str), (3, (.int .i64))], [], [], [], [], 0, 0, 0⟩
def F.ref07_Name.L2.e0 : Shape := ⟨[(0, .str)], [], [], [], [], 0, 0, 0⟩
def F.ref07_Name.L2.er : Shape := ⟨[(2, .bool)], [], [], [], [], 0, 0, 0⟩
noncomputable def F.ref07_Name.L2.f {X : Type} (n m : Nat) (ks : Ks X) (s : F.ref07_Name.L2.head.den) : Option X := F.ref07_Name.L2 n (fun q0 => ks.ex 0 (F.ref07_Name.L2.e0.e ((q0, ()), (), (), ())) (F.ref07_Name.L2.e0.h ((q0, ()), (), (), ()))) (fun q2 => ks.ret (F.ref07_Name.L2.er.e ((q2, ()), (), (), ())) (F.ref07_Name.L2.er.h ((q2, ()), (), (), ()))) m s.1.1 s.1.2.1
noncomputable def F.ref07_Name.L2.li (X : Type) (n : Nat) : LoopI X := ⟨8, ⟨0, 0, 0⟩, F.ref07_Name.L2.head, [(0, F.ref07_Name.L2.e0)], some F.ref07_Name.L2.er, F.ref07_Name.L2.f n n⟩
noncomputable def cx96 (X : Type) (n : Nat) : Cx X := mkCx tab.get [(96, Tryz.f96)] [] [(96, 2, [F.ref07_Name.L2.li X n])] [] [] []
theorem F.ref07_Name.L2.ok (X : Type) (n : Nat) : LoopOK (cx96 X n) 96 Tryz.f96.ntmps (loopNo Tryz.f96 0) (F.ref07_Name.L2.li X n) :=
  ⟨F.ref07_Name.L2.f n, n, fun _ _ => rfl, fun _ _ => rfl, fun m ks s => by kernel_rfl⟩
theorem cx96_ok (X : Type) (n : Nat) : CxOK Tryz.prog SW (cx96 X n) := mkCx_ok mixed (tabOK tab_ok) ⟨⟨Tryz.func96, by decide⟩, trivial⟩ trivial ⟨okC_mk (fun _ => rfl) (by kernel_rfl) (castP (by kernel_rfl) (show (LoopOK (cx96 X n) 96 Tryz.f96.ntmps (loopNo Tryz.f96 0) (F.ref07_Name.L2.li X n) ∧ True) ∧ True from ⟨⟨F.ref07_Name.L2.ok X n, trivial⟩, trivial⟩)) (castP (by kernel_rfl) (show True from trivial)), trivial⟩ trivial
theorem ok96 (n : Nat) : FnOK Tryz.prog SW 96 [.str] (.one .bool) (fun x => F.ref07_Name n x.1) := fnOK_of WOf.st (cx96_ok _ n) (d := 8) (fun x => by kernel_rfl)
noncomputable def cx136 (X : Type) (n : Nat) : Cx X := mkCx tab.get [(136, Tryz.f136)] [] [] [] [] []
theorem cx136_ok (X : Type) (n : Nat) : CxOK Tryz.prog SW (cx136 X n) := mkCx_ok mixed (tabOK tab_ok) ⟨⟨Tryz.func136, by decide⟩, trivial⟩ trivial ⟨okC_mk (fun _ => rfl) (by kernel_rfl) (castP (by kernel_rfl) (show True from trivial)) (castP (by kernel_rfl) (show True from trivial)), trivial⟩ trivial
theorem ok136 (n : Nat) : FnOK Tryz.prog SW 136 [(.int .i64)] (.one .str) (fun x => F.ref04_Bytes n x.1) := fnOK_of WOf.st (cx136_ok _ n) (d := 8) (fun x => by kernel_rfl)
def F.ref04_Is.L3.head : Shape := ⟨[(1, (.int .u8)), (5, .str), (6, (.int .i64))], [], [], [], [], 0, 0, 0⟩
def F.ref04_Is.L3.e0 : Shape := ⟨[], [], [], [], [], 0, 0, 0⟩
def F.ref04_Is.L3.er : Shape := ⟨[(4, .bool)], [], [], [], [], 0, 0, 0⟩
noncomputable def F.ref04_Is.L3.f {X : Type} (n m : Nat) (ks : Ks X) (s : F.ref04_Is.L3.head.den) : Option X := F.ref04_Is.L3 n (fun (_ : Unit) => ks.ex 0 (F.ref04_Is.L3.e0.e ((), (), (), ())) (F.ref04_Is.L3.e0.h ((), (), (), ()))) (fun q4 => ks.ret (F.ref04_Is.L3.er.e ((q4, ()), (), (), ())) (F.ref04_Is.L3.er.h ((q4, ()), (), (), ()))) m s.1.1 s.1.2.1 s.1.2.2.1
noncomputable def F.ref04_Is.L3.li (X : Type) (n : Nat) : LoopI X := ⟨8, ⟨0, 0, 0⟩, F.ref04_Is.L3.head, [(0, F.ref04_Is.L3.e0)], some F.ref04_Is.L3.er, F.ref04_Is.L3.f n n⟩
noncomputable def cx110 (X : Type) (n : Nat) : Cx X := mkCx tab.get [(110, Tryz.f110)] [(136, orcOf [(.int .i64)] (.one .str) (fun x => F.ref04_Bytes n x.1))] [(110, 3, [F.ref04_Is.L3.li X n])] [] [] []
theorem F.ref04_Is.L3.ok (X : Type) (n : Nat) : LoopOK (cx110 X n) 110 Tryz.f110.ntmps (loopNo Tryz.f110 0) (F.ref04_Is.L3.li X n) :=
  ⟨F.ref04_Is.L3.f n, n, fun _ _ => rfl, fun _ _ => rfl, fun m ks s => by kernel_rfl⟩
theorem cx110_ok (X : Type) (n : Nat) : CxOK Tryz.prog SW (cx110 X n) := mkCx_ok mixed (tabOK tab_ok) ⟨⟨Tryz.func110, by decide⟩, trivial⟩ ⟨orcOf_ok (ok136 n), trivial⟩ ⟨okC_mk (fun _ => rfl) (by kernel_rfl) (castP (by kernel_rfl) (show (LoopOK (cx110 X n) 110 Tryz.f110.ntmps (loopNo Tryz.f110 0) (F.ref04_Is.L3.li X n) ∧ True) ∧ True from ⟨⟨F.ref04_Is.L3.ok X n, trivial⟩, trivial⟩)) (castP (by kernel_rfl) (show True from trivial)), trivial⟩ trivial
theorem ok110 (n : Nat) : FnOK Tryz.prog SW 110 [(.int .i64), (.int .u8)] (.one .bool) (fun x => F.ref04_Is n x.1 x.2.1) := fnOK_of WOf.st (cx110_ok _ n) (d := 8) (fun x => by kernel_rfl)
def F.ref04_Bad.L2.head : Shape := ⟨[(0, (.int .i64)), (1, .str), (5, (.int .i64))], [], [], [], [], 0, 0, 0⟩
def F.ref04_Bad.L2.e0 : Shape := ⟨[], [], [], [], [], 0, 0, 0⟩
def F.ref04_Bad.L2.er : Shape := ⟨[(4, (.int .i64))], [], [], [], [], 0, 0, 0⟩
noncomputable def F.ref04_Bad.L2.f {X : Type} (n m : Nat) (ks : Ks X) (s : F.ref04_Bad.L2.head.den) : Option X := F.ref04_Bad.L2 n (fun (_ : Unit) => ks.ex 0 (F.ref04_Bad.L2.e0.e ((), (), (), ())) (F.ref04_Bad.L2.e0.h ((), (), (), ()))) (fun q4 => ks.ret (F.ref04_Bad.L2.er.e ((q4, ()), (), (), ())) (F.ref04_Bad.L2.er.h ((q4, ()), (), (), ()))) m s.1.1 s.1.2.1 s.1.2.2.1
noncomputable def F.ref04_Bad.L2.li (X : Type) (n : Nat) : LoopI X := ⟨8, ⟨0, 0, 0⟩, F.ref04_Bad.L2.head, [(0, F.ref04_Bad.L2.e0)], some F.ref04_Bad.L2.er, F.ref04_Bad.L2.f n n⟩
noncomputable def cx71 (X : Type) (n : Nat) : Cx X := mkCx tab.get [(71, Tryz.f71)] [(110, orcOf [(.int .i64), (.int .u8)] (.one .bool) (fun x => F.ref04_Is n x.1 x.2.1))] [(71, 2, [F.ref04_Bad.L2.li X n])] [] [] []
theorem F.ref04_Bad.L2.ok (X : Type) (n : Nat) : LoopOK (cx71 X n) 71 Tryz.f71.ntmps (loopNo Tryz.f71 0) (F.ref04_Bad.L2.li X n) :=
  ⟨F.ref04_Bad.L2.f n, n, fun _ _ => rfl, fun _ _ => rfl, fun m ks s => by kernel_rfl⟩
theorem cx71_ok (X : Type) (n : Nat) : CxOK Tryz.prog SW (cx71 X n) := mkCx_ok mixed (tabOK tab_ok) ⟨⟨Tryz.func71, by decide⟩, trivial⟩ ⟨orcOf_ok (ok110 n), trivial⟩ ⟨okC_mk (fun _ => rfl) (by kernel_rfl) (castP (by kernel_rfl) (show (LoopOK (cx71 X n) 71 Tryz.f71.ntmps (loopNo Tryz.f71 0) (F.ref04_Bad.L2.li X n) ∧ True) ∧ True from ⟨⟨F.ref04_Bad.L2.ok X n, trivial⟩, trivial⟩)) (castP (by kernel_rfl) (show True from trivial)), trivial⟩ trivial
theorem ok71 (n : Nat) : FnOK Tryz.prog SW 71 [(.int .i64), .str] (.one (.int .i64)) (fun x => F.ref04_Bad n x.1 x.2.1) := fnOK_of WOf.st (cx71_ok _ n) (d := 8) (fun x => by kernel_rfl)
noncomputable def cx68 (X : Type) (n : Nat) : Cx X := mkCx tab.get [(68, Tryz.f68)] [(71, orcOf [(.int .i64), .str] (.one (.int .i64)) (fun x => F.ref04_Bad n x.1 x.2.1))] [] [] [] []
theorem cx68_ok (X : Type) (n : Nat) : CxOK Tryz.prog SW (cx68 X n) := mkCx_ok mixed (tabOK tab_ok) ⟨⟨Tryz.func68, by decide⟩, trivial⟩ ⟨orcOf_ok (ok71 n), trivial⟩ ⟨okC_mk (fun _ => rfl) (by kernel_rfl) (castP (by kernel_rfl) (show True from trivial)) (castP (by kernel_rfl) (show True from trivial)), trivial⟩ trivial
theorem ok68 (n : Nat) : FnOK Tryz.prog SW 68 [(.int .i64), .str, (.int .i64), (.int .i64)] (.one (.agg [(.int .i64), (.int .i64)])) (fun x => F.ref04_Text n x.1 x.2.1 x.2.2.1 x.2.2.2.1) := fnOK_of WOf.st (cx68_ok _ n) (d := 8) (fun x => by kernel_rfl)
noncomputable def cx129 (X : Type) (n : Nat) : Cx X := mkCx tab.get [(129, Tryz.f129)] [(68, orcOf [(.int .i64), .str, (.int .i64), (.int .i64)] (.one (.agg [(.int .i64), (.int .i64)])) (fun x => F.ref04_Text n x.1 x.2.1 x.2.2.1 x.2.2.2.1))] [] [] [] []
theorem cx129_ok (X : Type) (n : Nat) : CxOK Tryz.prog SW (cx129 X n) := mkCx_ok mixed (tabOK tab_ok) ⟨⟨Tryz.func129, by decide⟩, trivial⟩ ⟨orcOf_ok (ok68 n), trivial⟩ ⟨okC_mk (fun _ => rfl) (by kernel_rfl) (castP (by kernel_rfl) (show True from trivial)) (castP (by kernel_rfl) (show True from trivial)), trivial⟩ trivial
theorem ok129 (n : Nat) : FnOK Tryz.prog SW 129 [(.agg [.str, .str])] (.one .bool) (fun x => F.ref06_Right n x.1) := fnOK_of WOf.st (cx129_ok _ n) (d := 8) (fun x => by kernel_rfl)
noncomputable def cx97 (X : Type) (n : Nat) : Cx X := mkCx tab.get [(97, Tryz.f97)] [(129, orcOf [(.agg [.str, .str])] (.one .bool) (fun x => F.ref06_Right n x.1))] [] [] [] []
theorem cx97_ok (X : Type) (n : Nat) : CxOK Tryz.prog SW (cx97 X n) := mkCx_ok mixed (tabOK tab_ok) ⟨⟨Tryz.func97, by decide⟩, trivial⟩ ⟨orcOf_ok (ok129 n), trivial⟩ ⟨okC_mk (fun _ => rfl) (by kernel_rfl) (castP (by kernel_rfl) (show True from trivial)) (castP (by kernel_rfl) (show True from trivial)), trivial⟩ trivial
theorem ok97 (n : Nat) : FnOK Tryz.prog SW 97 [(.agg [.str, .str])] (.one (.int .i64)) (fun x => F.ref06_Check n x.1) := fnOK_of WOf.st (cx97_ok _ n) (d := 8) (fun x => by kernel_rfl)
def F.ref07_Rest.L12.head : Shape := ⟨[(2, (.const (.ref 0 0))), (5, (.int .i64))], [[.str, (.int .i64), (.sl (.agg [.bool, (.int .u64), (.int .i64)]) .unk), (.int .i64), (.sl (.agg [.str, .str]) .unk), (.int .i64)]], [], [], [], 1, 0, 0⟩
def F.ref07_Rest.L12.e0 : Shape := ⟨[(2, (.const (.ref 0 0)))], [[.str, (.int .i64), (.sl (.agg [.bool, (.int .u64), (.int .i64)]) .unk), (.int .i64), (.sl (.agg [.str, .str]) .unk), (.int .i64)]], [], [], [], 1, 0, 0⟩
def F.ref07_Rest.L12.er : Shape := ⟨[(4, (.int .i64))], [[.str, (.int .i64), (.sl (.agg [.bool, (.int .u64), (.int .i64)]) .unk), (.int .i64), (.sl (.agg [.str, .str]) .unk), (.int .i64)]], [], [], [], 1, 0, 0⟩
noncomputable def F.ref07_Rest.L12.f {X : Type} (n m : Nat) (ks : Ks X) (s : F.ref07_Rest.L12.head.den) : Option X := F.ref07_Rest.L12 n (fun qb0_0 qb0_1 qb0_2 qb0_3 qb0_4 qb0_5 => ks.ex 0 (F.ref07_Rest.L12.e0.e (((), ()), ((qb0_0, qb0_1, qb0_2, qb0_3, qb0_4, qb0_5, ()), ()), (), ())) (F.ref07_Rest.L12.e0.h (((), ()), ((qb0_0, qb0_1, qb0_2, qb0_3, qb0_4, qb0_5, ()), ()), (), ()))) (fun q4 qb0_0 qb0_1 qb0_2 qb0_3 qb0_4 qb0_5 => ks.ret (F.ref07_Rest.L12.er.e ((q4, ()), ((qb0_0, qb0_1, qb0_2, qb0_3, qb0_4, qb0_5, ()), ()), (), ())) (F.ref07_Rest.L12.er.h ((q4, ()), ((qb0_0, qb0_1, qb0_2, qb0_3, qb0_4, qb0_5, ()), ()), (), ()))) m s.1.2.1 s.2.1.1.1 s.2.1.1.2.1 s.2.1.1.2.2.1 s.2.1.1.2.2.2.1 s.2.1.1.2.2.2.2.1 s.2.1.1.2.2.2.2.2.1
noncomputable def F.ref07_Rest.L12.li (X : Type) (n : Nat) : LoopI X := ⟨8, ⟨0, 0, 0⟩, F.ref07_Rest.L12.head, [(0, F.ref07_Rest.L12.e0)], some F.ref07_Rest.L12.er, F.ref07_Rest.L12.f n n⟩
noncomputable def cx55 (X : Type) (n : Nat) : Cx X := mkCx tab.get [(55, Tryz.f55)] [(96, orcOf [.str] (.one .bool) (fun x => F.ref07_Name n x.1)), (97, orcOf [(.agg [.str, .str])] (.one (.int .i64)) (fun x => F.ref06_Check n x.1))] [(55, 12, [F.ref07_Rest.L12.li X n])] [] [] []
theorem F.ref07_Rest.L12.ok (X : Type) (n : Nat) : LoopOK (cx55 X n) 55 Tryz.f55.ntmps (loopNo Tryz.f55 0) (F.ref07_Rest.L12.li X n) :=
  ⟨F.ref07_Rest.L12.f n, n, fun _ _ => rfl, fun _ _ => rfl, fun m ks s => by kernel_rfl⟩
theorem cx55_ok (X : Type) (n : Nat) : CxOK Tryz.prog SW (cx55 X n) := mkCx_ok mixed (tabOK tab_ok) ⟨⟨Tryz.func55, by decide⟩, trivial⟩ ⟨orcOf_ok (ok96 n),
  orcOf_ok (ok97 n), trivial⟩ ⟨okC_mk (fun _ => rfl) (by kernel_rfl) (castP (by kernel_rfl) (show (LoopOK (cx55 X n) 55 Tryz.f55.ntmps (loopNo Tryz.f55 0) (F.ref07_Rest.L12.li X n) ∧ True) ∧ True from ⟨⟨F.ref07_Rest.L12.ok X n, trivial⟩, trivial⟩)) (castP (by kernel_rfl) (show True from trivial)), trivial⟩ trivial
theorem ok55 (n : Nat) : FnOK Tryz.prog SW 55 [(.agg [.str, (.int .i64), (.sl (.agg [.bool, (.int .u64), (.int .i64)]) .unk), (.int .i64), (.sl (.agg [.str, .str]) .unk), (.int .i64)]), .bool] (.one (.int .i64)) (fun x => F.ref07_Rest n x.1 x.2.1) := fnOK_of WOf.st (cx55_ok _ n) (d := 8) (fun x => by kernel_rfl)
def F.ref07_Check.L3.head : Shape := ⟨[(1, (.const (.ref 0 0))), (3, .bool), (4, (.int .i64))], [[.str, (.int .i64), (.sl (.agg [.bool, (.int .u64), (.int .i64)]) .unk), (.int .i64), (.sl (.agg [.str, .str]) .unk), (.int .i64)]], [], [], [], 1, 0, 0⟩
def F.ref07_Check.L3.e0 : Shape := ⟨[(1, (.const (.ref 0 0))), (3, .bool)], [[.str, (.int .i64), (.sl (.agg [.bool, (.int .u64), (.int .i64)]) .unk), (.int .i64), (.sl (.agg [.str, .str]) .unk), (.int .i64)]], [], [], [], 1, 0, 0⟩
noncomputable def F.ref07_Check.L3.f {X : Type} (n m : Nat) (ks : Ks X) (s : F.ref07_Check.L3.head.den) : Option X := F.ref07_Check.L3 n (fun q3 qb0_0 qb0_1 qb0_2 qb0_3 qb0_4 qb0_5 => ks.ex 0 (F.ref07_Check.L3.e0.e (((), q3, ()), ((qb0_0, qb0_1, qb0_2, qb0_3, qb0_4, qb0_5, ()), ()), (), ())) (F.ref07_Check.L3.e0.h (((), q3, ()), ((qb0_0, qb0_1, qb0_2, qb0_3, qb0_4, qb0_5, ()), ()), (), ()))) m s.1.2.1 s.1.2.2.1 s.2.1.1.1 s.2.1.1.2.1 s.2.1.1.2.2.1 s.2.1.1.2.2.2.1 s.2.1.1.2.2.2.2.1 s.2.1.1.2.2.2.2.2.1
noncomputable def F.ref07_Check.L3.li (X : Type) (n : Nat) : LoopI X := ⟨8, ⟨0, 0, 0⟩, F.ref07_Check.L3.head, [(0, F.ref07_Check.L3.e0)], none, F.ref07_Check.L3.f n n⟩
noncomputable def cx27 (X : Type) (n : Nat) : Cx X := mkCx tab.get [(27, Tryz.f27)] [(54, orcOf [(.agg [.bool, (.int .u64), (.int .i64)])] (.one (.int .i64)) (fun x => F.ref03_Check n x.1)), (55, orcOf [(.agg [.str, (.int .i64), (.sl (.agg [.bool, (.int .u64), (.int .i64)]) .unk), (.int .i64), (.sl (.agg [.str, .str]) .unk), (.int .i64)]), .bool] (.one (.int .i64)) (fun x => F.ref07_Rest n x.1 x.2.1))] [(27, 3, [F.ref07_Check.L3.li X n])] [] [] []
theorem F.ref07_Check.L3.ok (X : Type) (n : Nat) : LoopOK (cx27 X n) 27 Tryz.f27.ntmps (loopNo Tryz.f27 0) (F.ref07_Check.L3.li X n) :=
  ⟨F.ref07_Check.L3.f n, n, fun _ _ => rfl, fun _ _ => rfl, fun m ks s => by kernel_rfl⟩
theorem cx27_ok (X : Type) (n : Nat) : CxOK Tryz.prog SW (cx27 X n) := mkCx_ok mixed (tabOK tab_ok) ⟨⟨Tryz.func27, by decide⟩, trivial⟩ ⟨orcOf_ok (ok54 n),
  orcOf_ok (ok55 n), trivial⟩ ⟨okC_mk (fun _ => rfl) (by kernel_rfl) (castP (by kernel_rfl) (show (LoopOK (cx27 X n) 27 Tryz.f27.ntmps (loopNo Tryz.f27 0) (F.ref07_Check.L3.li X n) ∧ True) ∧ True from ⟨⟨F.ref07_Check.L3.ok X n, trivial⟩, trivial⟩)) (castP (by kernel_rfl) (show True from trivial)), trivial⟩ trivial
theorem ok27 (n : Nat) : FnOK Tryz.prog SW 27 [(.agg [.str, (.int .i64), (.sl (.agg [.bool, (.int .u64), (.int .i64)]) .unk), (.int .i64), (.sl (.agg [.str, .str]) .unk), (.int .i64)])] (.one (.int .i64)) (fun x => F.ref07_Check n x.1) := fnOK_of WOf.st (cx27_ok _ n) (d := 8) (fun x => by kernel_rfl)
noncomputable def cx28 (X : Type) (n : Nat) : Cx X := mkCx tab.get [(28, Tryz.f28)] [] [] [] [] []
theorem cx28_ok (X : Type) (n : Nat) : CxOK Tryz.prog SW (cx28 X n) := mkCx_ok mixed (tabOK tab_ok) ⟨⟨Tryz.func28, by decide⟩, trivial⟩ trivial ⟨okC_mk (fun _ => rfl) (by kernel_rfl) (castP (by kernel_rfl) (show True from trivial)) (castP (by kernel_rfl) (show True from trivial)), trivial⟩ trivial
theorem ok28 (n : Nat) : FnOK Tryz.prog SW 28 [(.agg [.str, (.int .i64), (.sl (.agg [.bool, (.int .u64), (.int .i64)]) .unk), (.int .i64), (.sl (.agg [.str, .str]) .unk), (.int .i64)]), (.int .i64)] (.one .bool) (fun x => F.ref09_Says n x.1 x.2.1) := fnOK_of WOf.st (cx28_ok _ n) (d := 8) (fun x => by kernel_rfl)
noncomputable def cx12 (X : Type) (n : Nat) : Cx X := mkCx tab.get [(12, Tryz.f12)] [(27, orcOf [(.agg [.str, (.int .i64), (.sl (.agg [.bool, (.int .u64), (.int .i64)]) .unk), (.int .i64), (.sl (.agg [.str, .str]) .unk), (.int .i64)])] (.one (.int .i64)) (fun x => F.ref07_Check n x.1)), (28, orcOf [(.agg [.str, (.int .i64), (.sl (.agg [.bool, (.int .u64), (.int .i64)]) .unk), (.int .i64), (.sl (.agg [.str, .str]) .unk), (.int .i64)]), (.int .i64)] (.one .bool) (fun x => F.ref09_Says n x.1 x.2.1))] [] [] [] []
theorem cx12_ok (X : Type) (n : Nat) : CxOK Tryz.prog SW (cx12 X n) := mkCx_ok mixed (tabOK tab_ok) ⟨⟨Tryz.func12, by decide⟩, trivial⟩ ⟨orcOf_ok (ok27 n),
  orcOf_ok (ok28 n), trivial⟩ ⟨okC_mk (fun _ => rfl) (by kernel_rfl) (castP (by kernel_rfl) (show True from trivial)) (castP (by kernel_rfl) (show True from trivial)), trivial⟩ trivial
theorem ok12 (n : Nat) : FnOK Tryz.prog SW 12 [(.agg [.str, (.int .i64), (.sl (.agg [.bool, (.int .u64), (.int .i64)]) .unk), (.int .i64), (.sl (.agg [.str, .str]) .unk), (.int .i64)]), (.int .i64)] (.one (.int .i64)) (fun x => F.ref09_Metric n x.1 x.2.1) := fnOK_of WOf.st (cx12_ok _ n) (d := 8) (fun x => by kernel_rfl)
def F.ref03_Text.L3.head : Shape := ⟨[(1, (.const (.ref 0 0))), (3, .str), (4, (.int .i64))], [[.bool, (.int .u64), (.int .i64)]], [], [], [], 1, 0, 0⟩
def F.ref03_Text.L3.e0 : Shape := ⟨[(1, (.const (.ref 0 0))), (3, .str)], [[.bool, (.int .u64), (.int .i64)]], [], [], [], 1, 0, 0⟩
noncomputable def F.ref03_Text.L3.f {X : Type} (n m : Nat) (ks : Ks X) (s : F.ref03_Text.L3.head.den) : Option X := F.ref03_Text.L3 n (fun q3 qb0_0 qb0_1 qb0_2 => ks.ex 0 (F.ref03_Text.L3.e0.e (((), q3, ()), ((qb0_0, qb0_1, qb0_2, ()), ()), (), ())) (F.ref03_Text.L3.e0.h (((), q3, ()), ((qb0_0, qb0_1, qb0_2, ()), ()), (), ()))) m s.1.2.1 s.1.2.2.1 s.2.1.1.1 s.2.1.1.2.1 s.2.1.1.2.2.1
noncomputable def F.ref03_Text.L3.li (X : Type) (n : Nat) : LoopI X := ⟨8, ⟨0, 0, 0⟩, F.ref03_Text.L3.head, [(0, F.ref03_Text.L3.e0)], none, F.ref03_Text.L3.f n n⟩
def F.ref03_Text.L7.head : Shape := ⟨[(1, (.const (.ref 0 0))), (3, .str)], [[.bool, (.int .u64), (.int .i64)]], [], [], [], 1, 0, 0⟩
def F.ref03_Text.L7.e2 : Shape := ⟨[(1, (.const (.ref 0 0))), (3, .str)], [[.bool, (.int .u64), (.int .i64)]], [], [], [], 1, 0, 0⟩
noncomputable def F.ref03_Text.L7.f {X : Type} (n m : Nat) (ks : Ks X) (s : F.ref03_Text.L7.head.den) : Option X := F.ref03_Text.L7 n (fun q3 qb0_0 qb0_1 qb0_2 => ks.ex 2 (F.ref03_Text.L7.e2.e (((), q3, ()), ((qb0_0, qb0_1, qb0_2, ()), ()), (), ())) (F.ref03_Text.L7.e2.h (((), q3, ()), ((qb0_0, qb0_1, qb0_2, ()), ()), (), ()))) m s.1.2.1 s.2.1.1.1 s.2.1.1.2.1 s.2.1.1.2.2.1
noncomputable def F.ref03_Text.L7.li (X : Type) (n : Nat) : LoopI X := ⟨8, ⟨0, 0, 0⟩, F.ref03_Text.L7.head, [(2, F.ref03_Text.L7.e2)], none, F.ref03_Text.L7.f n n⟩
noncomputable def cx29 (X : Type) (n : Nat) : Cx X := mkCx tab.get [(29, Tryz.f29)] [(56, orcOf [(.int .u64)] (.one .str) (fun x => F.ref03_Digits n x.1))] [(29, 3, [F.ref03_Text.L3.li X n]), (29, 7, [F.ref03_Text.L7.li X n])] [] [] []
theorem F.ref03_Text.L3.ok (X : Type) (n : Nat) : LoopOK (cx29 X n) 29 Tryz.f29.ntmps (loopNo Tryz.f29 0) (F.ref03_Text.L3.li X n) :=
  ⟨F.ref03_Text.L3.f n, n, fun _ _ => rfl, fun _ _ => rfl, fun m ks s => by kernel_rfl⟩
theorem F.ref03_Text.L7.ok (X : Type) (n : Nat) : LoopOK (cx29 X n) 29 Tryz.f29.ntmps (loopNo Tryz.f29 1) (F.ref03_Text.L7.li X n) :=
  ⟨F.ref03_Text.L7.f n, n, fun _ _ => rfl, fun _ _ => rfl, fun m ks s => by kernel_rfl⟩
theorem cx29_ok (X : Type) (n : Nat) : CxOK Tryz.prog SW (cx29 X n) := mkCx_ok mixed (tabOK tab_ok) ⟨⟨Tryz.func29, by decide⟩, trivial⟩ ⟨orcOf_ok (ok56 n), trivial⟩ ⟨okC_mk (fun _ => rfl) (by kernel_rfl) (castP (by kernel_rfl) (show (LoopOK (cx29 X n) 29 Tryz.f29.ntmps (loopNo Tryz.f29 0) (F.ref03_Text.L3.li X n) ∧ True) ∧ (LoopOK (cx29 X n) 29 Tryz.f29.ntmps (loopNo Tryz.f29 1) (F.ref03_Text.L7.li X n) ∧ True) ∧ True from ⟨⟨F.ref03_Text.L3.ok X n, trivial⟩, ⟨F.ref03_Text.L7.ok X n, trivial⟩, trivial⟩)) (castP (by kernel_rfl) (show True from trivial)), trivial⟩ trivial
theorem ok29 (n : Nat) : FnOK Tryz.prog SW 29 [(.agg [.bool, (.int .u64), (.int .i64)])] (.one .str) (fun x => F.ref03_Text n x.1) := fnOK_of WOf.st (cx29_ok _ n) (d := 8) (fun x => by kernel_rfl)
noncomputable def cx57 (X : Type) (n : Nat) (m : Nat) : Cx X := mkCx tab.get [(57, Tryz.f57)] [(57, orcOf [(.int .u64)] (.one .str) (fun x => F.ref05_Digits.go n m x.1))] [] [] [] []
theorem cx57_ok (X : Type) (n : Nat) (m : Nat) (ih : FnOK Tryz.prog SW 57 [(.int .u64)] (.one .str) (fun x => F.ref05_Digits.go n m x.1)) : CxOK Tryz.prog SW (cx57 X n m) := mkCx_ok mixed (tabOK tab_ok) ⟨⟨Tryz.func57, by decide⟩, trivial⟩ ⟨orcOf_ok (ih), trivial⟩ ⟨okC_mk (fun _ => rfl) (by kernel_rfl) (castP (by kernel_rfl) (show True from trivial)) (castP (by kernel_rfl) (show True from trivial)), trivial⟩ trivial
theorem ok57_go (n : Nat) : ∀ m : Nat, FnOK Tryz.prog SW 57 [(.int .u64)] (.one .str) (fun x => F.ref05_Digits.go n m x.1)
  | 0 => fun x y hy => by cases hy
  | m + 1 => fnOK_of WOf.st (cx57_ok _ n m (ok57_go n m)) (d := 8) (fun x => by kernel_rfl)
theorem ok57 (n : Nat) : FnOK Tryz.prog SW 57 [(.int .u64)] (.one .str) (fun x => F.ref05_Digits n x.1) := ok57_go n n
def F.ref05_RateText.L4.head : Shape := ⟨[(3, .str)], [], [], [], [], 0, 0, 0⟩
def F.ref05_RateText.L4.e0 : Shape := ⟨[(3, .str)], [], [], [], [], 0, 0, 0⟩
noncomputable def F.ref05_RateText.L4.f {X : Type} (n m : Nat) (ks : Ks X) (s : F.ref05_RateText.L4.head.den) : Option X := F.ref05_RateText.L4 n (fun q3 => ks.ex 0 (F.ref05_RateText.L4.e0.e ((q3, ()), (), (), ())) (F.ref05_RateText.L4.e0.h ((q3, ()), (), (), ()))) m s.1.1
noncomputable def F.ref05_RateText.L4.li (X : Type) (n : Nat) : LoopI X := ⟨8, ⟨0, 0, 0⟩, F.ref05_RateText.L4.head, [(0, F.ref05_RateText.L4.e0)], none, F.ref05_RateText.L4.f n n⟩
def F.ref05_RateText.L6.head : Shape := ⟨[(3, .str)], [], [], [], [], 0, 0, 0⟩
def F.ref05_RateText.L6.e2 : Shape := ⟨[(3, .str)], [], [], [], [], 0, 0, 0⟩
noncomputable def F.ref05_RateText.L6.f {X : Type} (n m : Nat) (ks : Ks X) (s : F.ref05_RateText.L6.head.den) : Option X := F.ref05_RateText.L6 n (fun q3 => ks.ex 2 (F.ref05_RateText.L6.e2.e ((q3, ()), (), (), ())) (F.ref05_RateText.L6.e2.h ((q3, ()), (), (), ()))) m s.1.1
noncomputable def F.ref05_RateText.L6.li (X : Type) (n : Nat) : LoopI X := ⟨8, ⟨0, 0, 0⟩, F.ref05_RateText.L6.head, [(2, F.ref05_RateText.L6.e2)], none, F.ref05_RateText.L6.f n n⟩
noncomputable def cx30 (X : Type) (n : Nat) : Cx X := mkCx tab.get [(30, Tryz.f30)] [(57, orcOf [(.int .u64)] (.one .str) (fun x => F.ref05_Digits n x.1))] [(30, 4, [F.ref05_RateText.L4.li X n]), (30, 6, [F.ref05_RateText.L6.li X n])] [] [] []
theorem F.ref05_RateText.L4.ok (X : Type) (n : Nat) : LoopOK (cx30 X n) 30 Tryz.f30.ntmps (loopNo Tryz.f30 0) (F.ref05_RateText.L4.li X n) :=
  ⟨F.ref05_RateText.L4.f n, n, fun _ _ => rfl, fun _ _ => rfl, fun m ks s => by kernel_rfl⟩
theorem F.ref05_RateText.L6.ok (X : Type) (n : Nat) : LoopOK (cx30 X n) 30 Tryz.f30.ntmps (loopNo Tryz.f30 1) (F.ref05_RateText.L6.li X n) :=
  ⟨F.ref05_RateText.L6.f n, n, fun _ _ => rfl, fun _ _ => rfl, fun m ks s => by kernel_rfl⟩
theorem cx30_ok (X : Type) (n : Nat) : CxOK Tryz.prog SW (cx30 X n) := mkCx_ok mixed (tabOK tab_ok) ⟨⟨Tryz.func30, by decide⟩, trivial⟩ ⟨orcOf_ok (ok57 n), trivial⟩ ⟨okC_mk (fun _ => rfl) (by kernel_rfl) (castP (by kernel_rfl) (show (LoopOK (cx30 X n) 30 Tryz.f30.ntmps (loopNo Tryz.f30 0) (F.ref05_RateText.L4.li X n) ∧ True) ∧ (LoopOK (cx30 X n) 30 Tryz.f30.ntmps (loopNo Tryz.f30 1) (F.ref05_RateText.L6.li X n) ∧ True) ∧ True from ⟨⟨F.ref05_RateText.L4.ok X n, trivial⟩, ⟨F.ref05_RateText.L6.ok X n, trivial⟩, trivial⟩)) (castP (by kernel_rfl) (show True from trivial)), trivial⟩ trivial
theorem ok30 (n : Nat) : FnOK Tryz.prog SW 30 [(.int .i64)] (.one .str) (fun x => F.ref05_RateText n x.1) := fnOK_of WOf.st (cx30_ok _ n) (d := 8) (fun x => by kernel_rfl)
noncomputable def cx13 (X : Type) (n : Nat) : Cx X := mkCx tab.get [(13, Tryz.f13)] [(18, orcOf [(.int .i64)] (.one .str) (fun x => F.ref10_Word n x.1)), (29, orcOf [(.agg [.bool, (.int .u64), (.int .i64)])] (.one .str) (fun x => F.ref03_Text n x.1)), (30, orcOf [(.int .i64)] (.one .str) (fun x => F.ref05_RateText n x.1))] [] [] [] []
theorem cx13_ok (X : Type) (n : Nat) : CxOK Tryz.prog SW (cx13 X n) := mkCx_ok mixed (tabOK tab_ok) ⟨⟨Tryz.func13, by decide⟩, trivial⟩ ⟨orcOf_ok (ok18 n),
  orcOf_ok (ok29 n),
  orcOf_ok (ok30 n), trivial⟩ ⟨okC_mk (fun _ => rfl) (by kernel_rfl) (castP (by kernel_rfl) (show True from trivial)) (castP (by kernel_rfl) (show True from trivial)), trivial⟩ trivial
theorem ok13 (n : Nat) : FnOK Tryz.prog SW 13 [(.agg [.str, (.int .i64), (.sl (.agg [.bool, (.int .u64), (.int .i64)]) .unk), (.int .i64), (.sl (.agg [.str, .str]) .unk), (.int .i64)])] (.one .str) (fun x => F.ref10_Line n x.1) := fnOK_of WOf.st (cx13_ok _ n) (d := 8) (fun x => by kernel_rfl)
noncomputable def cx3 (X : Type) (n : Nat) : Cx X := mkCx tab.get [(3, Tryz.f3)] [(9, orcOf [(.agg [.str, (.int .i64), (.sl (.agg [.bool, (.int .u64), (.int .i64)]) .unk), (.int .i64), (.sl (.agg [.str, .str]) .unk), (.int .i64)])] (.one .bool) (fun x => F.law10_Small n x.1)), (10, orcOf [] (.one .bool) (fun x => F.law10_awake n )), (11, orcOf [(.agg [.str, (.int .i64), (.sl (.agg [.bool, (.int .u64), (.int .i64)]) .unk), (.int .i64), (.sl (.agg [.str, .str]) .unk), (.int .i64)])] (.many [.str, (.int .i64)]) (fun x => F.statsd_Line n x.1)), (12, orcOf [(.agg [.str, (.int .i64), (.sl (.agg [.bool, (.int .u64), (.int .i64)]) .unk), (.int .i64), (.sl (.agg [.str, .str]) .unk), (.int .i64)]), (.int .i64)] (.one (.int .i64)) (fun x => F.ref09_Metric n x.1 x.2.1)), (13, orcOf [(.agg [.str, (.int .i64), (.sl (.agg [.bool, (.int .u64), (.int .i64)]) .unk), (.int .i64), (.sl (.agg [.str, .str]) .unk), (.int .i64)])] (.one .str) (fun x => F.ref10_Line n x.1))] [] [] [] []
theorem cx3_ok (X : Type) (n : Nat) : CxOK Tryz.prog SW (cx3 X n) := mkCx_ok mixed (tabOK tab_ok) ⟨⟨Tryz.func3, by decide⟩, trivial⟩ ⟨orcOf_ok (ok9 n),
  orcOf_ok (ok10 n),
  orcOf_ok (ok11 n),
  orcOf_ok (ok12 n),
  orcOf_ok (ok13 n), trivial⟩ ⟨okC_mk (fun _ => rfl) (by kernel_rfl) (castP (by kernel_rfl) (show True from trivial)) (castP (by kernel_rfl) (show True from trivial)), trivial⟩ trivial
theorem ok3 (n : Nat) : FnOK Tryz.prog SW 3 [(.agg [.str, (.int .i64), (.sl (.agg [.bool, (.int .u64), (.int .i64)]) .unk), (.int .i64), (.sl (.agg [.str, .str]) .unk), (.int .i64)])] (.one .bool) (fun x => F.law10_StatsdLines n x.1) := fnOK_of WOf.st (cx3_ok _ n) (d := 8) (fun x => by kernel_rfl)
def F.ref10_Find.L2.head : Shape := ⟨[(0, .str), (2, (.int .u8)), (7, (.int .i64))], [], [], [], [], 0, 0, 0⟩
def F.ref10_Find.L2.e0 : Shape := ⟨[(0, .str)], [], [], [], [], 0, 0, 0⟩
def F.ref10_Find.L2.er : Shape := ⟨[(6, (.int .i64))], [], [], [], [], 0, 0, 0⟩
noncomputable def F.ref10_Find.L2.f {X : Type} (n m : Nat) (ks : Ks X) (s : F.ref10_Find.L2.head.den) : Option X := F.ref10_Find.L2 n (fun q0 => ks.ex 0 (F.ref10_Find.L2.e0.e ((q0, ()), (), (), ())) (F.ref10_Find.L2.e0.h ((q0, ()), (), (), ()))) (fun q6 => ks.ret (F.ref10_Find.L2.er.e ((q6, ()), (), (), ())) (F.ref10_Find.L2.er.h ((q6, ()), (), (), ()))) m s.1.1 s.1.2.1 s.1.2.2.1
noncomputable def F.ref10_Find.L2.li (X : Type) (n : Nat) : LoopI X := ⟨8, ⟨0, 0, 0⟩, F.ref10_Find.L2.head, [(0, F.ref10_Find.L2.e0)], some F.ref10_Find.L2.er, F.ref10_Find.L2.f n n⟩
noncomputable def cx38 (X : Type) (n : Nat) : Cx X := mkCx tab.get [(38, Tryz.f38)] [] [(38, 2, [F.ref10_Find.L2.li X n])] [] [] []
theorem F.ref10_Find.L2.ok (X : Type) (n : Nat) : LoopOK (cx38 X n) 38 Tryz.f38.ntmps (loopNo Tryz.f38 0) (F.ref10_Find.L2.li X n) :=
  ⟨F.ref10_Find.L2.f n, n, fun _ _ => rfl, fun _ _ => rfl, fun m ks s => by kernel_rfl⟩
theorem cx38_ok (X : Type) (n : Nat) : CxOK Tryz.prog SW (cx38 X n) := mkCx_ok mixed (tabOK tab_ok) ⟨⟨Tryz.func38, by decide⟩, trivial⟩ trivial ⟨okC_mk (fun _ => rfl) (by kernel_rfl) (castP (by kernel_rfl) (show (LoopOK (cx38 X n) 38 Tryz.f38.ntmps (loopNo Tryz.f38 0) (F.ref10_Find.L2.li X n) ∧ True) ∧ True from ⟨⟨F.ref10_Find.L2.ok X n, trivial⟩, trivial⟩)) (castP (by kernel_rfl) (show True from trivial)), trivial⟩ trivial
theorem ok38 (n : Nat) : FnOK Tryz.prog SW 38 [.str, (.int .i64), (.int .u8)] (.one (.int .i64)) (fun x => F.ref10_Find n x.1 x.2.1 x.2.2.1) := fnOK_of WOf.st (cx38_ok _ n) (d := 8) (fun x => by kernel_rfl)
noncomputable def cx39 (X : Type) (n : Nat) : Cx X := mkCx tab.get [(39, Tryz.f39)] [(68, orcOf [(.int .i64), .str, (.int .i64), (.int .i64)] (.one (.agg [(.int .i64), (.int .i64)])) (fun x => F.ref04_Text n x.1 x.2.1 x.2.2.1 x.2.2.2.1))] [] [] [] []
theorem cx39_ok (X : Type) (n : Nat) : CxOK Tryz.prog SW (cx39 X n) := mkCx_ok mixed (tabOK tab_ok) ⟨⟨Tryz.func39, by decide⟩, trivial⟩ ⟨orcOf_ok (ok68 n), trivial⟩ ⟨okC_mk (fun _ => rfl) (by kernel_rfl) (castP (by kernel_rfl) (show True from trivial)) (castP (by kernel_rfl) (show True from trivial)), trivial⟩ trivial
theorem ok39 (n : Nat) : FnOK Tryz.prog SW 39 [.str] (.one .bool) (fun x => F.ref10_Name n x.1) := fnOK_of WOf.st (cx39_ok _ n) (d := 8) (fun x => by kernel_rfl)
noncomputable def cx40 (X : Type) (n : Nat) : Cx X := mkCx tab.get [(40, Tryz.f40)] [] [] [] [] []
theorem cx40_ok (X : Type) (n : Nat) : CxOK Tryz.prog SW (cx40 X n) := mkCx_ok mixed (tabOK tab_ok) ⟨⟨Tryz.func40, by decide⟩, trivial⟩ trivial ⟨okC_mk (fun _ => rfl) (by kernel_rfl) (castP (by kernel_rfl) (show True from trivial)) (castP (by kernel_rfl) (show True from trivial)), trivial⟩ trivial
theorem ok40 (n : Nat) : FnOK Tryz.prog SW 40 [(.int .i64), (.int .i64)] (.many [(.agg [.str, (.int .i64), (.sl (.agg [.bool, (.int .u64), (.int .i64)]) .unk), (.int .i64), (.sl (.agg [.str, .str]) .unk), (.int .i64)]), (.agg [(.int .i64), (.int .i64)])]) (fun x => F.ref10_wrong n x.1 x.2.1) := fnOK_of WOf.st (cx40_ok _ n) (d := 8) (fun x => by kernel_rfl)
noncomputable def cx69 (X : Type) (n : Nat) : Cx X := mkCx tab.get [(69, Tryz.f69)] [] [] [] [] []
theorem cx69_ok (X : Type) (n : Nat) : CxOK Tryz.prog SW (cx69 X n) := mkCx_ok mixed (tabOK tab_ok) ⟨⟨Tryz.func69, by decide⟩, trivial⟩ trivial ⟨okC_mk (fun _ => rfl) (by kernel_rfl) (castP (by kernel_rfl) (show True from trivial)) (castP (by kernel_rfl) (show True from trivial)), trivial⟩ trivial
theorem ok69 (n : Nat) : FnOK Tryz.prog SW 69 [(.int .u8)] (.one .bool) (fun x => F.ref03_digit n x.1) := fnOK_of WOf.st (cx69_ok _ n) (d := 8) (fun x => by kernel_rfl)
def F.ref03_Parse.L8.head : Shape := ⟨[(0, .str), (2, (.const (.ref 0 0))), (3, (.const (.ref 1 0))), (4, .bool), (5, (.int .i64)), (6, .str), (7, (.int .i64)), (8, .bool)], [[.bool, (.int .u64), (.int .i64)], [(.int .i64), (.int .i64)]], [], [], [], 2, 0, 0⟩
def F.ref03_Parse.L8.e0 : Shape := ⟨[(0, .str), (2, (.const (.ref 0 0))), (3, (.const (.ref 1 0))), (4, .bool), (6, .str), (7, (.int .i64)), (8, .bool)], [[.bool, (.int .u64), (.int .i64)], [(.int .i64), (.int .i64)]], [], [], [], 2, 0, 0⟩
def F.ref03_Parse.L8.er : Shape := ⟨[(2, (.const (.ref 0 0))), (3, (.const (.ref 1 0)))], [[.bool, (.int .u64), (.int .i64)], [(.int .i64), (.int .i64)]], [], [], [], 2, 0, 0⟩
noncomputable def F.ref03_Parse.L8.f {X : Type} (n m : Nat) (ks : Ks X) (s : F.ref03_Parse.L8.head.den) : Option X := F.ref03_Parse.L8 n (fun q0 q4 q6 q7 q8 qb0_0 qb0_1 qb0_2 qb1_0 qb1_1 => ks.ex 0 (F.ref03_Parse.L8.e0.e ((q0, (), (), q4, q6, q7, q8, ()), ((qb0_0, qb0_1, qb0_2, ()), (qb1_0, qb1_1, ()), ()), (), ())) (F.ref03_Parse.L8.e0.h ((q0, (), (), q4, q6, q7, q8, ()), ((qb0_0, qb0_1, qb0_2, ()), (qb1_0, qb1_1, ()), ()), (), ()))) (fun qb0_0 qb0_1 qb0_2 qb1_0 qb1_1 => ks.ret (F.ref03_Parse.L8.er.e (((), (), ()), ((qb0_0, qb0_1, qb0_2, ()), (qb1_0, qb1_1, ()), ()), (), ())) (F.ref03_Parse.L8.er.h (((), (), ()), ((qb0_0, qb0_1, qb0_2, ()), (qb1_0, qb1_1, ()), ()), (), ()))) m s.1.1 s.1.2.2.2.1 s.1.2.2.2.2.1 s.1.2.2.2.2.2.1 s.1.2.2.2.2.2.2.1 s.1.2.2.2.2.2.2.2.1 s.2.1.1.1 s.2.1.1.2.1 s.2.1.1.2.2.1 s.2.1.2.1.1 s.2.1.2.1.2.1
noncomputable def F.ref03_Parse.L8.li (X : Type) (n : Nat) : LoopI X := ⟨8, ⟨0, 0, 0⟩, F.ref03_Parse.L8.head, [(0, F.ref03_Parse.L8.e0)], some F.ref03_Parse.L8.er, F.ref03_Parse.L8.f n n⟩
noncomputable def cx41 (X : Type) (n : Nat) : Cx X := mkCx tab.get [(41, Tryz.f41)] [(69, orcOf [(.int .u8)] (.one .bool) (fun x => F.ref03_digit n x.1)), (70, orcOf [.bool, .str, (.int .i64)] (.many [(.agg [.bool, (.int .u64), (.int .i64)]), .bool]) (fun x => F.ref03_Make n x.1 x.2.1 x.2.2.1))] [(41, 8, [F.ref03_Parse.L8.li X n])] [] [] []
theorem F.ref03_Parse.L8.ok (X : Type) (n : Nat) : LoopOK (cx41 X n) 41 Tryz.f41.ntmps (loopNo Tryz.f41 0) (F.ref03_Parse.L8.li X n) :=
  ⟨F.ref03_Parse.L8.f n, n, fun _ _ => rfl, fun _ _ => rfl, fun m ks s => by kernel_rfl⟩
theorem cx41_ok (X : Type) (n : Nat) : CxOK Tryz.prog SW (cx41 X n) := mkCx_ok mixed (tabOK tab_ok) ⟨⟨Tryz.func41, by decide⟩, trivial⟩ ⟨orcOf_ok (ok69 n),
  orcOf_ok (ok70 n), trivial⟩ ⟨okC_mk (fun _ => rfl) (by kernel_rfl) (castP (by kernel_rfl) (show (LoopOK (cx41 X n) 41 Tryz.f41.ntmps (loopNo Tryz.f41 0) (F.ref03_Parse.L8.li X n) ∧ True) ∧ True from ⟨⟨F.ref03_Parse.L8.ok X n, trivial⟩, trivial⟩)) (castP (by kernel_rfl) (show True from trivial)), trivial⟩ trivial
theorem ok41 (n : Nat) : FnOK Tryz.prog SW 41 [.str] (.many [(.agg [.bool, (.int .u64), (.int .i64)]), (.agg [(.int .i64), (.int .i64)])]) (fun x => F.ref03_Parse n x.1) := fnOK_of WOf.st (cx41_ok _ n) (d := 8) (fun x => by kernel_rfl)
def F.ref05_Value.L3.head : Shape := ⟨[(0, .str), (4, (.int .i64)), (5, (.int .i64))], [], [], [], [], 0, 0, 0⟩
def F.ref05_Value.L3.e0 : Shape := ⟨[(4, (.int .i64))], [], [], [], [], 0, 0, 0⟩
def F.ref05_Value.L3.er : Shape := ⟨[(2, (.int .i64)), (3, .bool)], [], [], [], [], 0, 0, 0⟩
noncomputable def F.ref05_Value.L3.f {X : Type} (n m : Nat) (ks : Ks X) (s : F.ref05_Value.L3.head.den) : Option X := F.ref05_Value.L3 n (fun q4 => ks.ex 0 (F.ref05_Value.L3.e0.e ((q4, ()), (), (), ())) (F.ref05_Value.L3.e0.h ((q4, ()), (), (), ()))) (fun q2 q3 => ks.ret (F.ref05_Value.L3.er.e ((q2, q3, ()), (), (), ())) (F.ref05_Value.L3.er.h ((q2, q3, ()), (), (), ()))) m s.1.1 s.1.2.1 s.1.2.2.1
noncomputable def F.ref05_Value.L3.li (X : Type) (n : Nat) : LoopI X := ⟨8, ⟨0, 0, 0⟩, F.ref05_Value.L3.head, [(0, F.ref05_Value.L3.e0)], some F.ref05_Value.L3.er, F.ref05_Value.L3.f n n⟩
noncomputable def cx72 (X : Type) (n : Nat) : Cx X := mkCx tab.get [(72, Tryz.f72)] [] [(72, 3, [F.ref05_Value.L3.li X n])] [] [] []
theorem F.ref05_Value.L3.ok (X : Type) (n : Nat) : LoopOK (cx72 X n) 72 Tryz.f72.ntmps (loopNo Tryz.f72 0) (F.ref05_Value.L3.li X n) :=
  ⟨F.ref05_Value.L3.f n, n, fun _ _ => rfl, fun _ _ => rfl, fun m ks s => by kernel_rfl⟩
theorem cx72_ok (X : Type) (n : Nat) : CxOK Tryz.prog SW (cx72 X n) := mkCx_ok mixed (tabOK tab_ok) ⟨⟨Tryz.func72, by decide⟩, trivial⟩ trivial ⟨okC_mk (fun _ => rfl) (by kernel_rfl) (castP (by kernel_rfl) (show (LoopOK (cx72 X n) 72 Tryz.f72.ntmps (loopNo Tryz.f72 0) (F.ref05_Value.L3.li X n) ∧ True) ∧ True from ⟨⟨F.ref05_Value.L3.ok X n, trivial⟩, trivial⟩)) (castP (by kernel_rfl) (show True from trivial)), trivial⟩ trivial
theorem ok72 (n : Nat) : FnOK Tryz.prog SW 72 [.str] (.many [(.int .i64), .bool]) (fun x => F.ref05_Value n x.1) := fnOK_of WOf.st (cx72_ok _ n) (d := 8) (fun x => by kernel_rfl)
def F.ref05_Rate.L17.head : Shape := ⟨[(3, (.const (.ref 0 0))), (4, .str)], [[(.int .i64), (.int .i64)]], [], [], [], 1, 0, 0⟩
def F.ref05_Rate.L17.e0 : Shape := ⟨[(3, (.const (.ref 0 0))), (4, .str)], [[(.int .i64), (.int .i64)]], [], [], [], 1, 0, 0⟩
noncomputable def F.ref05_Rate.L17.f {X : Type} (n m : Nat) (ks : Ks X) (s : F.ref05_Rate.L17.head.den) : Option X := F.ref05_Rate.L17 n (fun q4 qb0_0 qb0_1 => ks.ex 0 (F.ref05_Rate.L17.e0.e (((), q4, ()), ((qb0_0, qb0_1, ()), ()), (), ())) (F.ref05_Rate.L17.e0.h (((), q4, ()), ((qb0_0, qb0_1, ()), ()), (), ()))) m s.1.2.1 s.2.1.1.1 s.2.1.1.2.1
noncomputable def F.ref05_Rate.L17.li (X : Type) (n : Nat) : LoopI X := ⟨8, ⟨0, 0, 0⟩, F.ref05_Rate.L17.head, [(0, F.ref05_Rate.L17.e0)], none, F.ref05_Rate.L17.f n n⟩
noncomputable def cx42 (X : Type) (n : Nat) : Cx X := mkCx tab.get [(42, Tryz.f42)] [(71, orcOf [(.int .i64), .str] (.one (.int .i64)) (fun x => F.ref04_Bad n x.1 x.2.1)), (72, orcOf [.str] (.many [(.int .i64), .bool]) (fun x => F.ref05_Value n x.1))] [(42, 17, [F.ref05_Rate.L17.li X n])] [] [] []
theorem F.ref05_Rate.L17.ok (X : Type) (n : Nat) : LoopOK (cx42 X n) 42 Tryz.f42.ntmps (loopNo Tryz.f42 0) (F.ref05_Rate.L17.li X n) :=
  ⟨F.ref05_Rate.L17.f n, n, fun _ _ => rfl, fun _ _ => rfl, fun m ks s => by kernel_rfl⟩
theorem cx42_ok (X : Type) (n : Nat) : CxOK Tryz.prog SW (cx42 X n) := mkCx_ok mixed (tabOK tab_ok) ⟨⟨Tryz.func42, by decide⟩, trivial⟩ ⟨orcOf_ok (ok71 n),
  orcOf_ok (ok72 n), trivial⟩ ⟨okC_mk (fun _ => rfl) (by kernel_rfl) (castP (by kernel_rfl) (show (LoopOK (cx42 X n) 42 Tryz.f42.ntmps (loopNo Tryz.f42 0) (F.ref05_Rate.L17.li X n) ∧ True) ∧ True from ⟨⟨F.ref05_Rate.L17.ok X n, trivial⟩, trivial⟩)) (castP (by kernel_rfl) (show True from trivial)), trivial⟩ trivial
theorem ok42 (n : Nat) : FnOK Tryz.prog SW 42 [.str] (.many [(.int .i64), (.agg [(.int .i64), (.int .i64)])]) (fun x => F.ref05_Rate n x.1) := fnOK_of WOf.st (cx42_ok _ n) (d := 8) (fun x => by kernel_rfl)
def F.ref10_Parse.C26.head : Shape := ⟨[(0, .str), (2, (.const (.ref 0 0))), (3, (.const (.ref 1 0))), (8, (.int .i64)), (10, (.const (.ref 3 0))), (11, (.int .i64)), (12, (.int .i64)), (145, .bool)], [[.str, (.int .i64), (.sl (.agg [.bool, (.int .u64), (.int .i64)]) (.own 0)), (.int .i64), (.sl (.agg [.str, .str]) (.own 1)), (.int .i64)], [(.int .i64), (.int .i64)], [.bool, (.int .u64), (.int .i64)], [.str, (.int .i64), (.sl (.agg [.bool, (.int .u64), (.int .i64)]) (.own 2)), (.int .i64), (.sl (.agg [.str, .str]) (.own 3)), (.int .i64)]], [true, true, true, true], [], [], 4, 0, 0⟩
def F.ref10_Parse.C26.er : Shape := ⟨[(2, (.const (.ref 0 0))), (3, (.const (.ref 1 0)))], [[.str, (.int .i64), (.sl (.agg [.bool, (.int .u64), (.int .i64)]) .unk), (.int .i64), (.sl (.agg [.str, .str]) .unk), (.int .i64)], [(.int .i64), (.int .i64)]], [], [], [], 2, 0, 0⟩
def F.ref10_Parse.C26.en : Shape := ⟨[(0, .str), (2, (.const (.ref 0 0))), (3, (.const (.ref 1 0))), (10, (.const (.ref 3 0))), (11, (.int .i64)), (12, (.int .i64))], [[.str, (.int .i64), (.sl (.agg [.bool, (.int .u64), (.int .i64)]) (.own 0)), (.int .i64), (.sl (.agg [.str, .str]) (.own 1)), (.int .i64)], [(.int .i64), (.int .i64)], [.bool, (.int .u64), (.int .i64)], [.str, (.int .i64), (.sl (.agg [.bool, (.int .u64), (.int .i64)]) (.own 2)), (.int .i64), (.sl (.agg [.str, .str]) (.own 3)), (.int .i64)]], [true, true, true, true], [], [], 4, 0, 0⟩
noncomputable def F.ref10_Parse.C26.f {X : Type} (n : Nat) (ks : Ks X) (s : F.ref10_Parse.C26.head.den) : Option X := F.ref10_Parse.C26 n (fun qb0_0 qb0_1 qb0_2 qb0_3 qb0_4 qb0_5 qb1_0 qb1_1 => ks.ret (F.ref10_Parse.C26.er.e (((), (), ()), ((qb0_0, qb0_1, qb0_2, qb0_3, qb0_4, qb0_5, ()), (qb1_0, qb1_1, ()), ()), (), ())) (F.ref10_Parse.C26.er.h (((), (), ()), ((qb0_0, qb0_1, qb0_2, qb0_3, qb0_4, qb0_5, ()), (qb1_0, qb1_1, ()), ()), (), ()))) (fun q0 q11 q12 qb0_0 qb0_1 qb0_2 qb0_3 qb0_4 qb0_5 qb1_0 qb1_1 qb2_0 qb2_1 qb2_2 qb3_0 qb3_1 qb3_2 qb3_3 qb3_4 qb3_5 qk0 qk1 qk2 qk3 => ks.nxt (F.ref10_Parse.C26.en.e ((q0, (), (), (), q11, q12, ()), ((qb0_0, qb0_1, qb0_2, qb0_3, qb0_4, qb0_5, ()), (qb1_0, qb1_1, ()), (qb2_0, qb2_1, qb2_2, ()), (qb3_0, qb3_1, qb3_2, qb3_3, qb3_4, qb3_5, ()), ()), (qk0, qk1, qk2, qk3, ()), ())) (F.ref10_Parse.C26.en.h ((q0, (), (), (), q11, q12, ()), ((qb0_0, qb0_1, qb0_2, qb0_3, qb0_4, qb0_5, ()), (qb1_0, qb1_1, ()), (qb2_0, qb2_1, qb2_2, ()), (qb3_0, qb3_1, qb3_2, qb3_3, qb3_4, qb3_5, ()), ()), (qk0, qk1, qk2, qk3, ()), ()))) s.1.1 s.1.2.2.2.1 s.1.2.2.2.2.2.1 s.1.2.2.2.2.2.2.1 s.1.2.2.2.2.2.2.2.1 s.2.1.1.1 s.2.1.1.2.1 s.2.1.1.2.2.1 s.2.1.1.2.2.2.1 s.2.1.1.2.2.2.2.1 s.2.1.1.2.2.2.2.2.1 s.2.1.2.1.1 s.2.1.2.1.2.1 s.2.1.2.2.1.1 s.2.1.2.2.1.2.1 s.2.1.2.2.1.2.2.1 s.2.1.2.2.2.1.1 s.2.1.2.2.2.1.2.1 s.2.1.2.2.2.1.2.2.1 s.2.1.2.2.2.1.2.2.2.1 s.2.1.2.2.2.1.2.2.2.2.1 s.2.1.2.2.2.1.2.2.2.2.2.1 s.2.2.1.1 s.2.2.1.2.1 s.2.2.1.2.2.1 s.2.2.1.2.2.2.1
noncomputable def F.ref10_Parse.C26.ci (X : Type) (n : Nat) : CutI X := ⟨8, ⟨0, 0, 0⟩, F.ref10_Parse.C26.head, some F.ref10_Parse.C26.en, [], some F.ref10_Parse.C26.er, F.ref10_Parse.C26.f n⟩
def F.ref10_Parse.C27.head : Shape := ⟨[(0, .str), (2, (.const (.ref 0 0))), (3, (.const (.ref 1 0))), (10, (.const (.ref 3 0))), (11, (.int .i64)), (12, (.int .i64))], [[.str, (.int .i64), (.sl (.agg [.bool, (.int .u64), (.int .i64)]) (.own 0)), (.int .i64), (.sl (.agg [.str, .str]) (.own 1)), (.int .i64)], [(.int .i64), (.int .i64)], [.bool, (.int .u64), (.int .i64)], [.str, (.int .i64), (.sl (.agg [.bool, (.int .u64), (.int .i64)]) (.own 2)), (.int .i64), (.sl (.agg [.str, .str]) (.own 3)), (.int .i64)]], [true, true, true, true], [], [], 4, 0, 0⟩
def F.ref10_Parse.C27.er : Shape := ⟨[(2, (.const (.ref 0 0))), (3, (.const (.ref 1 0)))], [[.str, (.int .i64), (.sl (.agg [.bool, (.int .u64), (.int .i64)]) .unk), (.int .i64), (.sl (.agg [.str, .str]) .unk), (.int .i64)], [(.int .i64), (.int .i64)]], [], [], [], 2, 0, 0⟩
noncomputable def F.ref10_Parse.C27.f {X : Type} (n : Nat) (ks : Ks X) (s : F.ref10_Parse.C27.head.den) : Option X := F.ref10_Parse.C27 n (fun qb0_0 qb0_1 qb0_2 qb0_3 qb0_4 qb0_5 qb1_0 qb1_1 => ks.ret (F.ref10_Parse.C27.er.e (((), (), ()), ((qb0_0, qb0_1, qb0_2, qb0_3, qb0_4, qb0_5, ()), (qb1_0, qb1_1, ()), ()), (), ())) (F.ref10_Parse.C27.er.h (((), (), ()), ((qb0_0, qb0_1, qb0_2, qb0_3, qb0_4, qb0_5, ()), (qb1_0, qb1_1, ()), ()), (), ()))) s.1.1 s.1.2.2.2.2.1 s.1.2.2.2.2.2.1 s.2.1.1.1 s.2.1.1.2.1 s.2.1.1.2.2.1 s.2.1.1.2.2.2.1 s.2.1.1.2.2.2.2.1 s.2.1.1.2.2.2.2.2.1 s.2.1.2.1.1 s.2.1.2.1.2.1 s.2.1.2.2.1.1 s.2.1.2.2.1.2.1 s.2.1.2.2.1.2.2.1 s.2.1.2.2.2.1.1 s.2.1.2.2.2.1.2.1 s.2.1.2.2.2.1.2.2.1 s.2.1.2.2.2.1.2.2.2.1 s.2.1.2.2.2.1.2.2.2.2.1 s.2.1.2.2.2.1.2.2.2.2.2.1 s.2.2.1.1 s.2.2.1.2.1 s.2.2.1.2.2.1 s.2.2.1.2.2.2.1
noncomputable def F.ref10_Parse.C27.ci (X : Type) (n : Nat) : CutI X := ⟨8, ⟨0, 0, 0⟩, F.ref10_Parse.C27.head, none, [], some F.ref10_Parse.C27.er, F.ref10_Parse.C27.f n⟩
def F.ref10_Parse.C18.head : Shape := ⟨[(0, .str), (2, (.const (.ref 0 0))), (3, (.const (.ref 1 0))), (4, (.int .i64)), (6, (.const (.ref 2 0))), (8, (.int .i64)), (9, (.int .i64))], [[.str, (.int .i64), (.sl (.agg [.bool, (.int .u64), (.int .i64)]) (.own 0)), (.int .i64), (.sl (.agg [.str, .str]) (.own 1)), (.int .i64)], [(.int .i64), (.int .i64)], [.bool, (.int .u64), (.int .i64)]], [true, true], [], [], 3, 0, 0⟩
def F.ref10_Parse.C18.er : Shape := ⟨[(2, (.const (.ref 0 0))), (3, (.const (.ref 1 0)))], [[.str, (.int .i64), (.sl (.agg [.bool, (.int .u64), (.int .i64)]) .unk), (.int .i64), (.sl (.agg [.str, .str]) .unk), (.int .i64)], [(.int .i64), (.int .i64)]], [], [], [], 2, 0, 0⟩
noncomputable def F.ref10_Parse.C18.f {X : Type} (n : Nat) (ks : Ks X) (s : F.ref10_Parse.C18.head.den) : Option X := F.ref10_Parse.C18 n (fun qb0_0 qb0_1 qb0_2 qb0_3 qb0_4 qb0_5 qb1_0 qb1_1 => ks.ret (F.ref10_Parse.C18.er.e (((), (), ()), ((qb0_0, qb0_1, qb0_2, qb0_3, qb0_4, qb0_5, ()), (qb1_0, qb1_1, ()), ()), (), ())) (F.ref10_Parse.C18.er.h (((), (), ()), ((qb0_0, qb0_1, qb0_2, qb0_3, qb0_4, qb0_5, ()), (qb1_0, qb1_1, ()), ()), (), ()))) s.1.1 s.1.2.2.2.1 s.1.2.2.2.2.2.1 s.1.2.2.2.2.2.2.1 s.2.1.1.1 s.2.1.1.2.1 s.2.1.1.2.2.1 s.2.1.1.2.2.2.1 s.2.1.1.2.2.2.2.1 s.2.1.1.2.2.2.2.2.1 s.2.1.2.1.1 s.2.1.2.1.2.1 s.2.1.2.2.1.1 s.2.1.2.2.1.2.1 s.2.1.2.2.1.2.2.1 s.2.2.1.1 s.2.2.1.2.1
noncomputable def F.ref10_Parse.C18.ci (X : Type) (n : Nat) : CutI X := ⟨8, ⟨0, 0, 0⟩, F.ref10_Parse.C18.head, none, [], some F.ref10_Parse.C18.er, F.ref10_Parse.C18.f n⟩
noncomputable def cx15 (X : Type) (n : Nat) : Cx X := mkCx tab.get [(15, Tryz.f15)] [(20, orcOf [.str] (.one (.int .i64)) (fun x => F.ref10_Kind n x.1)), (38, orcOf [.str, (.int .i64), (.int .u8)] (.one (.int .i64)) (fun x => F.ref10_Find n x.1 x.2.1 x.2.2.1)), (39, orcOf [.str] (.one .bool) (fun x => F.ref10_Name n x.1)), (40, orcOf [(.int .i64), (.int .i64)] (.many [(.agg [.str, (.int .i64), (.sl (.agg [.bool, (.int .u64), (.int .i64)]) .unk), (.int .i64), (.sl (.agg [.str, .str]) .unk), (.int .i64)]), (.agg [(.int .i64), (.int .i64)])]) (fun x => F.ref10_wrong n x.1 x.2.1)), (41, orcOf [.str] (.many [(.agg [.bool, (.int .u64), (.int .i64)]), (.agg [(.int .i64), (.int .i64)])]) (fun x => F.ref03_Parse n x.1)), (42, orcOf [.str] (.many [(.int .i64), (.agg [(.int .i64), (.int .i64)])]) (fun x => F.ref05_Rate n x.1))] [] [] [] [] [(15, 18, [F.ref10_Parse.C18.ci X n]), (15, 26, [F.ref10_Parse.C26.ci X n]), (15, 27, [F.ref10_Parse.C27.ci X n])]
theorem F.ref10_Parse.C26.ok (X : Type) (n : Nat) : CutOK (cx15 X n) 15 Tryz.f15.ntmps (cutNo Tryz.f15 34) (F.ref10_Parse.C26.ci X n) :=
  fun ks s => by kernel_rfl
theorem F.ref10_Parse.C27.ok (X : Type) (n : Nat) : CutOK (cx15 X n) 15 Tryz.f15.ntmps (cutNo Tryz.f15 33) (F.ref10_Parse.C27.ci X n) :=
  fun ks s => by kernel_rfl
theorem F.ref10_Parse.C18.ok (X : Type) (n : Nat) : CutOK (cx15 X n) 15 Tryz.f15.ntmps (cutNo Tryz.f15 21) (F.ref10_Parse.C18.ci X n) :=
  fun ks s => by kernel_rfl
theorem cx15_ok (X : Type) (n : Nat) : CxOK Tryz.prog SW (cx15 X n) := mkCx_ok mixed (tabOK tab_ok) ⟨⟨Tryz.func15, by decide⟩, trivial⟩ ⟨orcOf_ok (ok20 n),
  orcOf_ok (ok38 n),
  orcOf_ok (ok39 n),
  orcOf_ok (ok40 n),
  orcOf_ok (ok41 n),
  orcOf_ok (ok42 n), trivial⟩ ⟨okC_mkc (castP (by kernel_rfl) (show (True) ∧ (True) ∧ (True) ∧ (True) ∧ (True) ∧ (True) ∧ (True) ∧ (True) ∧ (True) ∧ (True) ∧ (True) ∧ (True) ∧ (True) ∧ (True) ∧ (True) ∧ (True) ∧ (True) ∧ (True) ∧ (True) ∧ (True) ∧ (True) ∧ (CutOK (cx15 X n) 15 Tryz.f15.ntmps (cutNo Tryz.f15 21) (F.ref10_Parse.C18.ci X n) ∧ True) ∧ (True) ∧ (True) ∧ (True) ∧ (True) ∧ (True) ∧ (True) ∧ (True) ∧ (True) ∧ (True) ∧ (True) ∧ (True) ∧ (CutOK (cx15 X n) 15 Tryz.f15.ntmps (cutNo Tryz.f15 33) (F.ref10_Parse.C27.ci X n) ∧ True) ∧ (CutOK (cx15 X n) 15 Tryz.f15.ntmps (cutNo Tryz.f15 34) (F.ref10_Parse.C26.ci X n) ∧ True) ∧ (True) ∧ (True) ∧ (True) ∧ (True) ∧ (True) ∧ (True) ∧ True from ⟨trivial, trivial, trivial, trivial, trivial, trivial, trivial, trivial, trivial, trivial, trivial, trivial, trivial, trivial, trivial, trivial, trivial, trivial, trivial, trivial, trivial, ⟨F.ref10_Parse.C18.ok X n, trivial⟩, trivial, trivial, trivial, trivial, trivial, trivial, trivial, trivial, trivial, trivial, trivial, ⟨F.ref10_Parse.C27.ok X n, trivial⟩, ⟨F.ref10_Parse.C26.ok X n, trivial⟩, trivial, trivial, trivial, trivial, trivial, trivial, trivial⟩)) (by kernel_rfl) (castP (by kernel_rfl) (show True from trivial)) (castP (by kernel_rfl) (show True from trivial)), trivial⟩ trivial
theorem ok15 (n : Nat) : FnOK Tryz.prog SW 15 [.str] (.many [(.agg [.str, (.int .i64), (.sl (.agg [.bool, (.int .u64), (.int .i64)]) .unk), (.int .i64), (.sl (.agg [.str, .str]) .unk), (.int .i64)]), (.agg [(.int .i64), (.int .i64)])]) (fun x => F.ref10_Parse n x.1) := fnOK_of WOf.st (cx15_ok _ n) (d := 8) (fun x => by kernel_rfl)
def F.ref07_Equal.L4.head : Shape := ⟨[(2, (.const (.ref 0 0))), (3, (.const (.ref 1 0))), (5, (.int .i64))], [[.str, (.int .i64), (.sl (.agg [.bool, (.int .u64), (.int .i64)]) .unk), (.int .i64), (.sl (.agg [.str, .str]) .unk), (.int .i64)], [.str, (.int .i64), (.sl (.agg [.bool, (.int .u64), (.int .i64)]) .unk), (.int .i64), (.sl (.agg [.str, .str]) .unk), (.int .i64)]], [], [], [], 2, 0, 0⟩
def F.ref07_Equal.L4.e0 : Shape := ⟨[(2, (.const (.ref 0 0))), (3, (.const (.ref 1 0)))], [[.str, (.int .i64), (.sl (.agg [.bool, (.int .u64), (.int .i64)]) .unk), (.int .i64), (.sl (.agg [.str, .str]) .unk), (.int .i64)], [.str, (.int .i64), (.sl (.agg [.bool, (.int .u64), (.int .i64)]) .unk), (.int .i64), (.sl (.agg [.str, .str]) .unk), (.int .i64)]], [], [], [], 2, 0, 0⟩
def F.ref07_Equal.L4.er : Shape := ⟨[(4, .bool)], [[.str, (.int .i64), (.sl (.agg [.bool, (.int .u64), (.int .i64)]) .unk), (.int .i64), (.sl (.agg [.str, .str]) .unk), (.int .i64)], [.str, (.int .i64), (.sl (.agg [.bool, (.int .u64), (.int .i64)]) .unk), (.int .i64), (.sl (.agg [.str, .str]) .unk), (.int .i64)]], [], [], [], 2, 0, 0⟩
noncomputable def F.ref07_Equal.L4.f {X : Type} (n m : Nat) (ks : Ks X) (s : F.ref07_Equal.L4.head.den) : Option X := F.ref07_Equal.L4 n (fun qb0_0 qb0_1 qb0_2 qb0_3 qb0_4 qb0_5 qb1_0 qb1_1 qb1_2 qb1_3 qb1_4 qb1_5 => ks.ex 0 (F.ref07_Equal.L4.e0.e (((), (), ()), ((qb0_0, qb0_1, qb0_2, qb0_3, qb0_4, qb0_5, ()), (qb1_0, qb1_1, qb1_2, qb1_3, qb1_4, qb1_5, ()), ()), (), ())) (F.ref07_Equal.L4.e0.h (((), (), ()), ((qb0_0, qb0_1, qb0_2, qb0_3, qb0_4, qb0_5, ()), (qb1_0, qb1_1, qb1_2, qb1_3, qb1_4, qb1_5, ()), ()), (), ()))) (fun q4 qb0_0 qb0_1 qb0_2 qb0_3 qb0_4 qb0_5 qb1_0 qb1_1 qb1_2 qb1_3 qb1_4 qb1_5 => ks.ret (F.ref07_Equal.L4.er.e ((q4, ()), ((qb0_0, qb0_1, qb0_2, qb0_3, qb0_4, qb0_5, ()), (qb1_0, qb1_1, qb1_2, qb1_3, qb1_4, qb1_5, ()), ()), (), ())) (F.ref07_Equal.L4.er.h ((q4, ()), ((qb0_0, qb0_1, qb0_2, qb0_3, qb0_4, qb0_5, ()), (qb1_0, qb1_1, qb1_2, qb1_3, qb1_4, qb1_5, ()), ()), (), ()))) m s.1.2.2.1 s.2.1.1.1 s.2.1.1.2.1 s.2.1.1.2.2.1 s.2.1.1.2.2.2.1 s.2.1.1.2.2.2.2.1 s.2.1.1.2.2.2.2.2.1 s.2.1.2.1.1 s.2.1.2.1.2.1 s.2.1.2.1.2.2.1 s.2.1.2.1.2.2.2.1 s.2.1.2.1.2.2.2.2.1 s.2.1.2.1.2.2.2.2.2.1
noncomputable def F.ref07_Equal.L4.li (X : Type) (n : Nat) : LoopI X := ⟨8, ⟨0, 0, 0⟩, F.ref07_Equal.L4.head, [(0, F.ref07_Equal.L4.e0)], some F.ref07_Equal.L4.er, F.ref07_Equal.L4.f n n⟩
def F.ref07_Equal.L9.head : Shape := ⟨[(2, (.const (.ref 0 0))), (3, (.const (.ref 1 0))), (6, (.int .i64))], [[.str, (.int .i64), (.sl (.agg [.bool, (.int .u64), (.int .i64)]) .unk), (.int .i64), (.sl (.agg [.str, .str]) .unk), (.int .i64)], [.str, (.int .i64), (.sl (.agg [.bool, (.int .u64), (.int .i64)]) .unk), (.int .i64), (.sl (.agg [.str, .str]) .unk), (.int .i64)]], [], [], [], 2, 0, 0⟩
def F.ref07_Equal.L9.e2 : Shape := ⟨[], [[.str, (.int .i64), (.sl (.agg [.bool, (.int .u64), (.int .i64)]) .unk), (.int .i64), (.sl (.agg [.str, .str]) .unk), (.int .i64)], [.str, (.int .i64), (.sl (.agg [.bool, (.int .u64), (.int .i64)]) .unk), (.int .i64), (.sl (.agg [.str, .str]) .unk), (.int .i64)]], [], [], [], 2, 0, 0⟩
def F.ref07_Equal.L9.er : Shape := ⟨[(4, .bool)], [[.str, (.int .i64), (.sl (.agg [.bool, (.int .u64), (.int .i64)]) .unk), (.int .i64), (.sl (.agg [.str, .str]) .unk), (.int .i64)], [.str, (.int .i64), (.sl (.agg [.bool, (.int .u64), (.int .i64)]) .unk), (.int .i64), (.sl (.agg [.str, .str]) .unk), (.int .i64)]], [], [], [], 2, 0, 0⟩
noncomputable def F.ref07_Equal.L9.f {X : Type} (n m : Nat) (ks : Ks X) (s : F.ref07_Equal.L9.head.den) : Option X := F.ref07_Equal.L9 n (fun qb0_0 qb0_1 qb0_2 qb0_3 qb0_4 qb0_5 qb1_0 qb1_1 qb1_2 qb1_3 qb1_4 qb1_5 => ks.ex 2 (F.ref07_Equal.L9.e2.e ((), ((qb0_0, qb0_1, qb0_2, qb0_3, qb0_4, qb0_5, ()), (qb1_0, qb1_1, qb1_2, qb1_3, qb1_4, qb1_5, ()), ()), (), ())) (F.ref07_Equal.L9.e2.h ((), ((qb0_0, qb0_1, qb0_2, qb0_3, qb0_4, qb0_5, ()), (qb1_0, qb1_1, qb1_2, qb1_3, qb1_4, qb1_5, ()), ()), (), ()))) (fun q4 qb0_0 qb0_1 qb0_2 qb0_3 qb0_4 qb0_5 qb1_0 qb1_1 qb1_2 qb1_3 qb1_4 qb1_5 => ks.ret (F.ref07_Equal.L9.er.e ((q4, ()), ((qb0_0, qb0_1, qb0_2, qb0_3, qb0_4, qb0_5, ()), (qb1_0, qb1_1, qb1_2, qb1_3, qb1_4, qb1_5, ()), ()), (), ())) (F.ref07_Equal.L9.er.h ((q4, ()), ((qb0_0, qb0_1, qb0_2, qb0_3, qb0_4, qb0_5, ()), (qb1_0, qb1_1, qb1_2, qb1_3, qb1_4, qb1_5, ()), ()), (), ()))) m s.1.2.2.1 s.2.1.1.1 s.2.1.1.2.1 s.2.1.1.2.2.1 s.2.1.1.2.2.2.1 s.2.1.1.2.2.2.2.1 s.2.1.1.2.2.2.2.2.1 s.2.1.2.1.1 s.2.1.2.1.2.1 s.2.1.2.1.2.2.1 s.2.1.2.1.2.2.2.1 s.2.1.2.1.2.2.2.2.1 s.2.1.2.1.2.2.2.2.2.1
noncomputable def F.ref07_Equal.L9.li (X : Type) (n : Nat) : LoopI X := ⟨8, ⟨0, 0, 0⟩, F.ref07_Equal.L9.head, [(2, F.ref07_Equal.L9.e2)], some F.ref07_Equal.L9.er, F.ref07_Equal.L9.f n n⟩
noncomputable def cx16 (X : Type) (n : Nat) : Cx X := mkCx tab.get [(16, Tryz.f16)] [] [(16, 4, [F.ref07_Equal.L4.li X n]), (16, 9, [F.ref07_Equal.L9.li X n])] [] [] []
theorem F.ref07_Equal.L4.ok (X : Type) (n : Nat) : LoopOK (cx16 X n) 16 Tryz.f16.ntmps (loopNo Tryz.f16 0) (F.ref07_Equal.L4.li X n) :=
  ⟨F.ref07_Equal.L4.f n, n, fun _ _ => rfl, fun _ _ => rfl, fun m ks s => by kernel_rfl⟩
theorem F.ref07_Equal.L9.ok (X : Type) (n : Nat) : LoopOK (cx16 X n) 16 Tryz.f16.ntmps (loopNo Tryz.f16 1) (F.ref07_Equal.L9.li X n) :=
  ⟨F.ref07_Equal.L9.f n, n, fun _ _ => rfl, fun _ _ => rfl, fun m ks s => by kernel_rfl⟩
theorem cx16_ok (X : Type) (n : Nat) : CxOK Tryz.prog SW (cx16 X n) := mkCx_ok mixed (tabOK tab_ok) ⟨⟨Tryz.func16, by decide⟩, trivial⟩ trivial ⟨okC_mk (fun _ => rfl) (by kernel_rfl) (castP (by kernel_rfl) (show (LoopOK (cx16 X n) 16 Tryz.f16.ntmps (loopNo Tryz.f16 0) (F.ref07_Equal.L4.li X n) ∧ True) ∧ (LoopOK (cx16 X n) 16 Tryz.f16.ntmps (loopNo Tryz.f16 1) (F.ref07_Equal.L9.li X n) ∧ True) ∧ True from ⟨⟨F.ref07_Equal.L4.ok X n, trivial⟩, ⟨F.ref07_Equal.L9.ok X n, trivial⟩, trivial⟩)) (castP (by kernel_rfl) (show True from trivial)), trivial⟩ trivial
theorem ok16 (n : Nat) : FnOK Tryz.prog SW 16 [(.agg [.str, (.int .i64), (.sl (.agg [.bool, (.int .u64), (.int .i64)]) .unk), (.int .i64), (.sl (.agg [.str, .str]) .unk), (.int .i64)]), (.agg [.str, (.int .i64), (.sl (.agg [.bool, (.int .u64), (.int .i64)]) .unk), (.int .i64), (.sl (.agg [.str, .str]) .unk), (.int .i64)])] (.one .bool) (fun x => F.ref07_Equal n x.1 x.2.1) := fnOK_of WOf.st (cx16_ok _ n) (d := 8) (fun x => by kernel_rfl)
noncomputable def cx4 (X : Type) (n : Nat) : Cx X := mkCx tab.get [(4, Tryz.f4)] [(10, orcOf [] (.one .bool) (fun x => F.law10_awake n )), (14, orcOf [.str] (.many [(.agg [.str, (.int .i64), (.sl (.agg [.bool, (.int .u64), (.int .i64)]) .unk), (.int .i64), (.sl (.agg [.str, .str]) .unk), (.int .i64)]), (.agg [(.int .i64), (.int .i64)])]) (fun x => F.statsd_Parse n x.1)), (15, orcOf [.str] (.many [(.agg [.str, (.int .i64), (.sl (.agg [.bool, (.int .u64), (.int .i64)]) .unk), (.int .i64), (.sl (.agg [.str, .str]) .unk), (.int .i64)]), (.agg [(.int .i64), (.int .i64)])]) (fun x => F.ref10_Parse n x.1)), (16, orcOf [(.agg [.str, (.int .i64), (.sl (.agg [.bool, (.int .u64), (.int .i64)]) .unk), (.int .i64), (.sl (.agg [.str, .str]) .unk), (.int .i64)]), (.agg [.str, (.int .i64), (.sl (.agg [.bool, (.int .u64), (.int .i64)]) .unk), (.int .i64), (.sl (.agg [.str, .str]) .unk), (.int .i64)])] (.one .bool) (fun x => F.ref07_Equal n x.1 x.2.1))] [] [] [] []
theorem cx4_ok (X : Type) (n : Nat) : CxOK Tryz.prog SW (cx4 X n) := mkCx_ok mixed (tabOK tab_ok) ⟨⟨Tryz.func4, by decide⟩, trivial⟩ ⟨orcOf_ok (ok10 n),
  orcOf_ok (ok14 n),
  orcOf_ok (ok15 n),
  orcOf_ok (ok16 n), trivial⟩ ⟨okC_mk (fun _ => rfl) (by kernel_rfl) (castP (by kernel_rfl) (show True from trivial)) (castP (by kernel_rfl) (show True from trivial)), trivial⟩ trivial
theorem ok4 (n : Nat) : FnOK Tryz.prog SW 4 [.str] (.one .bool) (fun x => F.law10_StatsdParses n x.1) := fnOK_of WOf.st (cx4_ok _ n) (d := 8) (fun x => by kernel_rfl)
def F.law10_many.L3.head : Shape := ⟨[(0, (.int .i64)), (3, .str), (4, (.int .i64))], [], [], [], [], 0, 0, 0⟩
def F.law10_many.L3.e0 : Shape := ⟨[(3, .str)], [], [], [], [], 0, 0, 0⟩
noncomputable def F.law10_many.L3.f {X : Type} (n m : Nat) (ks : Ks X) (s : F.law10_many.L3.head.den) : Option X := F.law10_many.L3 n (fun q3 => ks.ex 0 (F.law10_many.L3.e0.e ((q3, ()), (), (), ())) (F.law10_many.L3.e0.h ((q3, ()), (), (), ()))) m s.1.1 s.1.2.1 s.1.2.2.1
noncomputable def F.law10_many.L3.li (X : Type) (n : Nat) : LoopI X := ⟨8, ⟨0, 0, 0⟩, F.law10_many.L3.head, [(0, F.law10_many.L3.e0)], none, F.law10_many.L3.f n n⟩
noncomputable def cx22 (X : Type) (n : Nat) : Cx X := mkCx tab.get [(22, Tryz.f22)] [] [(22, 3, [F.law10_many.L3.li X n])] [] [] []
theorem F.law10_many.L3.ok (X : Type) (n : Nat) : LoopOK (cx22 X n) 22 Tryz.f22.ntmps (loopNo Tryz.f22 0) (F.law10_many.L3.li X n) :=
  ⟨F.law10_many.L3.f n, n, fun _ _ => rfl, fun _ _ => rfl, fun m ks s => by kernel_rfl⟩
theorem cx22_ok (X : Type) (n : Nat) : CxOK Tryz.prog SW (cx22 X n) := mkCx_ok mixed (tabOK tab_ok) ⟨⟨Tryz.func22, by decide⟩, trivial⟩ trivial ⟨okC_mk (fun _ => rfl) (by kernel_rfl) (castP (by kernel_rfl) (show (LoopOK (cx22 X n) 22 Tryz.f22.ntmps (loopNo Tryz.f22 0) (F.law10_many.L3.li X n) ∧ True) ∧ True from ⟨⟨F.law10_many.L3.ok X n, trivial⟩, trivial⟩)) (castP (by kernel_rfl) (show True from trivial)), trivial⟩ trivial
theorem ok22 (n : Nat) : FnOK Tryz.prog SW 22 [(.int .i64)] (.one .str) (fun x => F.law10_many n x.1) := fnOK_of WOf.st (cx22_ok _ n) (d := 8) (fun x => by kernel_rfl)
def F.slices_Equal_api_Dec_api_Dec.L4.head : Shape := ⟨[(0, (.sl (.agg [.bool, (.int .u64), (.int .i64)]) .unk)), (1, (.sl (.agg [.bool, (.int .u64), (.int .i64)]) .unk)), (12, (.int .i64)), (13, (.int .i64))], [], [], [], [], 0, 0, 0⟩
def F.slices_Equal_api_Dec_api_Dec.L4.e0 : Shape := ⟨[], [], [], [], [], 0, 0, 0⟩
def F.slices_Equal_api_Dec_api_Dec.L4.er : Shape := ⟨[(4, .bool)], [], [], [], [], 0, 0, 0⟩
noncomputable def F.slices_Equal_api_Dec_api_Dec.L4.f {X : Type} (n m : Nat) (ks : Ks X) (s : F.slices_Equal_api_Dec_api_Dec.L4.head.den) : Option X := F.slices_Equal_api_Dec_api_Dec.L4 n (fun (_ : Unit) => ks.ex 0 (F.slices_Equal_api_Dec_api_Dec.L4.e0.e ((), (), (), ())) (F.slices_Equal_api_Dec_api_Dec.L4.e0.h ((), (), (), ()))) (fun q4 => ks.ret (F.slices_Equal_api_Dec_api_Dec.L4.er.e ((q4, ()), (), (), ())) (F.slices_Equal_api_Dec_api_Dec.L4.er.h ((q4, ()), (), (), ()))) m s.1.1 s.1.2.1 s.1.2.2.1 s.1.2.2.2.1
noncomputable def F.slices_Equal_api_Dec_api_Dec.L4.li (X : Type) (n : Nat) : LoopI X := ⟨8, ⟨0, 0, 0⟩, F.slices_Equal_api_Dec_api_Dec.L4.head, [(0, F.slices_Equal_api_Dec_api_Dec.L4.e0)], some F.slices_Equal_api_Dec_api_Dec.L4.er, F.slices_Equal_api_Dec_api_Dec.L4.f n n⟩
noncomputable def cx84 (X : Type) (n : Nat) : Cx X := mkCx tab.get [(84, Tryz.f84)] [] [(84, 4, [F.slices_Equal_api_Dec_api_Dec.L4.li X n])] [] [] []
theorem F.slices_Equal_api_Dec_api_Dec.L4.ok (X : Type) (n : Nat) : LoopOK (cx84 X n) 84 Tryz.f84.ntmps (loopNo Tryz.f84 0) (F.slices_Equal_api_Dec_api_Dec.L4.li X n) :=
  ⟨F.slices_Equal_api_Dec_api_Dec.L4.f n, n, fun _ _ => rfl, fun _ _ => rfl, fun m ks s => by kernel_rfl⟩
theorem cx84_ok (X : Type) (n : Nat) : CxOK Tryz.prog SW (cx84 X n) := mkCx_ok mixed (tabOK tab_ok) ⟨⟨Tryz.func84, by decide⟩, trivial⟩ trivial ⟨okC_mk (fun _ => rfl) (by kernel_rfl) (castP (by kernel_rfl) (show (LoopOK (cx84 X n) 84 Tryz.f84.ntmps (loopNo Tryz.f84 0) (F.slices_Equal_api_Dec_api_Dec.L4.li X n) ∧ True) ∧ True from ⟨⟨F.slices_Equal_api_Dec_api_Dec.L4.ok X n, trivial⟩, trivial⟩)) (castP (by kernel_rfl) (show True from trivial)), trivial⟩ trivial
theorem ok84 (n : Nat) : FnOK Tryz.prog SW 84 [(.sl (.agg [.bool, (.int .u64), (.int .i64)]) .unk), (.sl (.agg [.bool, (.int .u64), (.int .i64)]) .unk)] (.one .bool) (fun x => F.slices_Equal_api_Dec_api_Dec n x.1 x.2.1) := fnOK_of WOf.st (cx84_ok _ n) (d := 8) (fun x => by kernel_rfl)
noncomputable def cx49 (X : Type) (n : Nat) : Cx X := mkCx tab.get [(49, Tryz.f49)] [(84, orcOf [(.sl (.agg [.bool, (.int .u64), (.int .i64)]) .unk), (.sl (.agg [.bool, (.int .u64), (.int .i64)]) .unk)] (.one .bool) (fun x => F.slices_Equal_api_Dec_api_Dec n x.1 x.2.1))] [] [] [] []
theorem cx49_ok (X : Type) (n : Nat) : CxOK Tryz.prog SW (cx49 X n) := mkCx_ok mixed (tabOK tab_ok) ⟨⟨Tryz.func49, by decide⟩, trivial⟩ ⟨orcOf_ok (ok84 n), trivial⟩ ⟨okC_mk (fun _ => rfl) (by kernel_rfl) (castP (by kernel_rfl) (show True from trivial)) (castP (by kernel_rfl) (show True from trivial)), trivial⟩ trivial
theorem ok49 (n : Nat) : FnOK Tryz.prog SW 49 [(.sl (.agg [.bool, (.int .u64), (.int .i64)]) .unk), (.sl (.agg [.bool, (.int .u64), (.int .i64)]) .unk)] (.one .bool) (fun x => F.metric_equal_api_Dec n x.1 x.2.1) := fnOK_of WOf.st (cx49_ok _ n) (d := 8) (fun x => by kernel_rfl)
def F.slices_Equal_api_Tag_api_Tag.L4.head : Shape := ⟨[(0, (.sl (.agg [.str, .str]) .unk)), (1, (.sl (.agg [.str, .str]) .unk)), (12, (.int .i64)), (13, (.int .i64))], [], [], [], [], 0, 0, 0⟩
def F.slices_Equal_api_Tag_api_Tag.L4.e0 : Shape := ⟨[], [], [], [], [], 0, 0, 0⟩
def F.slices_Equal_api_Tag_api_Tag.L4.er : Shape := ⟨[(4, .bool)], [], [], [], [], 0, 0, 0⟩
noncomputable def F.slices_Equal_api_Tag_api_Tag.L4.f {X : Type} (n m : Nat) (ks : Ks X) (s : F.slices_Equal_api_Tag_api_Tag.L4.head.den) : Option X := F.slices_Equal_api_Tag_api_Tag.L4 n (fun (_ : Unit) => ks.ex 0 (F.slices_Equal_api_Tag_api_Tag.L4.e0.e ((), (), (), ())) (F.slices_Equal_api_Tag_api_Tag.L4.e0.h ((), (), (), ()))) (fun q4 => ks.ret (F.slices_Equal_api_Tag_api_Tag.L4.er.e ((q4, ()), (), (), ())) (F.slices_Equal_api_Tag_api_Tag.L4.er.h ((q4, ()), (), (), ()))) m s.1.1 s.1.2.1 s.1.2.2.1 s.1.2.2.2.1
noncomputable def F.slices_Equal_api_Tag_api_Tag.L4.li (X : Type) (n : Nat) : LoopI X := ⟨8, ⟨0, 0, 0⟩, F.slices_Equal_api_Tag_api_Tag.L4.head, [(0, F.slices_Equal_api_Tag_api_Tag.L4.e0)], some F.slices_Equal_api_Tag_api_Tag.L4.er, F.slices_Equal_api_Tag_api_Tag.L4.f n n⟩
noncomputable def cx85 (X : Type) (n : Nat) : Cx X := mkCx tab.get [(85, Tryz.f85)] [] [(85, 4, [F.slices_Equal_api_Tag_api_Tag.L4.li X n])] [] [] []
theorem F.slices_Equal_api_Tag_api_Tag.L4.ok (X : Type) (n : Nat) : LoopOK (cx85 X n) 85 Tryz.f85.ntmps (loopNo Tryz.f85 0) (F.slices_Equal_api_Tag_api_Tag.L4.li X n) :=
  ⟨F.slices_Equal_api_Tag_api_Tag.L4.f n, n, fun _ _ => rfl, fun _ _ => rfl, fun m ks s => by kernel_rfl⟩
theorem cx85_ok (X : Type) (n : Nat) : CxOK Tryz.prog SW (cx85 X n) := mkCx_ok mixed (tabOK tab_ok) ⟨⟨Tryz.func85, by decide⟩, trivial⟩ trivial ⟨okC_mk (fun _ => rfl) (by kernel_rfl) (castP (by kernel_rfl) (show (LoopOK (cx85 X n) 85 Tryz.f85.ntmps (loopNo Tryz.f85 0) (F.slices_Equal_api_Tag_api_Tag.L4.li X n) ∧ True) ∧ True from ⟨⟨F.slices_Equal_api_Tag_api_Tag.L4.ok X n, trivial⟩, trivial⟩)) (castP (by kernel_rfl) (show True from trivial)), trivial⟩ trivial
theorem ok85 (n : Nat) : FnOK Tryz.prog SW 85 [(.sl (.agg [.str, .str]) .unk), (.sl (.agg [.str, .str]) .unk)] (.one .bool) (fun x => F.slices_Equal_api_Tag_api_Tag n x.1 x.2.1) := fnOK_of WOf.st (cx85_ok _ n) (d := 8) (fun x => by kernel_rfl)
noncomputable def cx50 (X : Type) (n : Nat) : Cx X := mkCx tab.get [(50, Tryz.f50)] [(85, orcOf [(.sl (.agg [.str, .str]) .unk), (.sl (.agg [.str, .str]) .unk)] (.one .bool) (fun x => F.slices_Equal_api_Tag_api_Tag n x.1 x.2.1))] [] [] [] []
theorem cx50_ok (X : Type) (n : Nat) : CxOK Tryz.prog SW (cx50 X n) := mkCx_ok mixed (tabOK tab_ok) ⟨⟨Tryz.func50, by decide⟩, trivial⟩ ⟨orcOf_ok (ok85 n), trivial⟩ ⟨okC_mk (fun _ => rfl) (by kernel_rfl) (castP (by kernel_rfl) (show True from trivial)) (castP (by kernel_rfl) (show True from trivial)), trivial⟩ trivial
theorem ok50 (n : Nat) : FnOK Tryz.prog SW 50 [(.sl (.agg [.str, .str]) .unk), (.sl (.agg [.str, .str]) .unk)] (.one .bool) (fun x => F.metric_equal_api_Tag n x.1 x.2.1) := fnOK_of WOf.st (cx50_ok _ n) (d := 8) (fun x => by kernel_rfl)
noncomputable def cx24 (X : Type) (n : Nat) : Cx X := mkCx tab.get [(24, Tryz.f24)] [(49, orcOf [(.sl (.agg [.bool, (.int .u64), (.int .i64)]) .unk), (.sl (.agg [.bool, (.int .u64), (.int .i64)]) .unk)] (.one .bool) (fun x => F.metric_equal_api_Dec n x.1 x.2.1)), (50, orcOf [(.sl (.agg [.str, .str]) .unk), (.sl (.agg [.str, .str]) .unk)] (.one .bool) (fun x => F.metric_equal_api_Tag n x.1 x.2.1))] [] [] [] []
theorem cx24_ok (X : Type) (n : Nat) : CxOK Tryz.prog SW (cx24 X n) := mkCx_ok mixed (tabOK tab_ok) ⟨⟨Tryz.func24, by decide⟩, trivial⟩ ⟨orcOf_ok (ok49 n),
  orcOf_ok (ok50 n), trivial⟩ ⟨okC_mk (fun _ => rfl) (by kernel_rfl) (castP (by kernel_rfl) (show True from trivial)) (castP (by kernel_rfl) (show True from trivial)), trivial⟩ trivial
theorem ok24 (n : Nat) : FnOK Tryz.prog SW 24 [(.agg [.str, (.int .i64), (.sl (.agg [.bool, (.int .u64), (.int .i64)]) .unk), (.int .i64), (.sl (.agg [.str, .str]) .unk), (.int .i64)]), (.agg [.str, (.int .i64), (.sl (.agg [.bool, (.int .u64), (.int .i64)]) .unk), (.int .i64), (.sl (.agg [.str, .str]) .unk), (.int .i64)])] (.one .bool) (fun x => F.metric_Equal n x.1 x.2.1) := fnOK_of WOf.st (cx24_ok _ n) (d := 8) (fun x => by kernel_rfl)
def F.law10_StatsdForms.C27.head : Shape := ⟨[(3, (.const (.ref 0 0))), (14, .str)], [[.str, (.int .i64), (.sl (.agg [.bool, (.int .u64), (.int .i64)]) .unk), (.int .i64), (.sl (.agg [.str, .str]) .unk), (.int .i64)]], [], [], [], 1, 0, 0⟩
def F.law10_StatsdForms.C27.er : Shape := ⟨[(6, .bool)], [], [], [], [], 0, 0, 0⟩
noncomputable def F.law10_StatsdForms.C27.f {X : Type} (n : Nat) (ks : Ks X) (s : F.law10_StatsdForms.C27.head.den) : Option X := F.law10_StatsdForms.C27 n (fun q6 => ks.ret (F.law10_StatsdForms.C27.er.e ((q6, ()), (), (), ())) (F.law10_StatsdForms.C27.er.h ((q6, ()), (), (), ()))) s.1.2.1 s.2.1.1.1 s.2.1.1.2.1 s.2.1.1.2.2.1 s.2.1.1.2.2.2.1 s.2.1.1.2.2.2.2.1 s.2.1.1.2.2.2.2.2.1
noncomputable def F.law10_StatsdForms.C27.ci (X : Type) (n : Nat) : CutI X := ⟨8, ⟨0, 0, 0⟩, F.law10_StatsdForms.C27.head, none, [], some F.law10_StatsdForms.C27.er, F.law10_StatsdForms.C27.f n⟩
def F.law10_StatsdForms.C16.head : Shape := ⟨[(2, .bool), (3, (.const (.ref 0 0))), (4, (.const (.ref 1 0))), (9, .str), (11, .str), (13, .str)], [[.str, (.int .i64), (.sl (.agg [.bool, (.int .u64), (.int .i64)]) .unk), (.int .i64), (.sl (.agg [.str, .str]) .unk), (.int .i64)], [(.int .i64), (.int .i64), (.int .i64)]], [], [], [], 2, 0, 0⟩
def F.law10_StatsdForms.C16.er : Shape := ⟨[(6, .bool)], [], [], [], [], 0, 0, 0⟩
noncomputable def F.law10_StatsdForms.C16.f {X : Type} (n : Nat) (ks : Ks X) (s : F.law10_StatsdForms.C16.head.den) : Option X := F.law10_StatsdForms.C16 n (fun q6 => ks.ret (F.law10_StatsdForms.C16.er.e ((q6, ()), (), (), ())) (F.law10_StatsdForms.C16.er.h ((q6, ()), (), (), ()))) s.1.1 s.1.2.2.2.1 s.1.2.2.2.2.1 s.1.2.2.2.2.2.1 s.2.1.1.1 s.2.1.1.2.1 s.2.1.1.2.2.1 s.2.1.1.2.2.2.1 s.2.1.1.2.2.2.2.1 s.2.1.1.2.2.2.2.2.1 s.2.1.2.1.1 s.2.1.2.1.2.1 s.2.1.2.1.2.2.1
noncomputable def F.law10_StatsdForms.C16.ci (X : Type) (n : Nat) : CutI X := ⟨8, ⟨0, 0, 0⟩, F.law10_StatsdForms.C16.head, none, [], some F.law10_StatsdForms.C16.er, F.law10_StatsdForms.C16.f n⟩
def F.law10_StatsdForms.C14.head : Shape := ⟨[(2, .bool), (3, (.const (.ref 0 0))), (4, (.const (.ref 1 0))), (9, .str), (11, .str), (13, .str)], [[.str, (.int .i64), (.sl (.agg [.bool, (.int .u64), (.int .i64)]) .unk), (.int .i64), (.sl (.agg [.str, .str]) .unk), (.int .i64)], [(.int .i64), (.int .i64), (.int .i64)]], [], [], [], 2, 0, 0⟩
def F.law10_StatsdForms.C14.er : Shape := ⟨[(6, .bool)], [], [], [], [], 0, 0, 0⟩
noncomputable def F.law10_StatsdForms.C14.f {X : Type} (n : Nat) (ks : Ks X) (s : F.law10_StatsdForms.C14.head.den) : Option X := F.law10_StatsdForms.C14 n (fun q6 => ks.ret (F.law10_StatsdForms.C14.er.e ((q6, ()), (), (), ())) (F.law10_StatsdForms.C14.er.h ((q6, ()), (), (), ()))) s.1.1 s.1.2.2.2.1 s.1.2.2.2.2.1 s.1.2.2.2.2.2.1 s.2.1.1.1 s.2.1.1.2.1 s.2.1.1.2.2.1 s.2.1.1.2.2.2.1 s.2.1.1.2.2.2.2.1 s.2.1.1.2.2.2.2.2.1 s.2.1.2.1.1 s.2.1.2.1.2.1 s.2.1.2.1.2.2.1
noncomputable def F.law10_StatsdForms.C14.ci (X : Type) (n : Nat) : CutI X := ⟨8, ⟨0, 0, 0⟩, F.law10_StatsdForms.C14.head, none, [], some F.law10_StatsdForms.C14.er, F.law10_StatsdForms.C14.f n⟩
noncomputable def cx6 (X : Type) (n : Nat) : Cx X := mkCx tab.get [(6, Tryz.f6)] [(9, orcOf [(.agg [.str, (.int .i64), (.sl (.agg [.bool, (.int .u64), (.int .i64)]) .unk), (.int .i64), (.sl (.agg [.str, .str]) .unk), (.int .i64)])] (.one .bool) (fun x => F.law10_Small n x.1)), (10, orcOf [] (.one .bool) (fun x => F.law10_awake n )), (11, orcOf [(.agg [.str, (.int .i64), (.sl (.agg [.bool, (.int .u64), (.int .i64)]) .unk), (.int .i64), (.sl (.agg [.str, .str]) .unk), (.int .i64)])] (.many [.str, (.int .i64)]) (fun x => F.statsd_Line n x.1)), (14, orcOf [.str] (.many [(.agg [.str, (.int .i64), (.sl (.agg [.bool, (.int .u64), (.int .i64)]) .unk), (.int .i64), (.sl (.agg [.str, .str]) .unk), (.int .i64)]), (.agg [(.int .i64), (.int .i64)])]) (fun x => F.statsd_Parse n x.1)), (17, orcOf [(.int .i64)] (.many [.str, (.int .i64)]) (fun x => O.word n x.1)), (21, orcOf [(.agg [.bool, (.int .u64), (.int .i64)])] (.many [.str, (.int .i64)]) (fun x => F.dec_Text n x.1)), (22, orcOf [(.int .i64)] (.one .str) (fun x => F.law10_many n x.1)), (23, orcOf [(.int .i64)] (.many [.str, (.int .i64)]) (fun x => F.num_RateText n x.1)), (24, orcOf [(.agg [.str, (.int .i64), (.sl (.agg [.bool, (.int .u64), (.int .i64)]) .unk), (.int .i64), (.sl (.agg [.str, .str]) .unk), (.int .i64)]), (.agg [.str, (.int .i64), (.sl (.agg [.bool, (.int .u64), (.int .i64)]) .unk), (.int .i64), (.sl (.agg [.str, .str]) .unk), (.int .i64)])] (.one .bool) (fun x => F.metric_Equal n x.1 x.2.1))] [] [] [] [] [(6, 14, [F.law10_StatsdForms.C14.ci X n]), (6, 16, [F.law10_StatsdForms.C16.ci X n]), (6, 27, [F.law10_StatsdForms.C27.ci X n])]
theorem F.law10_StatsdForms.C27.ok (X : Type) (n : Nat) : CutOK (cx6 X n) 6 Tryz.f6.ntmps (cutNo Tryz.f6 24) (F.law10_StatsdForms.C27.ci X n) :=
  fun ks s => by kernel_rfl
theorem F.law10_StatsdForms.C16.ok (X : Type) (n : Nat) : CutOK (cx6 X n) 6 Tryz.f6.ntmps (cutNo Tryz.f6 17) (F.law10_StatsdForms.C16.ci X n) :=
  fun ks s => by kernel_rfl
theorem F.law10_StatsdForms.C14.ok (X : Type) (n : Nat) : CutOK (cx6 X n) 6 Tryz.f6.ntmps (cutNo Tryz.f6 14) (F.law10_StatsdForms.C14.ci X n) :=
  fun ks s => by kernel_rfl
theorem cx6_ok (X : Type) (n : Nat) : CxOK Tryz.prog SW (cx6 X n) := mkCx_ok mixed (tabOK tab_ok) ⟨⟨Tryz.func6, by decide⟩, trivial⟩ ⟨orcOf_ok (ok9 n),
  orcOf_ok (ok10 n),
  orcOf_ok (ok11 n),
  orcOf_ok (ok14 n),
  orcOf_ok (ok17 n),
  orcOf_ok (ok21 n),
  orcOf_ok (ok22 n),
  orcOf_ok (ok23 n),
  orcOf_ok (ok24 n), trivial⟩ ⟨okC_mkc (castP (by kernel_rfl) (show (True) ∧ (True) ∧ (True) ∧ (True) ∧ (True) ∧ (True) ∧ (True) ∧ (True) ∧ (True) ∧ (True) ∧ (True) ∧ (True) ∧ (True) ∧ (True) ∧ (CutOK (cx6 X n) 6 Tryz.f6.ntmps (cutNo Tryz.f6 14) (F.law10_StatsdForms.C14.ci X n) ∧ True) ∧ (True) ∧ (True) ∧ (CutOK (cx6 X n) 6 Tryz.f6.ntmps (cutNo Tryz.f6 17) (F.law10_StatsdForms.C16.ci X n) ∧ True) ∧ (True) ∧ (True) ∧ (True) ∧ (True) ∧ (True) ∧ (True) ∧ (CutOK (cx6 X n) 6 Tryz.f6.ntmps (cutNo Tryz.f6 24) (F.law10_StatsdForms.C27.ci X n) ∧ True) ∧ (True) ∧ (True) ∧ (True) ∧ (True) ∧ (True) ∧ (True) ∧ (True) ∧ True from ⟨trivial, trivial, trivial, trivial, trivial, trivial, trivial, trivial, trivial, trivial, trivial, trivial, trivial, trivial, ⟨F.law10_StatsdForms.C14.ok X n, trivial⟩, trivial, trivial, ⟨F.law10_StatsdForms.C16.ok X n, trivial⟩, trivial, trivial, trivial, trivial, trivial, trivial, ⟨F.law10_StatsdForms.C27.ok X n, trivial⟩, trivial, trivial, trivial, trivial, trivial, trivial, trivial, trivial⟩)) (by kernel_rfl) (castP (by kernel_rfl) (show True from trivial)) (castP (by kernel_rfl) (show True from trivial)), trivial⟩ trivial
theorem ok6 (n : Nat) : FnOK Tryz.prog SW 6 [(.agg [.str, (.int .i64), (.sl (.agg [.bool, (.int .u64), (.int .i64)]) .unk), (.int .i64), (.sl (.agg [.str, .str]) .unk), (.int .i64)]), (.agg [(.int .i64), (.int .i64), (.int .i64)]), .bool] (.one .bool) (fun x => F.law10_StatsdForms n x.1 x.2.1 x.2.2.1) := fnOK_of WOf.st (cx6_ok _ n) (d := 8) (fun x => by kernel_rfl)
def F.law10_StatsdBehind.C13.head : Shape := ⟨[(2, (.int .i64)), (3, (.const (.ref 0 0))), (7, .str)], [[.str, (.int .i64), (.sl (.agg [.bool, (.int .u64), (.int .i64)]) .unk), (.int .i64), (.sl (.agg [.str, .str]) .unk), (.int .i64)]], [], [], [], 1, 0, 0⟩
def F.law10_StatsdBehind.C13.er : Shape := ⟨[(6, .bool)], [], [], [], [], 0, 0, 0⟩
noncomputable def F.law10_StatsdBehind.C13.f {X : Type} (n : Nat) (ks : Ks X) (s : F.law10_StatsdBehind.C13.head.den) : Option X := F.law10_StatsdBehind.C13 n (fun q6 => ks.ret (F.law10_StatsdBehind.C13.er.e ((q6, ()), (), (), ())) (F.law10_StatsdBehind.C13.er.h ((q6, ()), (), (), ()))) s.1.1 s.1.2.2.1 s.2.1.1.1 s.2.1.1.2.1 s.2.1.1.2.2.1 s.2.1.1.2.2.2.1 s.2.1.1.2.2.2.2.1 s.2.1.1.2.2.2.2.2.1
noncomputable def F.law10_StatsdBehind.C13.ci (X : Type) (n : Nat) : CutI X := ⟨8, ⟨0, 0, 0⟩, F.law10_StatsdBehind.C13.head, none, [], some F.law10_StatsdBehind.C13.er, F.law10_StatsdBehind.C13.f n⟩
def F.law10_StatsdBehind.C11.head : Shape := ⟨[(2, (.int .i64)), (3, (.const (.ref 0 0))), (7, .str), (9, (.const (.ref 1 0))), (10, (.const (.ref 2 0))), (63, .bool)], [[.str, (.int .i64), (.sl (.agg [.bool, (.int .u64), (.int .i64)]) .unk), (.int .i64), (.sl (.agg [.str, .str]) .unk), (.int .i64)], [.str, (.int .i64), (.sl (.agg [.bool, (.int .u64), (.int .i64)]) .unk), (.int .i64), (.sl (.agg [.str, .str]) .unk), (.int .i64)], [(.int .i64), (.int .i64)]], [], [], [], 3, 0, 0⟩
def F.law10_StatsdBehind.C11.er : Shape := ⟨[(6, .bool)], [], [], [], [], 0, 0, 0⟩
def F.law10_StatsdBehind.C11.en : Shape := ⟨[(2, (.int .i64)), (3, (.const (.ref 0 0))), (7, .str)], [[.str, (.int .i64), (.sl (.agg [.bool, (.int .u64), (.int .i64)]) .unk), (.int .i64), (.sl (.agg [.str, .str]) .unk), (.int .i64)]], [], [], [], 1, 0, 0⟩
noncomputable def F.law10_StatsdBehind.C11.f {X : Type} (n : Nat) (ks : Ks X) (s : F.law10_StatsdBehind.C11.head.den) : Option X := F.law10_StatsdBehind.C11 n (fun q6 => ks.ret (F.law10_StatsdBehind.C11.er.e ((q6, ()), (), (), ())) (F.law10_StatsdBehind.C11.er.h ((q6, ()), (), (), ()))) (fun q2 q7 qb0_0 qb0_1 qb0_2 qb0_3 qb0_4 qb0_5 => ks.nxt (F.law10_StatsdBehind.C11.en.e ((q2, (), q7, ()), ((qb0_0, qb0_1, qb0_2, qb0_3, qb0_4, qb0_5, ()), ()), (), ())) (F.law10_StatsdBehind.C11.en.h ((q2, (), q7, ()), ((qb0_0, qb0_1, qb0_2, qb0_3, qb0_4, qb0_5, ()), ()), (), ()))) s.1.1 s.1.2.2.1 s.1.2.2.2.2.2.1 s.2.1.1.1 s.2.1.1.2.1 s.2.1.1.2.2.1 s.2.1.1.2.2.2.1 s.2.1.1.2.2.2.2.1 s.2.1.1.2.2.2.2.2.1 s.2.1.2.1.1 s.2.1.2.1.2.1 s.2.1.2.1.2.2.1 s.2.1.2.1.2.2.2.1 s.2.1.2.1.2.2.2.2.1 s.2.1.2.1.2.2.2.2.2.1 s.2.1.2.2.1.1 s.2.1.2.2.1.2.1
noncomputable def F.law10_StatsdBehind.C11.ci (X : Type) (n : Nat) : CutI X := ⟨8, ⟨0, 0, 0⟩, F.law10_StatsdBehind.C11.head, some F.law10_StatsdBehind.C11.en, [], some F.law10_StatsdBehind.C11.er, F.law10_StatsdBehind.C11.f n⟩
noncomputable def cx7 (X : Type) (n : Nat) : Cx X := mkCx tab.get [(7, Tryz.f7)] [(9, orcOf [(.agg [.str, (.int .i64), (.sl (.agg [.bool, (.int .u64), (.int .i64)]) .unk), (.int .i64), (.sl (.agg [.str, .str]) .unk), (.int .i64)])] (.one .bool) (fun x => F.law10_Small n x.1)), (10, orcOf [] (.one .bool) (fun x => F.law10_awake n )), (11, orcOf [(.agg [.str, (.int .i64), (.sl (.agg [.bool, (.int .u64), (.int .i64)]) .unk), (.int .i64), (.sl (.agg [.str, .str]) .unk), (.int .i64)])] (.many [.str, (.int .i64)]) (fun x => F.statsd_Line n x.1)), (14, orcOf [.str] (.many [(.agg [.str, (.int .i64), (.sl (.agg [.bool, (.int .u64), (.int .i64)]) .unk), (.int .i64), (.sl (.agg [.str, .str]) .unk), (.int .i64)]), (.agg [(.int .i64), (.int .i64)])]) (fun x => F.statsd_Parse n x.1)), (24, orcOf [(.agg [.str, (.int .i64), (.sl (.agg [.bool, (.int .u64), (.int .i64)]) .unk), (.int .i64), (.sl (.agg [.str, .str]) .unk), (.int .i64)]), (.agg [.str, (.int .i64), (.sl (.agg [.bool, (.int .u64), (.int .i64)]) .unk), (.int .i64), (.sl (.agg [.str, .str]) .unk), (.int .i64)])] (.one .bool) (fun x => F.metric_Equal n x.1 x.2.1))] [] [] [] [] [(7, 11, [F.law10_StatsdBehind.C11.ci X n]), (7, 13, [F.law10_StatsdBehind.C13.ci X n])]
theorem F.law10_StatsdBehind.C13.ok (X : Type) (n : Nat) : CutOK (cx7 X n) 7 Tryz.f7.ntmps (cutNo Tryz.f7 9) (F.law10_StatsdBehind.C13.ci X n) :=
  fun ks s => by kernel_rfl
theorem F.law10_StatsdBehind.C11.ok (X : Type) (n : Nat) : CutOK (cx7 X n) 7 Tryz.f7.ntmps (cutNo Tryz.f7 13) (F.law10_StatsdBehind.C11.ci X n) :=
  fun ks s => by kernel_rfl
theorem cx7_ok (X : Type) (n : Nat) : CxOK Tryz.prog SW (cx7 X n) := mkCx_ok mixed (tabOK tab_ok) ⟨⟨Tryz.func7, by decide⟩, trivial⟩ ⟨orcOf_ok (ok9 n),
  orcOf_ok (ok10 n),
  orcOf_ok (ok11 n),
  orcOf_ok (ok14 n),
  orcOf_ok (ok24 n), trivial⟩ ⟨okC_mkc (castP (by kernel_rfl) (show (True) ∧ (True) ∧ (True) ∧ (True) ∧ (True) ∧ (True) ∧ (True) ∧ (True) ∧ (True) ∧ (CutOK (cx7 X n) 7 Tryz.f7.ntmps (cutNo Tryz.f7 9) (F.law10_StatsdBehind.C13.ci X n) ∧ True) ∧ (True) ∧ (True) ∧ (True) ∧ (CutOK (cx7 X n) 7 Tryz.f7.ntmps (cutNo Tryz.f7 13) (F.law10_StatsdBehind.C11.ci X n) ∧ True) ∧ (True) ∧ (True) ∧ (True) ∧ (True) ∧ (True) ∧ (True) ∧ (True) ∧ True from ⟨trivial, trivial, trivial, trivial, trivial, trivial, trivial, trivial, trivial, ⟨F.law10_StatsdBehind.C13.ok X n, trivial⟩, trivial, trivial, trivial, ⟨F.law10_StatsdBehind.C11.ok X n, trivial⟩, trivial, trivial, trivial, trivial, trivial, trivial, trivial, trivial⟩)) (by kernel_rfl) (castP (by kernel_rfl) (show True from trivial)) (castP (by kernel_rfl) (show True from trivial)), trivial⟩ trivial
theorem ok7 (n : Nat) : FnOK Tryz.prog SW 7 [(.agg [.str, (.int .i64), (.sl (.agg [.bool, (.int .u64), (.int .i64)]) .unk), (.int .i64), (.sl (.agg [.str, .str]) .unk), (.int .i64)]), .str, (.int .i64)] (.one .bool) (fun x => F.law10_StatsdBehind n x.1 x.2.1 x.2.2.1) := fnOK_of WOf.st (cx7_ok _ n) (d := 8) (fun x => by kernel_rfl)
noncomputable def cx95 (X : Type) (n : Nat) : Cx X := mkCx tab.get [(95, Tryz.f95)] [] [] [] [] []
theorem cx95_ok (X : Type) (n : Nat) : CxOK Tryz.prog SW (cx95 X n) := mkCx_ok mixed (tabOK tab_ok) ⟨⟨Tryz.func95, by decide⟩, trivial⟩ trivial ⟨okC_mk (fun _ => rfl) (by kernel_rfl) (castP (by kernel_rfl) (show True from trivial)) (castP (by kernel_rfl) (show True from trivial)), trivial⟩ trivial
theorem ok95 (n : Nat) : FnOK Tryz.prog SW 95 [(.agg [.str, .str]), (.agg [.str, .str])] (.one .bool) (fun x => F.tag_Less n x.1 x.2.1) := fnOK_of WOf.st (cx95_ok _ n) (d := 8) (fun x => by kernel_rfl)
def F.tag_Is.L2.head : Shape := ⟨[(0, (.sl (.agg [.str, .str]) .unk)), (3, (.int .i64))], [], [], [], [], 0, 0, 0⟩
def F.tag_Is.L2.e0 : Shape := ⟨[], [], [], [], [], 0, 0, 0⟩
def F.tag_Is.L2.er : Shape := ⟨[(2, .bool)], [], [], [], [], 0, 0, 0⟩
noncomputable def F.tag_Is.L2.f {X : Type} (n m : Nat) (ks : Ks X) (s : F.tag_Is.L2.head.den) : Option X := F.tag_Is.L2 n (fun (_ : Unit) => ks.ex 0 (F.tag_Is.L2.e0.e ((), (), (), ())) (F.tag_Is.L2.e0.h ((), (), (), ()))) (fun q2 => ks.ret (F.tag_Is.L2.er.e ((q2, ()), (), (), ())) (F.tag_Is.L2.er.h ((q2, ()), (), (), ()))) m s.1.1 s.1.2.1
noncomputable def F.tag_Is.L2.li (X : Type) (n : Nat) : LoopI X := ⟨8, ⟨0, 0, 0⟩, F.tag_Is.L2.head, [(0, F.tag_Is.L2.e0)], some F.tag_Is.L2.er, F.tag_Is.L2.f n n⟩
noncomputable def cx53 (X : Type) (n : Nat) : Cx X := mkCx tab.get [(53, Tryz.f53)] [(95, orcOf [(.agg [.str, .str]), (.agg [.str, .str])] (.one .bool) (fun x => F.tag_Less n x.1 x.2.1))] [(53, 2, [F.tag_Is.L2.li X n])] [] [] []
theorem F.tag_Is.L2.ok (X : Type) (n : Nat) : LoopOK (cx53 X n) 53 Tryz.f53.ntmps (loopNo Tryz.f53 0) (F.tag_Is.L2.li X n) :=
  ⟨F.tag_Is.L2.f n, n, fun _ _ => rfl, fun _ _ => rfl, fun m ks s => by kernel_rfl⟩
theorem cx53_ok (X : Type) (n : Nat) : CxOK Tryz.prog SW (cx53 X n) := mkCx_ok mixed (tabOK tab_ok) ⟨⟨Tryz.func53, by decide⟩, trivial⟩ ⟨orcOf_ok (ok95 n), trivial⟩ ⟨okC_mk (fun _ => rfl) (by kernel_rfl) (castP (by kernel_rfl) (show (LoopOK (cx53 X n) 53 Tryz.f53.ntmps (loopNo Tryz.f53 0) (F.tag_Is.L2.li X n) ∧ True) ∧ True from ⟨⟨F.tag_Is.L2.ok X n, trivial⟩, trivial⟩)) (castP (by kernel_rfl) (show True from trivial)), trivial⟩ trivial
theorem ok53 (n : Nat) : FnOK Tryz.prog SW 53 [(.sl (.agg [.str, .str]) .unk)] (.one .bool) (fun x => F.tag_Is n x.1) := fnOK_of WOf.st (cx53_ok _ n) (d := 8) (fun x => by kernel_rfl)
noncomputable def cx26 (X : Type) (n : Nat) : Cx X := mkCx tab.get [(26, Tryz.f26)] [(52, orcOf [(.agg [.str, (.int .i64), (.sl (.agg [.bool, (.int .u64), (.int .i64)]) .unk), (.int .i64), (.sl (.agg [.str, .str]) .unk), (.int .i64)])] (.one (.int .i64)) (fun x => F.metric_Check n x.1)), (53, orcOf [(.sl (.agg [.str, .str]) .unk)] (.one .bool) (fun x => F.tag_Is n x.1))] [] [] [] []
theorem cx26_ok (X : Type) (n : Nat) : CxOK Tryz.prog SW (cx26 X n) := mkCx_ok mixed (tabOK tab_ok) ⟨⟨Tryz.func26, by decide⟩, trivial⟩ ⟨orcOf_ok (ok52 n),
  orcOf_ok (ok53 n), trivial⟩ ⟨okC_mk (fun _ => rfl) (by kernel_rfl) (castP (by kernel_rfl) (show True from trivial)) (castP (by kernel_rfl) (show True from trivial)), trivial⟩ trivial
theorem ok26 (n : Nat) : FnOK Tryz.prog SW 26 [(.agg [.str, (.int .i64), (.sl (.agg [.bool, (.int .u64), (.int .i64)]) .unk), (.int .i64), (.sl (.agg [.str, .str]) .unk), (.int .i64)])] (.one .bool) (fun x => F.metric_Is n x.1) := fnOK_of WOf.st (cx26_ok _ n) (d := 8) (fun x => by kernel_rfl)
def F.law10_StatsdBack.C10.head : Shape := ⟨[(1, .str)], [], [], [], [], 0, 0, 0⟩
def F.law10_StatsdBack.C10.er : Shape := ⟨[(4, .bool)], [], [], [], [], 0, 0, 0⟩
noncomputable def F.law10_StatsdBack.C10.f {X : Type} (n : Nat) (ks : Ks X) (s : F.law10_StatsdBack.C10.head.den) : Option X := F.law10_StatsdBack.C10 n (fun q4 => ks.ret (F.law10_StatsdBack.C10.er.e ((q4, ()), (), (), ())) (F.law10_StatsdBack.C10.er.h ((q4, ()), (), (), ()))) s.1.1
noncomputable def F.law10_StatsdBack.C10.ci (X : Type) (n : Nat) : CutI X := ⟨8, ⟨0, 0, 0⟩, F.law10_StatsdBack.C10.head, none, [], some F.law10_StatsdBack.C10.er, F.law10_StatsdBack.C10.f n⟩
noncomputable def cx8 (X : Type) (n : Nat) : Cx X := mkCx tab.get [(8, Tryz.f8)] [(9, orcOf [(.agg [.str, (.int .i64), (.sl (.agg [.bool, (.int .u64), (.int .i64)]) .unk), (.int .i64), (.sl (.agg [.str, .str]) .unk), (.int .i64)])] (.one .bool) (fun x => F.law10_Small n x.1)), (10, orcOf [] (.one .bool) (fun x => F.law10_awake n )), (11, orcOf [(.agg [.str, (.int .i64), (.sl (.agg [.bool, (.int .u64), (.int .i64)]) .unk), (.int .i64), (.sl (.agg [.str, .str]) .unk), (.int .i64)])] (.many [.str, (.int .i64)]) (fun x => F.statsd_Line n x.1)), (14, orcOf [.str] (.many [(.agg [.str, (.int .i64), (.sl (.agg [.bool, (.int .u64), (.int .i64)]) .unk), (.int .i64), (.sl (.agg [.str, .str]) .unk), (.int .i64)]), (.agg [(.int .i64), (.int .i64)])]) (fun x => F.statsd_Parse n x.1)), (24, orcOf [(.agg [.str, (.int .i64), (.sl (.agg [.bool, (.int .u64), (.int .i64)]) .unk), (.int .i64), (.sl (.agg [.str, .str]) .unk), (.int .i64)]), (.agg [.str, (.int .i64), (.sl (.agg [.bool, (.int .u64), (.int .i64)]) .unk), (.int .i64), (.sl (.agg [.str, .str]) .unk), (.int .i64)])] (.one .bool) (fun x => F.metric_Equal n x.1 x.2.1)), (25, orcOf [(.agg [.str, (.int .i64), (.sl (.agg [.bool, (.int .u64), (.int .i64)]) .unk), (.int .i64), (.sl (.agg [.str, .str]) .unk), (.int .i64)]), (.int .i64)] (.one (.int .i64)) (fun x => F.expr_Metric n x.1 x.2.1)), (26, orcOf [(.agg [.str, (.int .i64), (.sl (.agg [.bool, (.int .u64), (.int .i64)]) .unk), (.int .i64), (.sl (.agg [.str, .str]) .unk), (.int .i64)])] (.one .bool) (fun x => F.metric_Is n x.1))] [] [] [] [] [(8, 10, [F.law10_StatsdBack.C10.ci X n])]
theorem F.law10_StatsdBack.C10.ok (X : Type) (n : Nat) : CutOK (cx8 X n) 8 Tryz.f8.ntmps (cutNo Tryz.f8 5) (F.law10_StatsdBack.C10.ci X n) :=
  fun ks s => by kernel_rfl
theorem cx8_ok (X : Type) (n : Nat) : CxOK Tryz.prog SW (cx8 X n) := mkCx_ok mixed (tabOK tab_ok) ⟨⟨Tryz.func8, by decide⟩, trivial⟩ ⟨orcOf_ok (ok9 n),
  orcOf_ok (ok10 n),
  orcOf_ok (ok11 n),
  orcOf_ok (ok14 n),
  orcOf_ok (ok24 n),
  orcOf_ok (ok25 n),
  orcOf_ok (ok26 n), trivial⟩ ⟨okC_mkc (castP (by kernel_rfl) (show (True) ∧ (True) ∧ (True) ∧ (True) ∧ (True) ∧ (CutOK (cx8 X n) 8 Tryz.f8.ntmps (cutNo Tryz.f8 5) (F.law10_StatsdBack.C10.ci X n) ∧ True) ∧ (True) ∧ (True) ∧ (True) ∧ (True) ∧ (True) ∧ (True) ∧ (True) ∧ (True) ∧ (True) ∧ (True) ∧ (True) ∧ (True) ∧ (True) ∧ True from ⟨trivial, trivial, trivial, trivial, trivial, ⟨F.law10_StatsdBack.C10.ok X n, trivial⟩, trivial, trivial, trivial, trivial, trivial, trivial, trivial, trivial, trivial, trivial, trivial, trivial, trivial, trivial⟩)) (by kernel_rfl) (castP (by kernel_rfl) (show True from trivial)) (castP (by kernel_rfl) (show True from trivial)), trivial⟩ trivial
theorem ok8 (n : Nat) : FnOK Tryz.prog SW 8 [(.agg [.str, (.int .i64), (.sl (.agg [.bool, (.int .u64), (.int .i64)]) .unk), (.int .i64), (.sl (.agg [.str, .str]) .unk), (.int .i64)]), .str] (.one .bool) (fun x => F.law10_StatsdBack n x.1 x.2.1) := fnOK_of WOf.st (cx8_ok _ n) (d := 8) (fun x => by kernel_rfl)
end Go.AM
set_option linter.unusedVariables false
set_option linter.unusedSimpArgs false
namespace Go.AM
def isDig (b : UInt8) : Bool := decide (48 ≤ b.toNat) && decide (b.toNat ≤ 57)
def dv (b : UInt8) : Nat := b.toNat - 48
def valF (a : Nat) (l : List UInt8) : Nat := l.foldl (fun a b => a * 10 + dv b) a
theorem valF_nil (a : Nat) : valF a [] = a := rfl
theorem valF_cons (a : Nat) (b : UInt8) (l : List UInt8) : valF a (b :: l) = valF (a * 10 + dv b) l := by unfold valF; rw [List.foldl_cons]
def val (l : List UInt8) : Nat := valF 0 l
def Digs (l : List UInt8) : Prop := l.all isDig = true
theorem isDig_iff {b : UInt8} : isDig b = true ↔ 48 ≤ b.toNat ∧ b.toNat ≤ 57 := by simp [isDig]
theorem digs_cons {b : UInt8} {l : List UInt8} : Digs (b :: l) ↔ isDig b = true ∧ Digs l := by simp [Digs]
theorem digs_nil : Digs [] := rfl
theorem digs_append {l m : List UInt8} : Digs (l ++ m) ↔ Digs l ∧ Digs m := by simp [Digs]
theorem digs_rep (k : Nat) : Digs (List.replicate k 48) := by
  unfold Digs
  rw [List.all_eq_true]
  intro x hx
  rw [List.eq_of_mem_replicate hx]
  rfl
theorem digs_drop {l : List UInt8} (k : Nat) (h : Digs l) : Digs (l.drop k) := by
  unfold Digs at h ⊢
  rw [List.all_eq_true] at h ⊢
  exact fun x hx => h x (List.mem_of_mem_drop hx)
theorem digs_take {l : List UInt8} (k : Nat) (h : Digs l) : Digs (l.take k) := by
  unfold Digs at h ⊢
  rw [List.all_eq_true] at h ⊢
  exact fun x hx => h x (List.mem_of_mem_take hx)
theorem dv_lt {b : UInt8} (h : isDig b = true) : dv b < 10 := by
  have := isDig_iff.1 h
  unfold dv
  omega
theorem u8_ext {a b : UInt8} (h : a.toNat = b.toNat) : a = b := UInt8.toNat_inj.1 h
theorem dv_inj {a b : UInt8} (ha : isDig a = true) (hb : isDig b = true) (h : dv a = dv b) : a = b := by
  have h1 := isDig_iff.1 ha
  have h2 := isDig_iff.1 hb
  unfold dv at h
  exact u8_ext (by omega)
theorem valF_eq (a : Nat) (l : List UInt8) : valF a l = a * 10 ^ l.length + val l := by
  unfold val
  induction l generalizing a with
  | nil => rw [valF_nil, valF_nil]; simp
  | cons b l ih =>
    simp only [valF_cons, List.length_cons]
    rw [ih (a * 10 + dv b), ih (0 * 10 + dv b), Nat.pow_succ, Nat.add_mul, Nat.zero_mul, Nat.zero_add, Nat.mul_assoc, Nat.mul_comm 10, Nat.add_assoc]
theorem val_nil : val [] = 0 := rfl
theorem val_cons (b : UInt8) (l : List UInt8) : val (b :: l) = dv b * 10 ^ l.length + val l := by
  show valF (0 * 10 + dv b) l = _
  rw [valF_eq, Nat.zero_mul, Nat.zero_add]
theorem val_append (l m : List UInt8) : val (l ++ m) = val l * 10 ^ m.length + val m := by
  induction l with
  | nil => simp [val_nil]
  | cons b l ih => rw [List.cons_append, val_cons, val_cons, ih, List.length_append, Nat.pow_add, Nat.add_mul, Nat.mul_assoc, Nat.add_assoc]
theorem val_snoc (l : List UInt8) (b : UInt8) : val (l ++ [b]) = val l * 10 + dv b := by rw [val_append, val_cons]; simp [val_nil]
theorem val_lt {l : List UInt8} (h : Digs l) : val l < 10 ^ l.length := by
  induction l with
  | nil => simp [val_nil]
  | cons b l ih =>
    obtain ⟨h1, h2⟩ := digs_cons.1 h
    have := ih h2
    have hd := dv_lt h1
    rw [val_cons, List.length_cons, Nat.pow_succ, Nat.mul_comm (10 ^ l.length)]
    have h3 : dv b * 10 ^ l.length ≤ 9 * 10 ^ l.length := Nat.mul_le_mul_right _ (by omega)
    omega
theorem dv_48 : dv 48 = 0 := rfl
theorem val_rep (k : Nat) : val (List.replicate k 48) = 0 := by
  induction k with
  | zero => rfl
  | succ k ih => rw [List.replicate_succ, val_cons, ih, dv_48]; simp
theorem val_zeros_left (k : Nat) (l : List UInt8) : val (List.replicate k 48 ++ l) = val l := by rw [val_append, val_rep]; simp
theorem val_zeros_right (k : Nat) (l : List UInt8) : val (l ++ List.replicate k 48) = val l * 10 ^ k := by rw [val_append, val_rep]; simp
theorem val_eq_zero {l : List UInt8} (hd : Digs l) (h : val l = 0) : l = List.replicate l.length 48 := by
  induction l with
  | nil => rfl
  | cons b l ih =>
    obtain ⟨h1, h2⟩ := digs_cons.1 hd
    rw [val_cons] at h
    have hp : 0 < 10 ^ l.length := Nat.pow_pos (by omega)
    have h3 : dv b = 0 := by
      cases hb : dv b with
      | zero => rfl
      | succ k => rw [hb, Nat.succ_mul] at h; omega
    rw [List.length_cons, List.replicate_succ, ← ih h2 (by omega)]
    rw [dv_inj (a := b) (b := 48) h1 rfl h3]
theorem val_inj {l m : List UInt8} (hl : Digs l) (hm : Digs m) (hlen : l.length = m.length) (h : val l = val m) : l = m := by
  induction l generalizing m with
  | nil => cases m with
    | nil => rfl
    | cons => simp at hlen
  | cons b l ih => cases m with
    | nil => simp at hlen
    | cons c m =>
      obtain ⟨h1, h2⟩ := digs_cons.1 hl
      obtain ⟨h3, h4⟩ := digs_cons.1 hm
      have hlen : l.length = m.length := by simpa using hlen
      rw [val_cons, val_cons, hlen] at h
      have b1 := val_lt h2
      have b2 := val_lt h4
      rw [hlen] at b1
      have hp : 0 < 10 ^ m.length := Nat.pow_pos (by omega)
      have e : dv b = dv c := by
        have q1 := congrArg (· / 10 ^ m.length) h
        simp only [Nat.mul_comm (dv b), Nat.mul_comm (dv c), Nat.mul_add_div hp, Nat.div_eq_of_lt b1, Nat.div_eq_of_lt b2] at q1
        omega
      rw [e] at h
      rw [dv_inj h1 h3 e, ih h2 h4 hlen (by omega)]
theorem dig_of (k : Nat) (h : k < 10) : (UInt8.ofNat (48 + k)).toNat = 48 + k := by simp [UInt8.toNat_ofNat']; omega
theorem isDig_of (k : Nat) (h : k < 10) : isDig (UInt8.ofNat (48 + k)) = true := by rw [isDig_iff, dig_of k h]; omega
theorem dv_of (k : Nat) (h : k < 10) : dv (UInt8.ofNat (48 + k)) = k := by unfold dv; rw [dig_of k h]; omega
theorem dd_small {u : Nat} (h : u < 10) : Lib.decDigits u = [UInt8.ofNat (48 + u)] := Lib.decDigits_one h
theorem dd_big {u : Nat} (h : ¬ u < 10) : Lib.decDigits u = Lib.decDigits (u / 10) ++ [UInt8.ofNat (48 + u % 10)] := by rw [Lib.decDigits, dif_neg h]
theorem dd_digs (u : Nat) : Digs (Lib.decDigits u) := by
  induction u using Nat.strongRecOn with
  | _ u ih =>
    by_cases h : u < 10
    · rw [dd_small h, digs_cons]; exact ⟨isDig_of u h, rfl⟩
    · rw [dd_big h, digs_append, digs_cons]
      exact ⟨ih _ (by omega), isDig_of _ (by omega), rfl⟩
theorem dd_val (u : Nat) : val (Lib.decDigits u) = u := by
  induction u using Nat.strongRecOn with
  | _ u ih =>
    by_cases h : u < 10
    · rw [dd_small h, val_cons, dv_of u h]; simp [val_nil]
    · rw [dd_big h, val_snoc, ih _ (by omega), dv_of _ (by omega)]; omega
theorem dd_ne (u : Nat) : Lib.decDigits u ≠ [] := by
  by_cases h : u < 10
  · rw [dd_small h]; simp
  · rw [dd_big h]; simp
theorem dd_length (u : Nat) : (Lib.decDigits u).length = Lib.nDigits u := Lib.decDigits_length u
theorem dd_length_le {u k : Nat} (hk : 0 < k) (h : u < 10 ^ k) : (Lib.decDigits u).length ≤ k := by
  rw [dd_length]
  induction k generalizing u with
  | zero => omega
  | succ k ih =>
    by_cases h1 : u < 10
    · rw [Lib.nDigits_small h1]; omega
    · rw [Lib.nDigits_big h1]
      cases k with
      | zero => simp at h; omega
      | succ k =>
        have := ih (u := u / 10) (by omega) (by rw [Nat.pow_succ] at h; omega)
        omega
theorem dd_length_ge {u k : Nat} (h : 10 ^ k ≤ u) : k < (Lib.decDigits u).length := by
  rw [dd_length]
  have := Lib.lt_pow_nDigits u
  exact (Nat.pow_lt_pow_iff_right (by omega)).1 (Nat.lt_of_le_of_lt h this)
def Norm (l : List UInt8) : Prop := l ≠ [] ∧ (l.head? = some 48 → l.length = 1)
theorem dd_head (u : Nat) : Norm (Lib.decDigits u) := by
  refine ⟨dd_ne u, ?_⟩
  induction u using Nat.strongRecOn with
  | _ u ih =>
    by_cases h : u < 10
    · rw [dd_small h]; simp
    · rw [dd_big h]
      intro hh
      have hn := dd_ne (u / 10)
      rw [List.head?_append, Option.or_of_isSome (by cases e : Lib.decDigits (u / 10) with | nil => exact absurd e hn | cons => rfl)] at hh
      have h1 := ih (u / 10) (by omega) hh
      have hv := dd_val (u / 10)
      cases e : Lib.decDigits (u / 10) with
      | nil => exact absurd e hn
      | cons b r =>
        rw [e] at h1 hh hv
        have hr : r = [] := by simpa using h1
        subst hr
        have hb : b = 48 := by simpa using hh
        subst hb
        rw [val_cons, dv_48] at hv
        simp [val_nil] at hv
        omega
theorem dd_inv {l : List UInt8} (hd : Digs l) (hn : Norm l) : Lib.decDigits (val l) = l := by
  have hv := dd_val (val l)
  have h1 := dd_digs (val l)
  have h2 := dd_head (val l)
  have hlen : (Lib.decDigits (val l)).length = l.length := by
    cases l with
    | nil => exact absurd rfl hn.1
    | cons b r =>
      have hle : (Lib.decDigits (val (b :: r))).length ≤ (b :: r).length := dd_length_le (by simp) (val_lt hd)
      by_cases hb : b = 48
      · have : r = [] := by simpa using hn.2 (by simp [hb])
        subst this
        have := List.length_pos_iff.2 (dd_ne (val [b]))
        simp at hle ⊢
        omega
      · have h3 : 10 ^ r.length ≤ val (b :: r) := by
          rw [val_cons]
          have : 1 ≤ dv b := by
            cases e : dv b with
            | zero => exact absurd (dv_inj (digs_cons.1 hd).1 (b := 48) rfl e) hb
            | succ k => omega
          have := Nat.mul_le_mul_right (10 ^ r.length) this
          omega
        have := dd_length_ge h3
        simp at hle ⊢
        omega
  exact val_inj h1 hd hlen hv
theorem dd_inj {u v : Nat} (h : Lib.decDigits u = Lib.decDigits v) : u = v := by rw [← dd_val u, h, dd_val]
theorem pu10 (acc : Nat) (l : List UInt8) (hd : Digs l) (ha : acc < 18446744073709551616) : Lib.parseUint10 acc l = if valF acc l < 18446744073709551616 then .ok (valF acc l) else .range := by
  induction l generalizing acc with
  | nil => rw [valF_nil, if_pos ha]; rfl
  | cons b l ih =>
    obtain ⟨h1, h2⟩ := digs_cons.1 hd
    have hb := isDig_iff.1 h1
    have hmono : ∀ x, x ≤ valF x l := fun x => by
      rw [valF_eq]
      have : 0 < 10 ^ l.length := Nat.pow_pos (by omega)
      have := Nat.le_mul_of_pos_right x this
      omega
    have hm := hmono (acc * 10 + dv b)
    simp only [Lib.parseUint10, hb, and_self, if_true]
    rw [valF_cons]
    generalize hV : valF (acc * 10 + dv b) l = V at hm ⊢
    unfold dv at hm
    by_cases h3 : 1844674407370955162 ≤ acc
    · rw [if_pos h3, if_neg (by omega)]
    · rw [if_neg h3]
      by_cases h4 : 18446744073709551616 ≤ acc * 10 + (b.toNat - 48)
      · rw [if_pos h4, if_neg (by omega)]
      · rw [if_neg h4, ih _ h2 (by omega)]
        have : valF (acc * 10 + (b.toNat - 48)) l = V := hV
        rw [this]
theorem atoi_digs {l : List UInt8} (hd : Digs l) (hn : l ≠ []) : Lib.atoiAll l = if val l < 9223372036854775808 then .ok (val l : Int) else .range := by
  cases l with
  | nil => exact absurd rfl hn
  | cons b r =>
    have hb := isDig_iff.1 (digs_cons.1 hd).1
    simp only [Lib.atoiAll]
    rw [if_neg (by omega)]
    unfold Lib.parseMag
    rw [if_neg (by simp), pu10 0 _ hd (by omega)]
    have e : valF 0 (b :: r) = val (b :: r) := rfl
    rw [e]
    by_cases h1 : val (b :: r) < 18446744073709551616
    · rw [if_pos h1]
      simp only []
      by_cases h2 : val (b :: r) < 9223372036854775808
      · rw [if_pos h2, if_neg (by omega), if_neg (by omega), if_neg (by omega)]
      · rw [if_neg h2, if_pos (by omega)]
    · rw [if_neg h1, if_neg (by omega)]
def trz : List UInt8 → List UInt8
  | [] => []
  | b :: l => if trz l = [] then (if b = 48 then [] else [b]) else b :: trz l
theorem trimR_rep (l : List UInt8) (c : UInt8) : ∃ k, l = Lib.trimRightB l c ++ List.replicate k c ∧ (∀ x, (Lib.trimRightB l c).getLast? = some x → x ≠ c) := by
  have h := List.takeWhile_append_dropWhile (p := fun b : UInt8 => b == c) (l := l.reverse)
  refine ⟨(l.reverse.takeWhile (· == c)).length, ?_, ?_⟩
  · unfold Lib.trimRightB
    have h2 := congrArg List.reverse h
    rw [List.reverse_append, List.reverse_reverse] at h2
    have h3 : (l.reverse.takeWhile (· == c)).reverse = List.replicate (l.reverse.takeWhile (· == c)).length c := by
      rw [List.eq_replicate_iff]
      refine ⟨by simp, fun b hb => ?_⟩
      have := List.all_eq_true.1 (List.all_takeWhile (p := fun b : UInt8 => b == c) (l := l.reverse)) b (List.mem_reverse.1 hb)
      simpa using this
    rw [h3] at h2
    exact h2.symm
  · intro x hx
    unfold Lib.trimRightB at hx
    rw [List.getLast?_reverse] at hx
    have := List.head?_dropWhile_not (p := fun b : UInt8 => b == c) (l := l.reverse)
    rw [hx] at this
    simpa using this
theorem trz_rep (l : List UInt8) : ∃ k, l = trz l ++ List.replicate k 48 ∧ (∀ x, (trz l).getLast? = some x → x ≠ 48) := by
  induction l with
  | nil => exact ⟨0, rfl, by simp [trz]⟩
  | cons b l ih =>
    obtain ⟨k, h1, h2⟩ := ih
    unfold trz
    by_cases h : trz l = []
    · rw [if_pos h]
      rw [h, List.nil_append] at h1
      by_cases hb : b = 48
      · rw [if_pos hb]
        exact ⟨k + 1, by rw [List.replicate_succ, ← h1, hb]; rfl, by simp⟩
      · rw [if_neg hb]
        exact ⟨k, by rw [← h1]; rfl, by simp [hb]⟩
    · rw [if_neg h]
      refine ⟨k, by rw [List.cons_append, ← h1], ?_⟩
      intro x hx
      rw [List.getLast?_cons] at hx
      cases e : (trz l).getLast? with
      | none => simp at e; exact absurd e h
      | some y =>
        rw [e] at hx
        have hy := h2 y e
        simp at hx
        rw [← hx]; exact hy
theorem rep_uniq {a b : List UInt8} {c : UInt8} {i j : Nat} (h : a ++ List.replicate i c = b ++ List.replicate j c) (ha : ∀ x, a.getLast? = some x → x ≠ c) (hb : ∀ x, b.getLast? = some x → x ≠ c) : a = b := by
  induction i generalizing j with
  | zero =>
    cases j with
    | zero => simpa using h
    | succ j =>
      rw [List.replicate_succ', ← List.append_assoc] at h
      simp only [List.replicate_zero, List.append_nil] at h
      exact absurd rfl (ha c (by rw [h]; simp))
  | succ i ih =>
    cases j with
    | zero =>
      rw [List.replicate_succ', ← List.append_assoc] at h
      simp only [List.replicate_zero, List.append_nil] at h
      exact absurd rfl (hb c (by rw [← h]; simp))
    | succ j =>
      rw [List.replicate_succ', List.replicate_succ', ← List.append_assoc, ← List.append_assoc] at h
      exact ih (List.append_inj_left' h rfl)
theorem trimR_trz (l : List UInt8) : Lib.trimRightB l 48 = trz l := by
  obtain ⟨i, h1, h2⟩ := trimR_rep l 48
  obtain ⟨j, h3, h4⟩ := trz_rep l
  exact rep_uniq (h1.symm.trans h3) h2 h4
theorem trz_zeros (l : List UInt8) (k : Nat) : trz (l ++ List.replicate k 48) = trz l := by
  obtain ⟨i, h1, h2⟩ := trz_rep (l ++ List.replicate k 48)
  obtain ⟨j, h3, h4⟩ := trz_rep l
  refine rep_uniq (i := i) (j := j + k) (c := 48) ?_ h2 h4
  rw [← h1]
  conv => lhs; rw [h3]
  rw [List.append_assoc, List.replicate_append_replicate]
theorem trz_self {l : List UInt8} (h : ∀ x, l.getLast? = some x → x ≠ 48) : trz l = l := by
  obtain ⟨j, h3, h4⟩ := trz_rep l
  exact (rep_uniq (i := 0) (j := j) (c := 48) (by rw [← h3]; simp) h h4).symm
theorem trz_le (l : List UInt8) : (trz l).length ≤ l.length := by
  obtain ⟨k, h1, _⟩ := trz_rep l
  have := congrArg List.length h1
  simp at this
  omega
theorem trz_digs {l : List UInt8} (h : Digs l) : Digs (trz l) := by
  obtain ⟨k, h1, _⟩ := trz_rep l
  rw [h1, digs_append] at h
  exact h.1
theorem trz_pad (l : List UInt8) : l = trz l ++ List.replicate (l.length - (trz l).length) 48 := by
  obtain ⟨k, h1, _⟩ := trz_rep l
  have := congrArg List.length h1
  simp at this
  rw [show l.length - (trz l).length = k from by omega]
  exact h1
theorem trz_last {l : List UInt8} {x : UInt8} (h : (trz l).getLast? = some x) : x ≠ 48 := by
  obtain ⟨k, _, h2⟩ := trz_rep l
  exact h2 x h
theorem trz_nil {l : List UInt8} (hd : Digs l) : trz l = [] ↔ val l = 0 := by
  constructor
  · intro h
    have := trz_pad l
    rw [h, List.nil_append] at this
    rw [this, val_rep]
  · intro h
    have := val_eq_zero hd h
    obtain ⟨k, h1, h2⟩ := trz_rep l
    rw [this] at h1 ⊢
    have := trz_zeros [] l.length
    simpa [trz] using this
theorem bl_cons (b c : UInt8) (l m : List UInt8) : Op.bytesLess (b :: l) (c :: m) = (decide (b.toNat < c.toNat) || (decide (b.toNat = c.toNat) && Op.bytesLess l m)) := by
  show (decide (b < c) || ((b == c) && Op.bytesLess l m)) = _
  congr 1
  congr 1
  by_cases h : b = c
  · simp [h]
  · have : ¬ b.toNat = c.toNat := fun hh => h (u8_ext hh)
    simp [h, this]
theorem bl_nil (l : List UInt8) : Op.bytesLess l [] = false := by cases l <;> rfl
theorem bl_nil' (l : List UInt8) : Op.bytesLess [] l = decide (l ≠ []) := by cases l <;> simp [Op.bytesLess]
theorem less_val {l m : List UInt8} (hl : Digs l) (hm : Digs m) (hlen : l.length = m.length) : Op.bytesLess l m = decide (val l < val m) := by
  induction l generalizing m with
  | nil => cases m with
    | nil => rfl
    | cons => simp at hlen
  | cons b l ih => cases m with
    | nil => simp at hlen
    | cons c m =>
      obtain ⟨h1, h2⟩ := digs_cons.1 hl
      obtain ⟨h3, h4⟩ := digs_cons.1 hm
      have hlen : l.length = m.length := by simpa using hlen
      have b1 := val_lt h2
      have b2 := val_lt h4
      rw [hlen] at b1
      have d1 := isDig_iff.1 h1
      have d2 := isDig_iff.1 h3
      rw [bl_cons, val_cons, val_cons, hlen]
      by_cases hn : b.toNat < c.toNat
      · have : (dv b + 1) * 10 ^ m.length ≤ dv c * 10 ^ m.length := Nat.mul_le_mul_right _ (by unfold dv; omega)
        rw [Nat.add_mul] at this
        have h5 : dv b * 10 ^ m.length + val l < dv c * 10 ^ m.length + val m := by omega
        simp [hn, h5]
      · by_cases hn' : c.toNat < b.toNat
        · have : (dv c + 1) * 10 ^ m.length ≤ dv b * 10 ^ m.length := Nat.mul_le_mul_right _ (by unfold dv; omega)
          rw [Nat.add_mul] at this
          have h5 : ¬ dv b * 10 ^ m.length + val l < dv c * 10 ^ m.length + val m := by omega
          have h6 : ¬ b.toNat = c.toNat := by omega
          simp [hn, h5, h6]
        · rw [ih h2 h4 hlen]
          have : b = c := u8_ext (by omega)
          subst this
          simp
theorem less_trz {l m : List UInt8} (hl : Digs l) (hm : Digs m) (hlen : l.length = m.length) : Op.bytesLess (trz l) (trz m) = Op.bytesLess l m := by
  induction l generalizing m with
  | nil => cases m with
    | nil => rfl
    | cons => simp at hlen
  | cons b l ih => cases m with
    | nil => simp at hlen
    | cons c m =>
      obtain ⟨h1, h2⟩ := digs_cons.1 hl
      obtain ⟨h3, h4⟩ := digs_cons.1 hm
      have hlen : l.length = m.length := by simpa using hlen
      have d1 := isDig_iff.1 h1
      have d2 := isDig_iff.1 h3
      have hi := ih h2 h4 hlen
      have e0 : ∀ x : UInt8, x = 48 ↔ x.toNat = 48 := fun x => ⟨fun h => by rw [h]; rfl, fun h => u8_ext h⟩
      rw [bl_cons, ← hi]
      simp only [trz]
      by_cases t1 : trz l = [] <;> by_cases t2 : trz m = [] <;> by_cases c1 : b.toNat = 48 <;> by_cases c2 : c.toNat = 48 <;>
        simp only [t1, t2, e0, c1, c2, if_true, if_false, bl_cons, bl_nil, bl_nil', Bool.and_false, Bool.or_false] <;> simp [t2] <;> omega
end Go.AM
set_option linter.unusedVariables false
set_option linter.unusedSimpArgs false
namespace Go.AM
theorem bif_some {α : Type} (b : Bool) (u v : α) : (bif b then some u else some v) = some (bif b then u else v) := by cases b <;> rfl
def btw (x lo hi : Int) : Bool := decide (lo ≤ x) && decide (x ≤ hi)
def wordI (x : Int) : Bool := btw x 65 90 || (btw x 97 122 || (x == 95 || (x == 46 || (x == 45 || btw x 48 57))))
def cls (c : Int) (b : UInt8) : Bool :=
  bif c == 3 then btw b.toNat 33 126 && (!((b.toNat : Int) == 44) && !((b.toNat : Int) == 124))
  else bif c == 2 then ((b.toNat : Int) == 47) || wordI b.toNat
  else bif c == 1 then wordI b.toNat
  else (c == 4) && btw b.toNat 48 57
def may (c : Int) : Bool := decide (1 ≤ c) && decide (c ≤ 4)
theorem cls4 (b : UInt8) : cls 4 b = isDig b := by
  unfold cls isDig btw
  simp
  congr 1 <;> simp only [decide_eq_decide] <;> omega
theorem may_cls (n : Nat) (c : Int) : F.class_may n c = some (may c) := by
  unfold F.class_may may
  by_cases h : 1 ≤ c
  · rw [bif_pos (by omega)]; simp [h]
  · rw [bif_neg (by omega)]; simp [h]
theorem between_eq (n : Nat) (x lo hi : Int) : F.class_between n x lo hi = some (btw x lo hi) := by
  unfold F.class_between btw
  by_cases h : lo ≤ x
  · rw [bif_pos (by omega)]; simp [h]
  · rw [bif_neg (by omega)]; simp [h]
theorem is_eq (n : Nat) (c : Int) (b : UInt8) : F.class_Is n c (b.toNat) = some (cls c b) := by
  unfold F.class_Is cls wordI
  simp only [between_eq, some_bind', bif_some]
  congr 1
  cases c == 3 <;> cases c == 2 <;> cases c == 1 <;> cases c == 4 <;> generalize hx : (b.toNat : Int) = x <;> clear hx <;>
    (cases btw x 33 126 <;> cases x == 44 <;> cases btw x 65 90 <;> cases btw x 97 122 <;> cases x == 95 <;> cases x == 46 <;> cases x == 45 <;> cases x == 47 <;> rfl)
def badK (p : UInt8 → Bool) : Nat → List UInt8 → Int
  | _, [] => -1
  | k, b :: l => if p b then badK p (k + 1) l else (k : Int)
theorem badK_ge (p : UInt8 → Bool) (k : Nat) (l : List UInt8) : 0 ≤ badK p k l ↔ ¬ l.all p = true := by
  induction l generalizing k with
  | nil => simp [badK]
  | cons b l ih =>
    unfold badK
    by_cases h : p b = true
    · rw [if_pos h, ih]; simp [h]
    · rw [if_neg h]; simp [h]
theorem badK_neg (p : UInt8 → Bool) (k : Nat) (l : List UInt8) (h : l.all p = true) : badK p k l = -1 := by
  induction l generalizing k with
  | nil => rfl
  | cons b l ih =>
    simp only [List.all_cons, Bool.and_eq_true] at h
    unfold badK
    rw [if_pos h.1, ih _ h.2]
theorem badK_lo (p : UInt8 → Bool) (k : Nat) (l : List UInt8) (h : 0 ≤ badK p k l) : (k : Int) ≤ badK p k l := by
  induction l generalizing k with
  | nil => simp [badK] at h
  | cons b l ih =>
    unfold badK at h ⊢
    by_cases hb : p b = true
    · rw [if_pos hb] at h ⊢; have := ih (k + 1) h; omega
    · rw [if_neg hb]; omega
theorem badK_hi (p : UInt8 → Bool) (k : Nat) (l : List UInt8) : badK p k l < k + l.length ∨ badK p k l = -1 := by
  induction l generalizing k with
  | nil => exact Or.inr rfl
  | cons b l ih =>
    unfold badK
    by_cases hb : p b = true
    · rw [if_pos hb]; have := ih (k + 1); simp; omega
    · rw [if_neg hb]; simp; omega
theorem badK_shift (p : UInt8 → Bool) (k : Nat) (l : List UInt8) : badK p k l = if 0 ≤ badK p 0 l then (k : Int) + badK p 0 l else -1 := by
  induction l generalizing k with
  | nil => simp [badK]
  | cons b l ih =>
    unfold badK
    by_cases hb : p b = true
    · rw [if_pos hb, if_pos hb, ih (k + 1), ih (0 + 1)]
      by_cases h : 0 ≤ badK p 0 l
      · rw [if_pos h, if_pos h, if_pos (by omega)]; omega
      · rw [if_neg h, if_neg h, if_neg (by omega)]
    · rw [if_neg hb, if_neg hb]; simp
theorem bad_cls_loop (n : Nat) (X : Type) (k0 : Unit → Option X) (kr : Int → Int → Option X) (c : Int) (s : List UInt8) (hs : s.length < 4611686018427387904) : ∀ (r : List UInt8) (k m : Nat), s.drop k = r → r.length < m →
    F.class_Bad.L4 n k0 kr m c s (s.length : Int) (k : Int) = if 0 ≤ badK (cls c) k r then kr (badK (cls c) k r) 0 else k0 () := by
  intro r
  induction r with
  | nil =>
    intro k m hk hm
    have := drop_nil' hk
    cases m with
    | zero => simp at hm
    | succ m =>
      show F.class_Bad.L4.step n _ k0 kr c s _ k = _
      unfold F.class_Bad.L4.step
      rw [bif_neg (by omega)]
      rfl
  | cons x r ih =>
    intro k m hk hm
    obtain ⟨h1, h2, h3⟩ := drop_cons hk
    cases m with
    | zero => simp at hm
    | succ m =>
      show F.class_Bad.L4.step n (F.class_Bad.L4 n k0 kr m) k0 kr c s _ k = _
      unfold F.class_Bad.L4.step
      rw [bif_pos (by omega), idx_nat, h2, some_bind', is_eq, some_bind']
      unfold badK
      by_cases hx : cls c x = true
      · rw [hx, if_pos rfl, wrap_succ (by omega), ih (k + 1) m h3 (by simp at hm; omega)]
        rfl
      · have hx : cls c x = false := by simpa using hx
        rw [hx]
        have : ¬ (false = true) := by simp
        rw [if_neg this, if_pos (by omega)]
        rfl
theorem bad_cls (n : Nat) (c : Int) (s : List UInt8) (hs : s.length < 4611686018427387904) (hn : s.length < n) : F.class_Bad n c s = some (bif may c then (badK (cls c) 0 s, 0, ()) else (0, 1, ())) := by
  unfold F.class_Bad
  rw [may_cls, some_bind']
  cases hm : may c
  · rfl
  · simp only [Bool.not_true, cond_false]
    refine (bad_cls_loop n _ _ _ c s hs s 0 n rfl hn).trans ?_
    by_cases h : 0 ≤ badK (cls c) 0 s
    · rw [if_pos h]; rfl
    · rw [if_neg h]
      have : s.all (cls c) = true := Classical.byContradiction fun hh => h ((badK_ge _ _ _).2 hh)
      rw [badK_neg _ _ _ this]; rfl
def textF (c : Int) (s : List UInt8) (lo hi : Int) : Int × Int × Unit :=
  if may c = false ∨ lo < 0 ∨ hi < lo then (1, 0, ()) else if (s.length : Int) < lo then (13, (s.length : Int), ()) else if (s.length : Int) > hi then (12, hi, ())
  else if 0 ≤ badK (cls c) 0 s then (14, badK (cls c) 0 s, ()) else (0, 0, ())
theorem text_cls (n : Nat) (c : Int) (s : List UInt8) (lo hi : Int) (hs : s.length < 4611686018427387904) (hn : s.length < n) : F.class_Text n c s lo hi = some (textF c s lo hi) := by
  unfold F.class_Text textF
  rw [bad_cls n c s hs hn, some_bind']
  cases hm : may c
  · rw [if_pos (Or.inl rfl)]; rfl
  · simp only [cond_true]
    have e : (!((0 : Int) == 0)) = false := rfl
    rw [e, cond_false]
    by_cases h1 : lo < 0
    · rw [bif_pos h1, if_pos (Or.inr (Or.inl h1))]
    · rw [bif_neg h1]
      by_cases h2 : hi < lo
      · rw [bif_pos h2, if_pos (Or.inr (Or.inr h2))]
      · rw [bif_neg h2, if_neg (by simp [h1, h2])]
        by_cases h3 : (s.length : Int) < lo
        · rw [bif_pos h3, if_pos h3]
        · rw [bif_neg h3, if_neg h3]
          by_cases h4 : (s.length : Int) > hi
          · rw [bif_pos h4, if_pos h4]
          · rw [bif_neg h4, if_neg h4]
            by_cases h5 : 0 ≤ badK (cls c) 0 s
            · rw [bif_pos (by omega), if_pos h5]
            · rw [bif_neg (by omega), if_neg h5]
def bytesOf (c : Int) : List UInt8 :=
  bif c == 1 then [65, 66, 67, 68, 69, 70, 71, 72, 73, 74, 75, 76, 77, 78, 79, 80, 81, 82, 83, 84, 85, 86, 87, 88, 89, 90, 97, 98, 99, 100, 101, 102, 103, 104, 105, 106, 107, 108, 109, 110, 111, 112, 113, 114, 115, 116, 117, 118, 119, 120, 121, 122, 48, 49, 50, 51, 52, 53, 54, 55, 56, 57, 95, 46, 45]
  else bif c == 2 then [65, 66, 67, 68, 69, 70, 71, 72, 73, 74, 75, 76, 77, 78, 79, 80, 81, 82, 83, 84, 85, 86, 87, 88, 89, 90, 97, 98, 99, 100, 101, 102, 103, 104, 105, 106, 107, 108, 109, 110, 111, 112, 113, 114, 115, 116, 117, 118, 119, 120, 121, 122, 48, 49, 50, 51, 52, 53, 54, 55, 56, 57, 95, 46, 45, 47]
  else bif c == 3 then [65, 66, 67, 68, 69, 70, 71, 72, 73, 74, 75, 76, 77, 78, 79, 80, 81, 82, 83, 84, 85, 86, 87, 88, 89, 90, 97, 98, 99, 100, 101, 102, 103, 104, 105, 106, 107, 108, 109, 110, 111, 112, 113, 114, 115, 116, 117, 118, 119, 120, 121, 122, 48, 49, 50, 51, 52, 53, 54, 55, 56, 57, 95, 46, 45, 47, 33, 34, 35, 36, 37, 38, 39, 40, 41, 42, 43, 58, 59, 60, 61, 62, 63, 64, 91, 92, 93, 94, 96, 123, 125, 126]
  else bif c == 4 then [48, 49, 50, 51, 52, 53, 54, 55, 56, 57] else []
theorem bytes_ref (n : Nat) (c : Int) : F.ref04_Bytes n c = some (bytesOf c) := by
  unfold F.ref04_Bytes bytesOf
  rw [bif_pos (by decide), bif_pos (by decide), bif_pos (by decide), bif_pos (by decide)]
  cases c == 1 <;> cases c == 2 <;> cases c == 3 <;> cases c == 4 <;> rfl
theorem is_ref_loop (n : Nat) (X : Type) (k0 : Unit → Option X) (kr : Bool → Option X) (x : UInt8) (s : List UInt8) (hs : s.length < 4611686018427387904) : ∀ (r : List UInt8) (k m : Nat), s.drop k = r → r.length < m →
    F.ref04_Is.L3 n k0 kr m (x.toNat : Int) s (k : Int) = if x ∈ r then kr true else k0 () := by
  intro r
  induction r with
  | nil =>
    intro k m hk hm
    have := drop_nil' hk
    cases m with
    | zero => simp at hm
    | succ m =>
      show F.ref04_Is.L3.step n _ k0 kr _ s k = _
      unfold F.ref04_Is.L3.step
      rw [bif_neg (by omega)]
      simp
  | cons y r ih =>
    intro k m hk hm
    obtain ⟨h1, h2, h3⟩ := drop_cons hk
    cases m with
    | zero => simp at hm
    | succ m =>
      show F.ref04_Is.L3.step n (F.ref04_Is.L3 n k0 kr m) k0 kr _ s k = _
      unfold F.ref04_Is.L3.step
      rw [bif_pos (by omega), idx_nat, h2, some_bind']
      by_cases hx : x = y
      · subst hx; simp
      · have : ¬ (y.toNat : Int) = (x.toNat : Int) := fun h => hx (u8_ext (by omega)).symm
        have e : ((y.toNat : Int) == (x.toNat : Int)) = false := by simpa using this
        rw [e, cond_false, wrap_succ (by omega), ih (k + 1) m h3 (by simp at hm; omega)]
        simp [hx]
theorem cls_mem_all : ∀ i : Fin 256, (UInt8.ofNat i.val ∈ bytesOf 1 ↔ cls 1 (UInt8.ofNat i.val) = true) ∧ (UInt8.ofNat i.val ∈ bytesOf 2 ↔ cls 2 (UInt8.ofNat i.val) = true) ∧ (UInt8.ofNat i.val ∈ bytesOf 3 ↔ cls 3 (UInt8.ofNat i.val) = true) ∧ (UInt8.ofNat i.val ∈ bytesOf 4 ↔ cls 4 (UInt8.ofNat i.val) = true) := by decide +kernel
theorem cls_mem (c : Int) (b : UInt8) : b ∈ bytesOf c ↔ cls c b = true := by
  have h := cls_mem_all ⟨b.toNat, b.toNat_lt⟩
  have e : UInt8.ofNat b.toNat = b := by simp
  simp only [e] at h
  by_cases h1 : c = 1
  · subst h1; exact h.1
  by_cases h2 : c = 2
  · subst h2; exact h.2.1
  by_cases h3 : c = 3
  · subst h3; exact h.2.2.1
  by_cases h4 : c = 4
  · subst h4; exact h.2.2.2
  have b1 : (c == 1) = false := by simp [h1]
  have b2 : (c == 2) = false := by simp [h2]
  have b3 : (c == 3) = false := by simp [h3]
  have b4 : (c == 4) = false := by simp [h4]
  unfold bytesOf cls
  rw [b1, b2, b3, b4]
  simp
theorem is_ref (n : Nat) (hn : 100 ≤ n) (c : Int) (x : UInt8) : F.ref04_Is n c (x.toNat : Int) = some (cls c x) := by
  unfold F.ref04_Is
  rw [bytes_ref, some_bind']
  have hl : (bytesOf c).length < 100 := by
    unfold bytesOf
    cases c == 1 <;> cases c == 2 <;> cases c == 3 <;> cases c == 4 <;> decide
  refine (is_ref_loop n _ _ _ x (bytesOf c) (by omega) (bytesOf c) 0 n rfl (by omega)).trans ?_
  by_cases h : x ∈ bytesOf c
  · rw [if_pos h, (cls_mem c x).1 h]
  · rw [if_neg h]
    cases e : cls c x
    · rfl
    · exact absurd ((cls_mem c x).2 e) h
theorem bad_ref_loop (n : Nat) (hn : 100 ≤ n) (X : Type) (k0 : Unit → Option X) (kr : Int → Option X) (c : Int) (s : List UInt8) (hs : s.length < 4611686018427387904) : ∀ (r : List UInt8) (k m : Nat), s.drop k = r → r.length < m →
    F.ref04_Bad.L2 n k0 kr m c s (k : Int) = if 0 ≤ badK (cls c) k r then kr (badK (cls c) k r) else k0 () := by
  intro r
  induction r with
  | nil =>
    intro k m hk hm
    have := drop_nil' hk
    cases m with
    | zero => simp at hm
    | succ m =>
      show F.ref04_Bad.L2.step n _ k0 kr c s k = _
      unfold F.ref04_Bad.L2.step
      rw [bif_neg (by omega)]
      rfl
  | cons x r ih =>
    intro k m hk hm
    obtain ⟨h1, h2, h3⟩ := drop_cons hk
    cases m with
    | zero => simp at hm
    | succ m =>
      show F.ref04_Bad.L2.step n (F.ref04_Bad.L2 n k0 kr m) k0 kr c s k = _
      unfold F.ref04_Bad.L2.step
      rw [bif_pos (by omega), idx_nat, h2, some_bind', is_ref n hn, some_bind']
      unfold badK
      by_cases hx : cls c x = true
      · rw [hx, if_pos rfl, wrap_succ (by omega), ih (k + 1) m h3 (by simp at hm; omega)]
        rfl
      · have hx : cls c x = false := by simpa using hx
        rw [hx]
        have : ¬ (false = true) := by simp
        rw [if_neg this, if_pos (by omega)]
        rfl
theorem bad_ref (n : Nat) (h100 : 100 ≤ n) (c : Int) (s : List UInt8) (hs : s.length < 4611686018427387904) (hn : s.length < n) : F.ref04_Bad n c s = some (badK (cls c) 0 s) := by
  unfold F.ref04_Bad
  refine (bad_ref_loop n h100 _ _ _ c s hs s 0 n rfl hn).trans ?_
  by_cases h : 0 ≤ badK (cls c) 0 s
  · rw [if_pos h]
  · rw [if_neg h]
    have : s.all (cls c) = true := Classical.byContradiction fun hh => h ((badK_ge _ _ _).2 hh)
    rw [badK_neg _ _ _ this]
end Go.AM
set_option linter.unusedVariables false
set_option linter.unusedSimpArgs false
namespace Go.AM
abbrev NumR := Int × (Int × Int × Unit) × Unit
def numR (v c at' : Int) : NumR := (v, (c, at', ()), ())
theorem cls4_fun : cls 4 = isDig := funext cls4
theorem fault_eq (n : Nat) (c a : Int) : F.num_fault n c a = some (0, (c, a, ()), ()) := rfl
theorem digs_of_bad {s : List UInt8} {k : Nat} (h : ¬ 0 ≤ badK isDig k s) : Digs s := Classical.byContradiction fun hh => h ((badK_ge _ _ _).2 hh)
theorem bad_of_digs {s : List UInt8} {k : Nat} (h : Digs s) : badK isDig k s = -1 := badK_neg _ _ _ h
theorem textF4 (s : List UInt8) (hs : s.length < 4611686018427387904) : textF 4 s 1 (IntKind.wrap .i64 ((s.length : Int) + 1)) = if s = [] then (13, 0, ()) else if 0 ≤ badK isDig 0 s then (14, badK isDig 0 s, ()) else (0, 0, ()) := by
  unfold textF
  rw [wrap_succ hs, cls4_fun]
  have hm : may 4 = true := rfl
  rw [if_neg (by simp [hm]; omega)]
  cases s with
  | nil => rfl
  | cons b s =>
    rw [if_neg (show ¬ (((b :: s).length : Nat) : Int) < 1 from by simp; omega), if_neg (show ¬ (((b :: s).length : Nat) : Int) > (((b :: s).length + 1 : Nat) : Int) from by omega), if_neg (show ¬ (b :: s = []) from by simp)]
theorem value_loop (n : Nat) (X : Type) (k0 : Int → Option X) (kr : Int → Bool → Option X) (s : List UInt8) (hs : s.length < 4611686018427387904) : ∀ (r : List UInt8) (k m : Nat), s.drop k = r → r.length < m → Digs r → val (s.take k) < 9223372036854775808 →
    F.ref05_Value.L3 n k0 kr m s (val (s.take k) : Int) (k : Int) = if val s < 9223372036854775808 then k0 (val s) else kr 0 false := by
  intro r
  induction r with
  | nil =>
    intro k m hk hm hd hv
    have hk := drop_nil' hk
    cases m with
    | zero => simp at hm
    | succ m =>
      show F.ref05_Value.L3.step n _ k0 kr s _ k = _
      unfold F.ref05_Value.L3.step
      rw [bif_neg (by omega)]
      rw [List.take_of_length_le hk] at hv ⊢
      rw [if_pos hv]
  | cons x r ih =>
    intro k m hk hm hd hv
    obtain ⟨h1, h2, h3⟩ := drop_cons hk
    obtain ⟨d1, d2⟩ := digs_cons.1 hd
    have hx := isDig_iff.1 d1
    cases m with
    | zero => simp at hm
    | succ m =>
      show F.ref05_Value.L3.step n (F.ref05_Value.L3 n k0 kr m) k0 kr s _ k = _
      unfold F.ref05_Value.L3.step
      have htk : s.take (k + 1) = s.take k ++ [x] := by rw [List.take_add_one, h2]; rfl
      have hvk : val (s.take (k + 1)) = val (s.take k) * 10 + dv x := by rw [htk, val_snoc]
      have hsv : val (s.take (k + 1)) ≤ val s := by
        have e : s = s.take (k + 1) ++ s.drop (k + 1) := (List.take_append_drop _ _).symm
        have h5 : val s = val (s.take (k + 1)) * 10 ^ (s.drop (k + 1)).length + val (s.drop (k + 1)) := by
          conv => lhs; rw [e]
          rw [val_append]
        have := Nat.le_mul_of_pos_right (val (s.take (k + 1))) (Nat.pow_pos (n := (s.drop (k + 1)).length) (show 0 < 10 by omega))
        omega
      have hdx : IntKind.wrap .i64 (IntKind.wrap .u8 ((x.toNat : Int) - 48)) = (dv x : Int) := by
        have h8 : IntKind.wrap .u8 ((x.toNat : Int) - 48) = (x.toNat : Int) - 48 := IntWalk.u8_in _ (by omega)
        rw [h8, wrap_in (by omega)]; unfold dv; omega
      have hdl := dv_lt d1
      rw [bif_pos (by omega), idx_nat, h2, some_bind', hdx, wrap_in (x := 9223372036854775807 - (dv x : Int)) (by omega)]
      have hdiv : ((9223372036854775807 : Int) - (dv x : Int)).tdiv 10 = (((9223372036854775807 - dv x) / 10 : Nat) : Int) := by
        rw [show ((9223372036854775807 : Int) - (dv x : Int)) = ((9223372036854775807 - dv x : Nat) : Int) from by omega]; rfl
      rw [hdiv, wrap_in (x := (((9223372036854775807 - dv x) / 10 : Nat) : Int)) (by omega)]
      by_cases hb : val (s.take (k + 1)) < 9223372036854775808
      · rw [bif_neg (by omega), wrap_in (x := 10 * (val (s.take k) : Int)) (by omega), wrap_in (by omega), wrap_succ (by omega), show (10 * (val (s.take k) : Int) + (dv x : Int)) = (val (s.take (k + 1)) : Int) from by omega]
        exact ih (k + 1) m h3 (by simp at hm; omega) d2 hb
      · rw [bif_pos (by omega), if_neg (by omega)]
theorem value_ref (n : Nat) (s : List UInt8) (hs : s.length < 4611686018427387904) (hn : s.length < n) (hd : Digs s) : F.ref05_Value n s = some (if val s < 9223372036854775808 then ((val s : Int), true, ()) else (0, false, ())) := by
  unfold F.ref05_Value
  refine (value_loop n _ _ _ s hs s 0 n rfl hn hd (by rw [List.take_zero, val_nil]; omega)).trans ?_
  by_cases h : val s < 9223372036854775808
  · rw [if_pos h, if_pos h]
  · rw [if_neg h, if_neg h]
theorem digits_ref_go (n : Nat) : ∀ (m u : Nat), u < 18446744073709551616 → Lib.nDigits u ≤ m → F.ref05_Digits.go n m (u : Int) = some (Lib.decDigits u) := by
  intro m
  induction m with
  | zero =>
    intro u _ h
    have := Lib.nDigits_pos u
    omega
  | succ m ih =>
    intro u hu h
    have one : ∀ d : Nat, d < 10 → sub ([48, 49, 50, 51, 52, 53, 54, 55, 56, 57] : List UInt8) (d : Int) ((d + 1 : Nat) : Int) = some [UInt8.ofNat (48 + d)] := by
      intro d hd
      rw [sub_nat _ _ _ (by omega) (by simp; omega)]
      have := (by decide : ∀ d : Fin 10, (([48, 49, 50, 51, 52, 53, 54, 55, 56, 57] : List UInt8).take (d.val + 1)).drop d.val = [UInt8.ofNat (48 + d.val)]) ⟨d, hd⟩
      rw [this]
    show (bif decide ((u : Int) < 10) then _ else _) = _
    by_cases h1 : u < 10
    · rw [bif_pos (by omega), show IntKind.wrap .u64 ((u : Int) + 1) = ((u + 1 : Nat) : Int) from by rw [IntWalk.u64_in _ (by omega)]; omega, one u h1, some_bind', dd_small h1]
    · rw [bif_neg (by omega)]
      have e1 : (u : Int).tdiv 10 = ((u / 10 : Nat) : Int) := rfl
      have e2 : (u : Int).tmod 10 = ((u % 10 : Nat) : Int) := rfl
      have hN := Lib.nDigits_big h1
      rw [e1, e2, IntWalk.u64_in _ (by omega), ih (u / 10) (by omega) (by omega), some_bind', show IntKind.wrap .u64 (((u % 10 : Nat) : Int) + 1) = ((u % 10 + 1 : Nat) : Int) from by rw [IntWalk.u64_in _ (by omega)]; omega, one (u % 10) (by omega), some_bind', dd_big h1, bif_pos]
      have := Lib.nDigits_le20 (u / 10) (by omega)
      rw [dd_length, strMax_eq]
      simp; omega
theorem digits_ref (n : Nat) (hn : 20 ≤ n) (u : Nat) (hu : u < 18446744073709551616) : F.ref05_Digits n (u : Int) = some (Lib.decDigits u) := by
  unfold F.ref05_Digits
  exact digits_ref_go n n u hu (Nat.le_trans (Lib.nDigits_le20 u hu) hn)
def pad6 (k : Nat) : List UInt8 := (Lib.decDigits (1000000 + k)).drop 1
theorem pad6_all {k : Nat} (h : k < 1000000) : Lib.decDigits (1000000 + k) = 49 :: pad6 k ∧ (pad6 k).length = 6 ∧ Digs (pad6 k) ∧ val (pad6 k) = k := by
  have hN : (Lib.decDigits (1000000 + k)).length = 7 := by rw [dd_length]; exact Lib.nDigits_unique 6 _ (by omega) (by omega)
  have hd := dd_digs (1000000 + k)
  have hv := dd_val (1000000 + k)
  unfold pad6
  cases e : Lib.decDigits (1000000 + k) with
  | nil => rw [e] at hN; simp at hN
  | cons b r =>
    rw [e] at hN hd hv
    have hr : r.length = 6 := by simpa using hN
    obtain ⟨d1, d2⟩ := digs_cons.1 hd
    have := val_lt d2
    rw [hr] at this
    rw [val_cons, hr] at hv
    have hb : dv b = 1 := by omega
    have : b = 49 := dv_inj d1 rfl hb
    subst this
    refine ⟨rfl, hr, d2, ?_⟩
    show val r = k
    omega
def rateText (k : Int) : List UInt8 × Int × Unit :=
  if k < 1 ∨ k > 1000000 then ([], 10, ()) else if k = 1000000 then ([49], 0, ()) else ([48, 46] ++ trz (pad6 k.toNat), 0, ())
theorem rateText_num (n : Nat) (k : Int) : F.num_RateText n k = some (rateText k) := by
  unfold F.num_RateText rateText
  by_cases h1 : k < 1
  · rw [bif_pos h1, if_pos (Or.inl h1)]
  rw [bif_neg h1]
  by_cases h2 : k > 1000000
  · rw [bif_pos h2, if_pos (Or.inr h2)]
  rw [bif_neg h2, if_neg (by omega)]
  by_cases h3 : k = 1000000
  · subst h3; rfl
  have e3 : (k == 1000000) = false := by simpa using h3
  rw [e3, cond_false, if_neg h3, wrap_in (by omega)]
  obtain ⟨p1, p2, p3, p4⟩ := pad6_all (k := k.toNat) (by omega)
  have hi : O.itoa n (1000000 + k) = some (49 :: pad6 k.toNat) := by
    unfold O.itoa
    have : (decide (-9223372036854775808 ≤ 1000000 + k) && decide (1000000 + k ≤ 9223372036854775807)) = true := by simp; omega
    rw [this, cond_true]
    unfold Lib.itoa
    rw [if_neg (by omega), show (1000000 + k).toNat = 1000000 + k.toNat from by omega, p1]
  rw [hi, some_bind']
  have hsub : sub (49 :: pad6 k.toNat) 1 (((49 :: pad6 k.toNat).length : Nat) : Int) = some (pad6 k.toNat) := by
    have := sub_nat (49 :: pad6 k.toNat) 1 (49 :: pad6 k.toNat).length (by simp) (by simp)
    rw [List.take_length] at this
    exact this
  rw [hsub, some_bind']
  unfold O.trimR
  have hb : (Nat.blt (48 : UInt8).toNat 128 && Nat.ble (pad6 k.toNat).length big47) = true := by rw [p2]; rfl
  simp only [hb, cond_true, some_bind', trimR_trz]
  rw [bif_pos]
  have := trz_le (pad6 k.toNat)
  rw [strMax_eq]
  omega
theorem padl_loop (n : Nat) (X : Type) (k0 : List UInt8 → Option X) : ∀ (j m : Nat) (v : List UInt8), v.length + j = 6 → j < m → F.ref05_RateText.L4 n k0 m v = k0 (List.replicate j 48 ++ v) := by
  intro j
  induction j with
  | zero =>
    intro m v h hm
    cases m with
    | zero => omega
    | succ m =>
      show F.ref05_RateText.L4.step n _ k0 v = _
      unfold F.ref05_RateText.L4.step
      rw [bif_neg (by omega)]; rfl
  | succ j ih =>
    intro m v h hm
    cases m with
    | zero => omega
    | succ m =>
      show F.ref05_RateText.L4.step n (F.ref05_RateText.L4 n k0 m) k0 v = _
      unfold F.ref05_RateText.L4.step
      rw [bif_pos (by omega), bif_pos (by rw [strMax_eq]; omega), ih m _ (by simp; omega) (by omega), List.replicate_succ', List.append_assoc]
theorem strip_loop (n : Nat) (X : Type) (k2 : List UInt8 → Option X) (a : List UInt8) (ha : a ≠ []) (hl : ∀ x, a.getLast? = some x → x ≠ 48) (hal : a.length < 1000) : ∀ (j m : Nat), j < m → j < 1000 → F.ref05_RateText.L6 n k2 m (a ++ List.replicate j 48) = k2 a := by
  intro j
  induction j with
  | zero =>
    intro m hm hj
    cases m with
    | zero => omega
    | succ m =>
      show F.ref05_RateText.L6.step n _ k2 _ = _
      unfold F.ref05_RateText.L6.step
      rw [List.replicate_zero, List.append_nil]
      have hp : 0 < a.length := List.length_pos_iff.2 ha
      rw [wrap_in (by omega), idx_pred hp]
      have hg : a[a.length - 1]? = a.getLast? := by rw [List.getLast?_eq_getElem?]
      rw [hg]
      cases e : a.getLast? with
      | none => simp at e; exact absurd e ha
      | some x =>
        have hx := hl x e
        have e2 : ((x.toNat : Int) == 48) = false := by
          have : ¬ (x.toNat : Int) = 48 := fun h => hx (u8_ext (by simp; omega))
          simpa using this
        rw [some_bind', e2, cond_false]
  | succ j ih =>
    intro m hm hj
    cases m with
    | zero => omega
    | succ m =>
      show F.ref05_RateText.L6.step n (F.ref05_RateText.L6 n k2 m) k2 _ = _
      unfold F.ref05_RateText.L6.step
      rw [List.replicate_succ', ← List.append_assoc]
      have hlen : (a ++ List.replicate j (48 : UInt8) ++ [48]).length = a.length + j + 1 := by simp; omega
      rw [wrap_in (by omega), idx_pred (by omega)]
      have hg : (a ++ List.replicate j (48 : UInt8) ++ [48])[(a ++ List.replicate j (48 : UInt8) ++ [48]).length - 1]? = some 48 := by
        rw [← List.getLast?_eq_getElem?]; simp
      rw [hg, some_bind']
      have e2 : ((((48 : UInt8).toNat : Nat) : Int) == 48) = true := rfl
      rw [e2, cond_true]
      have hs : sub (a ++ List.replicate j (48 : UInt8) ++ [48]) 0 (((a ++ List.replicate j (48 : UInt8) ++ [48]).length : Int) - 1) = some (a ++ List.replicate j 48) := by
        have := sub_nat (a ++ List.replicate j (48 : UInt8) ++ [48]) 0 (a.length + j) (by omega) (by rw [hlen]; omega)
        rw [hlen, show (((a.length + j + 1 : Nat) : Int) - 1) = ((a.length + j : Nat) : Int) from by omega]
        refine this.trans ?_
        rw [List.drop_zero, List.take_append_of_le_length (by simp), List.take_of_length_le (by simp)]
      rw [hs, some_bind']
      exact ih m (by omega) (by omega)
theorem rateText_ref (n : Nat) (hn : 100 ≤ n) (k : Int) (h : 1 ≤ k ∧ k ≤ 1000000) : F.ref05_RateText n k = some (rateText k).1 := by
  unfold F.ref05_RateText rateText
  rw [if_neg (by omega)]
  by_cases h3 : k = 1000000
  · subst h3; rfl
  have e3 : (k == 1000000) = false := by simpa using h3
  rw [e3, cond_false, if_neg h3]
  obtain ⟨u, rfl⟩ : ∃ u : Nat, k = u := ⟨k.toNat, by omega⟩
  rw [IntWalk.u64_in _ (by omega), digits_ref n (by omega) u (by omega), some_bind']
  have hl : (Lib.decDigits u).length ≤ 6 := dd_length_le (by omega) (by omega)
  obtain ⟨p1, p2, p3, p4⟩ := pad6_all (k := u) (by omega)
  have hpad : List.replicate (6 - (Lib.decDigits u).length) 48 ++ Lib.decDigits u = pad6 u :=
    val_inj (digs_append.2 ⟨digs_rep _, dd_digs u⟩) p3 (by simp; omega) (by rw [val_zeros_left, dd_val, p4])
  rw [padl_loop n _ _ (6 - (Lib.decDigits u).length) n _ (by omega) (by omega), hpad]
  have ht := trz_le (pad6 u)
  have hne : trz (pad6 u) ≠ [] := fun hh => by have := (trz_nil p3).1 hh; omega
  conv => lhs; rw [trz_pad (pad6 u)]
  rw [strip_loop n _ _ (trz (pad6 u)) hne (fun x => trz_last) (by omega) _ n (by omega) (by omega), bif_pos (by rw [strMax_eq]; omega)]
  simp
def rateR (s : List UInt8) : NumR :=
  if s = [49] then numR 1000000 0 0 else if s = [] then numR 0 13 0 else if s.head? ≠ some 48 then numR 0 11 0 else if (s.drop 1).head? ≠ some 46 then numR 0 11 1
  else if s.drop 2 = [] then numR 0 13 2 else if 0 ≤ badK isDig 0 (s.drop 2) then numR 0 14 (2 + badK isDig 0 (s.drop 2)) else if 6 < (s.drop 2).length then numR 0 12 8
  else if val (s.drop 2) = 0 then numR 0 10 0 else numR ((val (s.drop 2) * 10 ^ (6 - (s.drop 2).length) : Nat) : Int) 0 0
theorem rate_digs_loop (n : Nat) (X : Type) (k3 : Int → Int → Int → Int → Int → Int → Int → Option X) (d : List UInt8) (hd : Digs d) (hl : d.length ≤ 6) (a b c e f g : Int) : ∀ (j i m : Nat), i + j = 6 → j < m →
    F.num_Rate.L23 n k3 m d (i : Int) a b c e f g (val ((d ++ List.replicate (6 - d.length) 48).take i) : Int) = k3 a b c e f g ((val d * 10 ^ (6 - d.length) : Nat) : Int) := by
  have hD : Digs (d ++ List.replicate (6 - d.length) 48) := digs_append.2 ⟨hd, digs_rep _⟩
  have hL : (d ++ List.replicate (6 - d.length) (48 : UInt8)).length = 6 := by simp; omega
  intro j
  induction j with
  | zero =>
    intro i m hi hm
    cases m with
    | zero => omega
    | succ m =>
      show F.num_Rate.L23.step n _ k3 d _ _ _ _ _ _ _ _ = _
      unfold F.num_Rate.L23.step
      rw [bif_neg (by omega), List.take_of_length_le (by omega), val_zeros_right]
  | succ j ih =>
    intro i m hi hm
    cases m with
    | zero => omega
    | succ m =>
      show F.num_Rate.L23.step n (F.num_Rate.L23 n k3 m) k3 d _ _ _ _ _ _ _ _ = _
      unfold F.num_Rate.L23.step
      rw [bif_pos (by omega), wrap_succ (by omega)]
      have hb : val ((d ++ List.replicate (6 - d.length) 48).take i) < 10 ^ i := by
        have := val_lt (digs_take i hD)
        rw [List.length_take, hL, Nat.min_eq_left (by omega)] at this
        exact this
      have hp : (10 : Nat) ^ i ≤ 10 ^ 6 := Nat.pow_le_pow_right (by omega) (by omega)
      have hstep : ∀ x, (d ++ List.replicate (6 - d.length) (48 : UInt8))[i]? = some x → val ((d ++ List.replicate (6 - d.length) 48).take (i + 1)) = val ((d ++ List.replicate (6 - d.length) 48).take i) * 10 + dv x := by
        intro x hx
        rw [List.take_add_one, hx]
        exact val_snoc _ _
      by_cases hlt : i < d.length
      · have hx : (d ++ List.replicate (6 - d.length) (48 : UInt8))[i]? = d[i]? := List.getElem?_append_left hlt
        rw [bif_pos (by omega), idx_lt hlt, some_bind']
        have hg : d[i]? = some d[i] := by simp [hlt]
        have hdx := List.all_eq_true.1 hd d[i] (List.getElem_mem hlt)
        have hdi := isDig_iff.1 hdx
        have hv := hstep d[i] (hx.trans hg)
        have hdl := dv_lt hdx
        have h8 : IntKind.wrap .i64 (IntKind.wrap .u8 ((d[i].toNat : Int) - 48)) = (dv d[i] : Int) := by
          rw [IntWalk.u8_in _ (by omega), wrap_in (by omega)]; unfold dv; omega
        rw [h8, wrap_in (x := 10 * _) (by omega), wrap_in (by omega), show 10 * (val ((d ++ List.replicate (6 - d.length) (48 : UInt8)).take i) : Int) + (dv d[i] : Int) = (val ((d ++ List.replicate (6 - d.length) (48 : UInt8)).take (i + 1)) : Int) from by omega]
        exact ih (i + 1) m (by omega) (by omega)
      · have hx : (d ++ List.replicate (6 - d.length) (48 : UInt8))[i]? = some 48 := by
          rw [List.getElem?_append_right (by omega), List.getElem?_replicate, if_pos (by omega)]
        have hv := hstep 48 hx
        rw [dv_48] at hv
        rw [bif_neg (by omega), wrap_in (x := 10 * _) (by omega), wrap_in (by omega), show 10 * (val ((d ++ List.replicate (6 - d.length) (48 : UInt8)).take i) : Int) + 0 = (val ((d ++ List.replicate (6 - d.length) (48 : UInt8)).take (i + 1)) : Int) from by omega]
        exact ih (i + 1) m (by omega) (by omega)
theorem rate_head_loop (n : Nat) (X : Type) (k0 : List UInt8 → Int → Int → Int → Int → Option X) (s : List UInt8) (m : Nat) (hm : 3 ≤ m) :
    F.num_Rate.L5 n k0 m s (48, 46, ()) 0 0 0 0 0 = if s = [] then k0 s 0 0 13 0 else if s.head? ≠ some 48 then k0 s 0 0 11 0 else if (s.drop 1).head? ≠ some 46 then k0 s 0 0 11 1 else k0 s 0 0 0 0 := by
  obtain ⟨m, rfl⟩ : ∃ q, m = q + 3 := ⟨m - 3, by omega⟩
  show F.num_Rate.L5.step n (F.num_Rate.L5 n k0 (m + 2)) k0 s _ _ _ _ _ _ = _
  have hb : ∀ (b c : UInt8), ((b.toNat : Int) == (c.toNat : Int)) = decide (b = c) := by
    intro b c
    by_cases h : b = c
    · simp [h]
    · have : ¬ (b.toNat : Int) = (c.toNat : Int) := fun hh => h (u8_ext (by omega))
      simp [h, this]
  cases s with
  | nil => rfl
  | cons b r =>
    have e48 : ((b.toNat : Int) == 48) = decide (b = 48) := hb b 48
    unfold F.num_Rate.L5.step
    have a1 : decide ((0 : Int) < 2) = true := rfl
    have a2 : ((0 : Int) == 0) = true := rfl
    have a3 : ((0 : Int) == (((b :: r).length : Nat) : Int)) = false := by
      have : ¬ (0 : Int) = (((b :: r).length : Nat) : Int) := by simp; omega
      simpa using this
    have a4 : decide ((0 : Int) ≥ (((b :: r).length : Nat) : Int)) = false := by
      have : ¬ (0 : Int) ≥ (((b :: r).length : Nat) : Int) := by simp only [List.length_cons]; omega
      exact decide_eq_false this
    have a5 : idx (b :: r) (0 : Int) = some b := rfl
    rw [a1, a2, a3, a4, a5, cond_true, cond_true, cond_false, cond_false, some_bind', e48]
    by_cases h1 : b = 48
    · subst h1
      simp only [decide_true, Bool.not_true, cond_false]
      show F.num_Rate.L5.step n (F.num_Rate.L5 n k0 (m + 1)) k0 _ _ 1 _ _ _ _ = _
      unfold F.num_Rate.L5.step
      have c1 : decide ((1 : Int) < 2) = true := rfl
      have c2 : ((1 : Int) == 0) = false := rfl
      have c3 : ((1 : Int) == 1) = true := rfl
      rw [c1, c2, c3, cond_true, cond_false, cond_true]
      cases r with
      | nil => rfl
      | cons c r =>
        have e46 : ((c.toNat : Int) == 46) = decide (c = 46) := hb c 46
        have b3 : ((1 : Int) == (((48 :: c :: r).length : Nat) : Int)) = false := by
          have : ¬ (1 : Int) = (((48 :: c :: r).length : Nat) : Int) := by simp; omega
          simpa using this
        have b4 : decide ((1 : Int) ≥ (((48 :: c :: r).length : Nat) : Int)) = false := by
          have : ¬ (1 : Int) ≥ (((48 :: c :: r).length : Nat) : Int) := by simp; omega
          simpa using this
        have b5 : idx (48 :: c :: r) (1 : Int) = some c := rfl
        rw [b3, b4, b5, cond_false, cond_false, some_bind', e46]
        by_cases h2 : c = 46
        · subst h2
          rfl
        · simp [h2]
    · simp [h1]
theorem rate_num (n : Nat) (hn : 100 ≤ n) (s : List UInt8) (hs : s.length ≤ 1000000) (hl : s.length < n) : F.num_Rate n s = some (rateR s) := by
  unfold F.num_Rate rateR
  by_cases h1 : s = [49]
  · rw [if_pos h1, h1]; rfl
  have e1 : (s == [49]) = false := by simpa using h1
  rw [e1, cond_false, if_neg h1, rate_head_loop n _ _ s n (by omega)]
  by_cases h2 : s = []
  · rw [if_pos h2, if_pos h2]; rfl
  rw [if_neg h2, if_neg h2]
  by_cases h3 : s.head? ≠ some 48
  · rw [if_pos h3, if_pos h3]; rfl
  rw [if_neg h3, if_neg h3]
  by_cases h4 : (s.drop 1).head? ≠ some 46
  · rw [if_pos h4, if_pos h4]; rfl
  rw [if_neg h4, if_neg h4]
  have e2 : (!((0 : Int) == 0 && (0 : Int) == 0)) = false := rfl
  simp only [e2, cond_false]
  have hlen : 2 ≤ s.length := by
    cases s with
    | nil => exact absurd rfl h2
    | cons b r => cases r with
      | nil => simp at h4
      | cons => simp
  have hsub : sub s 2 (s.length : Int) = some (s.drop 2) := by
    have := sub_nat s 2 s.length hlen (Nat.le_refl _)
    rw [List.take_length] at this
    exact this
  have hdl : (s.drop 2).length + 2 = s.length := by simp; omega
  rw [hsub, some_bind', text_cls n 4 _ _ _ (by omega) (by omega), some_bind', textF4 _ (by omega)]
  generalize s.drop 2 = d at hdl ⊢
  by_cases h5 : d = []
  · rw [if_pos h5, if_pos h5]; rfl
  rw [if_neg h5, if_neg h5]
  by_cases h6 : 0 ≤ badK isDig 0 d
  · rw [if_pos h6, if_pos h6]
    have := badK_hi isDig 0 d
    have e : (!((14 : Int) == 0 && badK isDig 0 d == 0)) = true := rfl
    simp only [e, cond_true, fault_eq, some_bind']
    rw [wrap_in (by omega)]
    rfl
  rw [if_neg h6, if_neg h6]
  simp only [e2, cond_false]
  have hd := digs_of_bad h6
  by_cases h7 : 6 < d.length
  · rw [bif_pos (by omega), if_pos h7]; rfl
  rw [bif_neg (by omega), if_neg h7]
  have := rate_digs_loop n _ (fun e12_b0_0 e12_b0_1 e12_b1_0 e12_b1_1 e12_b2_0 e12_b2_1 e12_b3_0 =>
                    bif e12_b3_0 == (0 : Int) then
                      (F.num_fault n (10 : Int) (0 : Int)).bind fun y13 =>
                        some ((y13.1, (y13.2.1.1, y13.2.1.2.1, ()), ()))
                    else
                      some ((e12_b3_0, ((0 : Int), (0 : Int), ()), ()))) d hd (by omega) 0 0 0 0 0 0 6 0 n (by omega) (by omega)
  refine this.trans ?_
  have hpp : 0 < 10 ^ (6 - d.length) := Nat.pow_pos (by omega)
  by_cases h8 : val d = 0
  · rw [if_pos h8, h8, Nat.zero_mul]; rfl
  · rw [if_neg h8]
    have : ¬ ((val d * 10 ^ (6 - d.length) : Nat) : Int) = 0 := by
      have := Nat.mul_pos (Nat.pos_of_ne_zero h8) hpp
      omega
    have e : (((val d * 10 ^ (6 - d.length) : Nat) : Int) == 0) = false := by simpa using this
    rw [e, cond_false]
    rfl
end Go.AM
set_option linter.unusedVariables false
set_option linter.unusedSimpArgs false
namespace Go.AM
theorem rate_form (d : List UInt8) : rateR (48 :: 46 :: d) = if d = [] then numR 0 13 2 else if 0 ≤ badK isDig 0 d then numR 0 14 (2 + badK isDig 0 d) else if 6 < d.length then numR 0 12 8
    else if val d = 0 then numR 0 10 0 else numR ((val d * 10 ^ (6 - d.length) : Nat) : Int) 0 0 := by
  unfold rateR
  rw [if_neg (by simp), if_neg (by simp), if_neg (by simp), if_neg (by simp)]
  rfl
theorem rate_read (k : Int) (hk : 1 ≤ k ∧ k < 1000000) (z : Nat) : rateR (48 :: 46 :: (trz (pad6 k.toNat) ++ List.replicate z 48)) = if (trz (pad6 k.toNat)).length + z ≤ 6 then numR k 0 0 else numR 0 12 8 := by
  obtain ⟨p1, p2, p3, p4⟩ := pad6_all (k := k.toNat) (by omega)
  have hd : Digs (trz (pad6 k.toNat) ++ List.replicate z 48) := digs_append.2 ⟨trz_digs p3, digs_rep _⟩
  have hne : trz (pad6 k.toNat) ≠ [] := fun hh => by have := (trz_nil p3).1 hh; omega
  have hlen : (trz (pad6 k.toNat) ++ List.replicate z (48 : UInt8)).length = (trz (pad6 k.toNat)).length + z := by simp
  rw [rate_form, if_neg (by simp [hne]), if_neg (by rw [bad_of_digs hd]; omega), hlen]
  have hpad := trz_pad (pad6 k.toNat)
  have hv : val (trz (pad6 k.toNat)) * 10 ^ (6 - (trz (pad6 k.toNat)).length) = k.toNat := by
    rw [p2] at hpad
    have := congrArg val hpad
    rw [val_zeros_right, p4] at this
    exact this.symm
  have hv0 : ¬ val (trz (pad6 k.toNat)) = 0 := fun h => by rw [h] at hv; omega
  have hle := trz_le (pad6 k.toNat)
  by_cases h : (trz (pad6 k.toNat)).length + z ≤ 6
  · rw [if_neg (by omega), if_pos h, val_zeros_right]
    have hp : 0 < 10 ^ z := Nat.pow_pos (by omega)
    rw [if_neg (by have := Nat.mul_pos (Nat.pos_of_ne_zero hv0) hp; omega), Nat.mul_assoc, ← Nat.pow_add, show z + (6 - ((trz (pad6 k.toNat)).length + z)) = 6 - (trz (pad6 k.toNat)).length from by omega, hv]
    rw [show ((k.toNat : Nat) : Int) = k from by omega]
  · rw [if_pos (by omega), if_neg h]
theorem rateText_form {k : Int} (hk : 1 ≤ k ∧ k < 1000000) : rateText k = (48 :: 46 :: trz (pad6 k.toNat), 0, ()) := by
  unfold rateText
  rw [if_neg (by omega), if_neg (by omega)]; rfl
theorem rate_ok {s : List UInt8} (h : (rateR s).2.1.1 = 0) : (rateR s).2.1.2.1 = 0 ∧ 1 ≤ (rateR s).1 ∧ (rateR s).1 ≤ 1000000 ∧ (rateText (rateR s).1).2.1 = 0 ∧
    ∃ a j, s = a ++ List.replicate j 48 ∧ (rateText (rateR s).1).1 = a ∧ a ≠ [] ∧ (∀ x, a.getLast? = some x → x ≠ 48) := by
  by_cases h1 : s = [49]
  · subst h1
    exact ⟨rfl, by decide, by decide, rfl, [49], 0, rfl, rfl, by simp, by simp⟩
  have e := h
  unfold rateR at e
  rw [if_neg h1] at e
  by_cases h2 : s = []
  · rw [if_pos h2] at e; cases e
  rw [if_neg h2] at e
  by_cases h3 : s.head? ≠ some 48
  · rw [if_pos h3] at e; cases e
  rw [if_neg h3] at e
  by_cases h4 : (s.drop 1).head? ≠ some 46
  · rw [if_pos h4] at e; cases e
  clear e
  obtain ⟨d, rfl⟩ : ∃ d, s = 48 :: 46 :: d := by
    cases s with
    | nil => exact absurd rfl h2
    | cons b r => cases r with
      | nil => simp at h4
      | cons c r =>
        simp at h3 h4
        exact ⟨r, by rw [h3, h4]⟩
  rw [rate_form] at h ⊢
  by_cases g1 : d = []
  · rw [if_pos g1] at h; cases h
  rw [if_neg g1] at h ⊢
  by_cases g2 : 0 ≤ badK isDig 0 d
  · rw [if_pos g2] at h; cases h
  rw [if_neg g2] at h ⊢
  by_cases g3 : 6 < d.length
  · rw [if_pos g3] at h; cases h
  rw [if_neg g3] at h ⊢
  by_cases g4 : val d = 0
  · rw [if_pos g4] at h; cases h
  rw [if_neg g4]
  have hd := digs_of_bad g2
  have hp : 0 < 10 ^ (6 - d.length) := Nat.pow_pos (by omega)
  have hpos := Nat.mul_pos (Nat.pos_of_ne_zero g4) hp
  have hub : val d * 10 ^ (6 - d.length) < 1000000 := by
    have h5 := val_lt (digs_append.2 ⟨hd, digs_rep (6 - d.length)⟩)
    rw [val_zeros_right, List.length_append, List.length_replicate, show d.length + (6 - d.length) = 6 from by omega] at h5
    exact h5
  have hk : 1 ≤ ((val d * 10 ^ (6 - d.length) : Nat) : Int) ∧ ((val d * 10 ^ (6 - d.length) : Nat) : Int) < 1000000 := by omega
  have hf := rateText_form hk
  obtain ⟨p1, p2, p3, p4⟩ := pad6_all hub
  have hpd : pad6 (val d * 10 ^ (6 - d.length)) = d ++ List.replicate (6 - d.length) 48 :=
    val_inj p3 (digs_append.2 ⟨hd, digs_rep _⟩) (by simp; omega) (by rw [p4, val_zeros_right])
  have ht : trz (pad6 (val d * 10 ^ (6 - d.length))) = trz d := by rw [hpd, trz_zeros]
  have hne : trz d ≠ [] := fun hh => g4 ((trz_nil hd).1 hh)
  show (0 : Int) = 0 ∧ _ ∧ _ ∧ (rateText ((val d * 10 ^ (6 - d.length) : Nat) : Int)).2.1 = 0 ∧ ∃ a j, _ ∧ (rateText ((val d * 10 ^ (6 - d.length) : Nat) : Int)).1 = a ∧ _
  rw [hf]
  refine ⟨rfl, hk.1, by show ((val d * 10 ^ (6 - d.length) : Nat) : Int) ≤ 1000000; omega, rfl, 48 :: 46 :: trz d, d.length - (trz d).length, ?_, ?_, by simp, ?_⟩
  · rw [List.cons_append, List.cons_append, ← trz_pad]
  · show 48 :: 46 :: trz (pad6 (val d * 10 ^ (6 - d.length))) = _
    rw [ht]
  · intro x hx
    refine trz_last (l := d) ?_
    rw [← hx]
    cases e : trz d with
    | nil => exact absurd e hne
    | cons b r => simp [List.getLast?_cons]
theorem rate_zero {s : List UInt8} (h : ¬ (rateR s).2.1.1 = 0) : (rateR s).1 = 0 := by
  unfold rateR at h ⊢
  by_cases h1 : s = [49]
  · rw [if_pos h1] at h; exact absurd rfl h
  rw [if_neg h1] at h ⊢
  by_cases h2 : s = []
  · rw [if_pos h2]; rfl
  rw [if_neg h2] at h ⊢
  by_cases h3 : s.head? ≠ some 48
  · rw [if_pos h3]; rfl
  rw [if_neg h3] at h ⊢
  by_cases h4 : (s.drop 1).head? ≠ some 46
  · rw [if_pos h4]; rfl
  rw [if_neg h4] at h ⊢
  by_cases g1 : s.drop 2 = []
  · rw [if_pos g1]; rfl
  rw [if_neg g1] at h ⊢
  by_cases g2 : 0 ≤ badK isDig 0 (s.drop 2)
  · rw [if_pos g2]; rfl
  rw [if_neg g2] at h ⊢
  by_cases g3 : 6 < (s.drop 2).length
  · rw [if_pos g3]; rfl
  rw [if_neg g3] at h ⊢
  by_cases g4 : val (s.drop 2) = 0
  · rw [if_pos g4]; rfl
  rw [if_neg g4] at h
  exact absurd rfl h
end Go.AM
set_option linter.unusedVariables false
set_option linter.unusedSimpArgs false
namespace Go.AM
def kindOf (s : List UInt8) : Int := if s = [99] then 1 else if s = [103] then 2 else if s = [109, 115] then 3 else if s = [104] then 4 else 0
def kindR (s : List UInt8) : Int × Int × Unit := if kindOf s = 0 then (0, 16, ()) else (kindOf s, 0, ())
theorem refWord_eq (n : Nat) (k : Int) : F.ref10_Word n k = some (wordL k) := by
  unfold F.ref10_Word wordL
  by_cases h1 : k = 1
  · subst h1; rfl
  by_cases h2 : k = 2
  · subst h2; rfl
  by_cases h3 : k = 3
  · subst h3; rfl
  by_cases h4 : k = 4
  · subst h4; rfl
  rw [beq_eq_false_iff_ne.2 h1, beq_eq_false_iff_ne.2 h2, beq_eq_false_iff_ne.2 h3, beq_eq_false_iff_ne.2 h4, if_neg h1, if_neg h2, if_neg h3, if_neg h4]
  rfl
theorem kind_step (n m : Nat) {X : Type} (k0 : Unit → Option X) (kr : Int → Int → Option X) (s : List UInt8) (v : Int) : F.statsd_Kind.L2 n k0 kr (m + 1) s v = F.statsd_Kind.L2.step n (F.statsd_Kind.L2 n k0 kr m) k0 kr s v := rfl
theorem kind_at (n : Nat) {X : Type} (rec : List UInt8 → Int → Option X) (k0 : Unit → Option X) (kr : Int → Int → Option X) (s : List UInt8) (v : Int) (h : v ≤ 5) (h1 : 1 ≤ v) : F.statsd_Kind.L2.step n rec k0 kr s v = if v ≤ 4 ∧ wordL v = s then kr v 0 else rec s (v + 1) := by
  unfold F.statsd_Kind.L2.step
  rw [bif_pos h]
  simp only [O.word, some_bind']
  rw [wrap_in (by omega)]
  by_cases h4 : v ≤ 4
  · have hE : wordE v = 0 := by unfold wordE; rw [if_pos (by omega)]
    rw [hE]
    by_cases hs : wordL v = s
    · rw [if_pos ⟨h4, hs⟩, hs]; simp
    · rw [if_neg (fun hh => hs hh.2), beq_eq_false_iff_ne.2 hs]; rfl
  · have hE : wordE v = 16 := by unfold wordE; rw [if_neg (by omega)]
    rw [hE, if_neg (fun hh => h4 hh.1)]; rfl
theorem kind_eq (n : Nat) (hn : 10 ≤ n) (s : List UInt8) : F.statsd_Kind n s = some (kindR s) := by
  unfold F.statsd_Kind
  obtain ⟨m, hm⟩ : ∃ q, n = q + 6 := ⟨n - 6, by omega⟩
  have key : ∀ (X : Type) (k0 : Unit → Option X) (kr : Int → Int → Option X), F.statsd_Kind.L2 n k0 kr (m + 6) s 1 = if kindOf s = 0 then k0 () else kr (kindOf s) 0 := by
    intro X k0 kr
    rw [kind_step n (m + 5), kind_at n _ _ _ _ _ (by omega) (by omega)]
    unfold kindOf
    have w1 : wordL 1 = [99] := rfl
    have w2 : wordL 2 = [103] := rfl
    have w3 : wordL 3 = [109, 115] := rfl
    have w4 : wordL 4 = [104] := rfl
    by_cases h1 : s = [99]
    · rw [if_pos ⟨by omega, by rw [h1]; rfl⟩, if_pos h1]; rfl
    rw [if_neg (fun h => h1 (by rw [← h.2]; rfl)), if_neg h1, kind_step n (m + 4), kind_at n _ _ _ _ _ (by omega) (by omega)]
    by_cases h2 : s = [103]
    · rw [if_pos ⟨by omega, by rw [h2]; rfl⟩, if_pos h2]; rfl
    rw [if_neg (fun h => h2 (by rw [← h.2]; rfl)), if_neg h2, kind_step n (m + 3), kind_at n _ _ _ _ _ (by omega) (by omega)]
    by_cases h3 : s = [109, 115]
    · rw [if_pos ⟨by omega, by rw [h3]; rfl⟩, if_pos h3]; rfl
    rw [if_neg (fun h => h3 (by rw [← h.2]; rfl)), if_neg h3, kind_step n (m + 2), kind_at n _ _ _ _ _ (by omega) (by omega)]
    by_cases h4 : s = [104]
    · rw [if_pos ⟨by omega, by rw [h4]; rfl⟩, if_pos h4]; rfl
    rw [if_neg (fun h => h4 (by rw [← h.2]; rfl)), if_neg h4, kind_step n (m + 1), kind_at n _ _ _ _ _ (by omega) (by omega), if_neg (fun h => by have := h.1; omega), kind_step n m]
    unfold F.statsd_Kind.L2.step
    rw [bif_neg (by omega)]
    rfl
  rw [← hm] at key
  rw [key]
  unfold kindR
  by_cases h : kindOf s = 0
  · rw [if_pos h, if_pos h]
  · rw [if_neg h, if_neg h]
theorem refKind_eq (n : Nat) (hn : 10 ≤ n) (s : List UInt8) : F.ref10_Kind n s = some (kindOf s) := by
  unfold F.ref10_Kind
  obtain ⟨m, hm⟩ : ∃ q, n = q + 6 := ⟨n - 6, by omega⟩
  have at' : ∀ (X : Type) (rec : List UInt8 → Int → Option X) (k0 : Unit → Option X) (kr : Int → Option X) (v : Int), 1 ≤ v → v ≤ 4 → F.ref10_Kind.L2.step n rec k0 kr s v = if wordL v = s then kr v else rec s (v + 1) := by
    intro X rec k0 kr v h1 h4
    unfold F.ref10_Kind.L2.step
    rw [bif_pos h4, refWord_eq, some_bind', wrap_in (by omega)]
    by_cases hs : wordL v = s
    · rw [if_pos hs, hs]; simp
    · rw [if_neg hs, beq_eq_false_iff_ne.2 hs]; rfl
  have st : ∀ (X : Type) (k0 : Unit → Option X) (kr : Int → Option X) (m : Nat) (v : Int), F.ref10_Kind.L2 n k0 kr (m + 1) s v = F.ref10_Kind.L2.step n (F.ref10_Kind.L2 n k0 kr m) k0 kr s v := fun _ _ _ _ _ => rfl
  have key : ∀ (X : Type) (k0 : Unit → Option X) (kr : Int → Option X), F.ref10_Kind.L2 n k0 kr (m + 6) s 1 = if kindOf s = 0 then k0 () else kr (kindOf s) := by
    intro X k0 kr
    rw [st _ _ _ (m + 5), at' _ _ _ _ _ (by omega) (by omega)]
    unfold kindOf
    by_cases h1 : s = [99]
    · rw [if_pos (by rw [h1]; rfl), if_pos h1]; rfl
    rw [if_neg (fun h => h1 (by rw [← h]; rfl)), if_neg h1, st _ _ _ (m + 4), at' _ _ _ _ _ (by omega) (by omega)]
    by_cases h2 : s = [103]
    · rw [if_pos (by rw [h2]; rfl), if_pos h2]; rfl
    rw [if_neg (fun h => h2 (by rw [← h]; rfl)), if_neg h2, st _ _ _ (m + 3), at' _ _ _ _ _ (by omega) (by omega)]
    by_cases h3 : s = [109, 115]
    · rw [if_pos (by rw [h3]; rfl), if_pos h3]; rfl
    rw [if_neg (fun h => h3 (by rw [← h]; rfl)), if_neg h3, st _ _ _ (m + 2), at' _ _ _ _ _ (by omega) (by omega)]
    by_cases h4 : s = [104]
    · rw [if_pos (by rw [h4]; rfl), if_pos h4]; rfl
    rw [if_neg (fun h => h4 (by rw [← h]; rfl)), if_neg h4, st _ _ _ (m + 1)]
    unfold F.ref10_Kind.L2.step
    rw [bif_neg (by omega)]
    rfl
  rw [← hm] at key
  rw [key]
  by_cases h : kindOf s = 0
  · rw [if_pos h, h]
  · rw [if_neg h]
theorem words_law (n : Nat) (hn : 10 ≤ n) (haw : F.law10_awake n = some true) (k : Int) (s : List UInt8) : F.law10_StatsdWords n k s = some true := by
  unfold F.law10_StatsdWords
  rw [haw]
  by_cases h : 100 < s.length
  · rw [bif_pos (by omega)]; rfl
  rw [bif_neg (by omega)]
  simp only [O.word, refWord_eq, kind_eq n hn, refKind_eq n hn, some_bind']
  have tail : (bif kindOf s == 0 then bif (kindR s).1 == 0 then bif (kindR s).2.1 == 16 then some true else some false else some false else bif (kindR s).1 == kindOf s then bif (kindR s).2.1 == 0 then some true else some false else some false) = some true := by
    unfold kindR
    by_cases h0 : kindOf s = 0
    · rw [if_pos h0, h0]; rfl
    · rw [if_neg h0, beq_eq_false_iff_ne.2 h0]; simp
  by_cases h1 : k = 1
  · subst h1; exact tail
  by_cases h2 : k = 2
  · subst h2; exact tail
  by_cases h3 : k = 3
  · subst h3; exact tail
  by_cases h4 : k = 4
  · subst h4; exact tail
  have hw : wordL k = [] := by unfold wordL; rw [if_neg h1, if_neg h2, if_neg h3, if_neg h4]
  have hE : wordE k = 16 := by unfold wordE; rw [if_neg (by omega)]
  rw [hw, hE]
  exact tail
end Go.AM
set_option linter.unusedVariables false
set_option linter.unusedSimpArgs false
namespace Go.AM
abbrev DecD := Bool × Int × Int × Unit
abbrev DecR := DecD × Int × Unit
def two64 : Nat := 18446744073709551616
theorem two64_eq : two64 = 18446744073709551616 := rfl
def normR (neg : Bool) (c0 : Nat) (E : Int) : DecR :=
  if E < -18 then ((false, 0, 0, ()), 10, ()) else if c0 * 10 ^ (E - 18).toNat < two64 then ((neg, ((c0 * 10 ^ (E - 18).toNat : Nat) : Int), (if E ≤ 18 then E else 18), ()), 0, ()) else ((false, 0, 0, ()), 10, ())
def zeroD : DecR := ((false, 0, 0, ()), 0, ())
def valR (neg : Bool) (d : List UInt8) (e : Int) : DecR :=
  if val d = 0 then zeroD else normR neg (val (trz d)) (e + ((d.length - (trz d).length : Nat) : Int))
theorem val_trz (d : List UInt8) : val d = val (trz d) * 10 ^ (d.length - (trz d).length) := by
  have := congrArg val (trz_pad d)
  rw [val_zeros_right] at this
  exact this
theorem core_trz {d : List UInt8} (hd : Digs d) (h : val d ≠ 0) : val (trz d) % 10 ≠ 0 := by
  have hne : trz d ≠ [] := fun hh => h ((trz_nil hd).1 hh)
  obtain ⟨x, hx⟩ : ∃ x, (trz d).getLast? = some x := by
    cases e : (trz d).getLast? with
    | none => simp at e; exact absurd e hne
    | some x => exact ⟨x, rfl⟩
  have hx48 := trz_last hx
  obtain ⟨ys, hys⟩ := List.getLast?_eq_some_iff.1 hx
  have hdig := trz_digs hd
  rw [hys] at hdig ⊢
  obtain ⟨_, h2⟩ := digs_append.1 hdig
  obtain ⟨h3, _⟩ := digs_cons.1 h2
  rw [val_snoc]
  have := dv_lt h3
  have h0 : dv x ≠ 0 := fun h0 => hx48 (dv_inj h3 (b := 48) rfl h0)
  omega
theorem core_unique {a b i j : Nat} (ha : a % 10 ≠ 0) (hb : b % 10 ≠ 0) (h : a * 10 ^ i = b * 10 ^ j) : a = b ∧ i = j := by
  induction i generalizing j with
  | zero =>
    cases j with
    | zero => simpa using h
    | succ j => rw [Nat.pow_zero, Nat.mul_one, Nat.pow_succ, ← Nat.mul_assoc] at h; omega
  | succ i ih =>
    cases j with
    | zero => rw [Nat.pow_zero, Nat.mul_one, Nat.pow_succ, ← Nat.mul_assoc] at h; omega
    | succ j =>
      rw [Nat.pow_succ, Nat.pow_succ, ← Nat.mul_assoc, ← Nat.mul_assoc] at h
      obtain ⟨h1, h2⟩ := ih (Nat.eq_of_mul_eq_mul_right (by omega) h)
      exact ⟨h1, by omega⟩
theorem valR_core {d : List UInt8} (hd : Digs d) {c0 z : Nat} (h0 : c0 % 10 ≠ 0) (hv : val d = c0 * 10 ^ z) (neg : Bool) (e : Int) : valR neg d e = normR neg c0 (e + z) := by
  have hne : val d ≠ 0 := by
    rw [hv]
    have := Nat.mul_pos (show 0 < c0 by omega) (Nat.pow_pos (n := z) (show 0 < 10 by omega))
    omega
  unfold valR
  rw [if_neg hne]
  obtain ⟨h1, h2⟩ := core_unique (core_trz hd hne) h0 ((val_trz d).symm.trans hv)
  rw [h1, h2]
theorem ten_split (c : Nat) (h : 0 < c) : ∃ c0 z, c = c0 * 10 ^ z ∧ c0 % 10 ≠ 0 := by
  induction c using Nat.strongRecOn with
  | _ c ih =>
    by_cases h1 : c % 10 = 0
    · obtain ⟨c0, z, h2, h3⟩ := ih (c / 10) (by omega) (by omega)
      exact ⟨c0, z + 1, by rw [Nat.pow_succ, ← Nat.mul_assoc, ← h2]; omega, h3⟩
    · exact ⟨c, 0, by simp, h1⟩
theorem valR_zeros_left (neg : Bool) {d : List UInt8} (hd : Digs d) (k : Nat) (e : Int) : valR neg (List.replicate k 48 ++ d) e = valR neg d e := by
  have hD : Digs (List.replicate k 48 ++ d) := digs_append.2 ⟨digs_rep _, hd⟩
  by_cases h : val d = 0
  · have : val (List.replicate k 48 ++ d) = 0 := by rw [val_zeros_left, h]
    unfold valR
    rw [if_pos h, if_pos this]
  · obtain ⟨c0, z, h1, h2⟩ := ten_split (val d) (by omega)
    rw [valR_core hd h2 h1, valR_core hD h2 (by rw [val_zeros_left, h1])]
theorem valR_zeros_right (neg : Bool) {d : List UInt8} (hd : Digs d) (k : Nat) (e : Int) : valR neg (d ++ List.replicate k 48) e = valR neg d (e + k) := by
  have hD : Digs (d ++ List.replicate k 48) := digs_append.2 ⟨hd, digs_rep _⟩
  by_cases h : val d = 0
  · have : val (d ++ List.replicate k 48) = 0 := by rw [val_zeros_right, h]; simp
    unfold valR
    rw [if_pos h, if_pos this]
  · obtain ⟨c0, z, h1, h2⟩ := ten_split (val d) (by omega)
    rw [valR_core hd h2 h1, valR_core hD h2 (z := z + k) (by rw [val_zeros_right, h1, Nat.pow_add, Nat.mul_assoc])]
    congr 1
    omega
theorem times_eq (n : Nat) (c d : Nat) (hc : c < two64) (hd : d < two64) : F.dec_times n (c : Int) (d : Int) = some ((((c * 10 + d) % two64 : Nat) : Int), decide (c * 10 + d < two64), ()) := by
  unfold F.dec_times O.mul64
  rw [two64_eq] at *
  rw [bif_pos (by omega), some_bind']
  unfold O.add64
  rw [show (c : Int).toNat = c from rfl, show (10 : Int).toNat = 10 from rfl]
  dsimp only
  rw [bif_pos (by omega), some_bind']
  simp only [Int.toNat_natCast, show (0 : Int).toNat = 0 from rfl, Nat.add_zero]
  by_cases h : c * 10 < 18446744073709551616
  · have e1 : ((((c * 10 / 18446744073709551616 : Nat) : Int)) == 0) = true := by simp; omega
    rw [e1, cond_true]
    have e2 : c * 10 % 18446744073709551616 = c * 10 := Nat.mod_eq_of_lt h
    rw [e2]
    congr 2
    congr 1
    by_cases h2 : c * 10 + d < 18446744073709551616
    · have : (c * 10 + d) / 18446744073709551616 = 0 := Nat.div_eq_of_lt h2
      simp [h2, this]
    · have : ¬ (c * 10 + d) / 18446744073709551616 = 0 := by omega
      have e : ((((c * 10 + d) / 18446744073709551616 : Nat) : Int) == 0) = false := by simp; omega
      rw [e]; simp [h2]
  · have e1 : ((((c * 10 / 18446744073709551616 : Nat) : Int)) == 0) = false := by simp; omega
    rw [e1, cond_false]
    have : ¬ c * 10 + d < 18446744073709551616 := by omega
    simp only [this, decide_false]
    congr 2
    omega
theorem strip_norm (n : Nat) (X : Type) (k0 : Bool → Int → Int → Bool → Int → Int → Option X) (neg b : Bool) (x y : Int) (c0 : Nat) (h0 : c0 % 10 ≠ 0) : ∀ (z m : Nat) (e : Int), c0 * 10 ^ z < two64 → -9223372036854775808 ≤ e → e + z ≤ 9223372036854775807 → z < m →
    ∃ j, j ≤ z ∧ F.dec_Normal.L3 n k0 m neg ((c0 * 10 ^ z : Nat) : Int) e b x y = k0 neg ((c0 * 10 ^ j : Nat) : Int) (e + z - j) b x y ∧ (j = 0 ∨ 18 ≤ e + z - j) ∧ (e + z - j ≤ 18 ∨ j = z) := by
  intro z
  induction z with
  | zero =>
    intro m e hc he1 he2 hm
    obtain ⟨m, rfl⟩ : ∃ q, m = q + 1 := ⟨m - 1, by omega⟩
    refine ⟨0, Nat.le_refl _, ?_, Or.inl rfl, Or.inr rfl⟩
    show F.dec_Normal.L3.step n _ k0 _ _ _ _ _ _ = _
    unfold F.dec_Normal.L3.step
    have e1 : ((((c0 * 10 ^ 0 : Nat) : Int).tmod 10) == 0) = false := by
      rw [Nat.pow_zero, Nat.mul_one]
      have : ¬ ((c0 : Int).tmod 10) = 0 := by
        rw [show ((c0 : Int).tmod 10) = ((c0 % 10 : Nat) : Int) from rfl]; omega
      simpa using this
    rw [e1, cond_false]
    congr 1
    omega
  | succ z ih =>
    intro m e hc he1 he2 hm
    obtain ⟨m, rfl⟩ : ∃ q, m = q + 1 := ⟨m - 1, by omega⟩
    have hstep : F.dec_Normal.L3 n k0 (m + 1) neg ((c0 * 10 ^ (z + 1) : Nat) : Int) e b x y = F.dec_Normal.L3.step n (F.dec_Normal.L3 n k0 m) k0 neg ((c0 * 10 ^ (z + 1) : Nat) : Int) e b x y := rfl
    have hmul : c0 * 10 ^ (z + 1) = c0 * 10 ^ z * 10 := by rw [Nat.pow_succ, Nat.mul_assoc]
    have e1 : ((((c0 * 10 ^ (z + 1) : Nat) : Int).tmod 10) == 0) = true := by
      have : ((c0 * 10 ^ (z + 1) : Nat) : Int).tmod 10 = 0 := by
        rw [show (((c0 * 10 ^ (z + 1) : Nat) : Int).tmod 10) = ((c0 * 10 ^ (z + 1) % 10 : Nat) : Int) from rfl]; omega
      simpa using this
    have e2 : ((c0 * 10 ^ (z + 1) : Nat) : Int).tdiv 10 = ((c0 * 10 ^ z : Nat) : Int) := by
      rw [show (((c0 * 10 ^ (z + 1) : Nat) : Int).tdiv 10) = ((c0 * 10 ^ (z + 1) / 10 : Nat) : Int) from rfl]; omega
    rw [hstep]
    unfold F.dec_Normal.L3.step
    rw [e1, cond_true]
    by_cases h18 : e < 18
    · rw [bif_pos h18, e2, IntWalk.u64_in _ (by rw [two64_eq] at hc; omega), wrap_in (by omega)]
      obtain ⟨j, j1, j2, j3, j4⟩ := ih m (e + 1) (by omega) (by omega) (by omega) (by omega)
      refine ⟨j, by omega, ?_, ?_, ?_⟩
      · rw [j2]
        congr 1
        omega
      · rcases j3 with j3 | j3
        · exact Or.inl j3
        · exact Or.inr (by omega)
      · rcases j4 with j4 | j4
        · exact Or.inl (by omega)
        · exact Or.inl (by omega)
    · rw [bif_neg h18]
      refine ⟨z + 1, Nat.le_refl _, ?_, Or.inr (by omega), Or.inr rfl⟩
      congr 1
      omega
theorem grow_norm (n : Nat) (X : Type) (k2 : Bool → Int → Int → Bool → Int → Int → Option X) (K : Int → Bool → Int → Int → Option X) (neg b : Bool) (x y : Int) : ∀ (m c d : Nat), 0 < c → c < two64 → two64 ≤ c * 10 ^ m → 18 + (d : Int) ≤ 9223372036854775807 →
    F.dec_Normal.L5 n k2 (fun q _ _ _ u v w => K q u v w) (m + 1) neg (c : Int) (18 + (d : Int)) b x y = if c * 10 ^ d < two64 then k2 neg ((c * 10 ^ d : Nat) : Int) 18 b x y else K 10 false 0 0 := by
  intro m
  induction m with
  | zero => intro c d h1 h2 h3; rw [Nat.pow_zero, Nat.mul_one] at h3; omega
  | succ m ih =>
    intro c d h1 h2 h3 h4
    have hstep : F.dec_Normal.L5 n k2 (fun q _ _ _ u v w => K q u v w) (m + 1 + 1) neg (c : Int) (18 + (d : Int)) b x y = F.dec_Normal.L5.step n (F.dec_Normal.L5 n k2 (fun q _ _ _ u v w => K q u v w) (m + 1)) k2 (fun q _ _ _ u v w => K q u v w) neg (c : Int) (18 + (d : Int)) b x y := rfl
    rw [hstep]
    unfold F.dec_Normal.L5.step
    cases d with
    | zero =>
      rw [bif_neg (by omega), Nat.pow_zero, Nat.mul_one, if_pos h2]
      rfl
    | succ d =>
      rw [bif_pos (by omega), show (0 : Int) = ((0 : Nat) : Int) from rfl, times_eq n c 0 h2 (by decide), some_bind']
      have hp : c * 10 ≤ c * 10 ^ (d + 1) := by
        rw [Nat.pow_succ, ← Nat.mul_assoc]
        have : 0 < 10 ^ d := Nat.pow_pos (by omega)
        have := Nat.le_mul_of_pos_right c this
        omega
      by_cases hf : c * 10 + 0 < two64
      · simp only [hf, decide_true, Bool.not_true, cond_false]
        rw [wrap_in (by omega), show (18 + ((d + 1 : Nat) : Int) - 1) = 18 + (d : Int) from by omega, Nat.mod_eq_of_lt hf]
        have := ih (c * 10 + 0) d (by omega) hf (by rw [Nat.pow_succ] at h3; rw [Nat.add_zero, Nat.mul_assoc, Nat.mul_comm 10]; exact h3) (by omega)
        rw [show ((0 : Nat) : Int) = (0 : Int) from rfl] at *
        rw [this, Nat.add_zero, Nat.mul_assoc, Nat.mul_comm 10, ← Nat.pow_succ]
      · have : ¬ c * 10 ^ (d + 1) < two64 := by omega
        simp only [hf, decide_false, Bool.not_false, cond_true]
        rw [if_neg this]
theorem normal_core (n : Nat) (hn : 100 ≤ n) (neg : Bool) (c0 z : Nat) (h0 : c0 % 10 ≠ 0) (hc : c0 * 10 ^ z < two64) (e : Int) (he : -9223372036854775808 ≤ e ∧ e ≤ 9223372036854775807) :
    F.dec_Normal n (neg, ((c0 * 10 ^ z : Nat) : Int), e, ()) = some (normR neg c0 (e + z)) := by
  have hz : z ≤ 20 := by
    refine Classical.byContradiction fun hh => ?_
    have h1 : 10 ^ 20 ≤ 10 ^ z := Nat.pow_le_pow_right (by omega) (by omega)
    have h2 := Nat.le_mul_of_pos_left (10 ^ z) (show 0 < c0 by omega)
    rw [two64_eq] at hc
    omega
  have hpos : 0 < c0 * 10 ^ z := Nat.mul_pos (by omega) (Nat.pow_pos (by omega))
  unfold F.dec_Normal
  have e0 : (((c0 * 10 ^ z : Nat) : Int) == 0) = false := by
    have : ¬ ((c0 * 10 ^ z : Nat) : Int) = 0 := by omega
    simpa using this
  simp only [e0, cond_false]
  by_cases hbig : 9223372036854775807 < e + z
  ·
    have h18 : ¬ e < 18 := by omega
    obtain ⟨m, rfl⟩ : ∃ q, n = q + 1 := ⟨n - 1, by omega⟩
    have hs : ∀ (k0 : Bool → Int → Int → Bool → Int → Int → Option DecR), F.dec_Normal.L3 (m + 1) k0 (m + 1) neg ((c0 * 10 ^ z : Nat) : Int) e false 0 0 = k0 neg ((c0 * 10 ^ z : Nat) : Int) e false 0 0 := by
      intro k0
      show F.dec_Normal.L3.step (m + 1) (F.dec_Normal.L3 (m + 1) k0 m) k0 _ _ _ _ _ _ = _
      unfold F.dec_Normal.L3.step
      rw [bif_neg h18]
      cases (((c0 * 10 ^ z : Nat) : Int).tmod 10 == 0) <;> rfl
    rw [hs]
    obtain ⟨d, hd⟩ : ∃ d : Nat, e = 18 + (d : Int) := ⟨(e - 18).toNat, by omega⟩
    have hfuel : two64 ≤ c0 * 10 ^ z * 10 ^ m := by
      have h1 : 10 ^ 20 ≤ 10 ^ m := Nat.pow_le_pow_right (by omega) (by omega)
      have h2 := Nat.le_mul_of_pos_left (10 ^ m) hpos
      rw [two64_eq]
      omega
    rw [hd, grow_norm (m + 1) _ _ (fun q u v w => some ((u, v, w, ()), q, ())) neg false 0 0 m _ d hpos hc hfuel (by omega)]
    have hnot : ∀ w, 20 ≤ w → ¬ c0 * 10 ^ w < two64 := by
      intro w hw
      have h1 : 10 ^ 20 ≤ 10 ^ w := Nat.pow_le_pow_right (by omega) hw
      have h2 := Nat.le_mul_of_pos_left (10 ^ w) (show 0 < c0 by omega)
      rw [two64_eq]
      omega
    unfold normR
    rw [if_neg (show ¬ 18 + (d : Int) + z < -18 by omega), if_neg (by rw [Nat.mul_assoc, ← Nat.pow_add]; exact hnot _ (by omega)), if_neg (hnot _ (by omega))]
  · obtain ⟨j, j1, j2, j3, j4⟩ := strip_norm n DecR (fun e1_b0_0 e1_b0_1 e1_b0_2 e1_b1_0 e1_b1_1 e1_b1_2 =>
        F.dec_Normal.L5 n
          (fun e3_b0_0 e3_b0_1 e3_b0_2 e3_b1_0 e3_b1_1 e3_b1_2 =>
            bif decide (e3_b0_2 < (-18 : Int)) then
              some (((false, (0 : Int), (0 : Int), ()), (10 : Int), ()))
            else
              some (((e3_b0_0, e3_b0_1, e3_b0_2, ()), (0 : Int), ())))
          (fun e4_3 e4_b0_0 e4_b0_1 e4_b0_2 e4_b1_0 e4_b1_1 e4_b1_2 =>
            some (((e4_b1_0, e4_b1_1, e4_b1_2, ()), e4_3, ()))) n e1_b0_0 e1_b0_1 e1_b0_2 e1_b1_0 e1_b1_1 e1_b1_2) neg false 0 0 c0 h0 z n e hc he.1 (by omega) (by omega)
    refine j2.trans ?_
    have hcj : c0 * 10 ^ j < two64 := by
      have h1 : 10 ^ j ≤ 10 ^ z := Nat.pow_le_pow_right (by omega) j1
      have := Nat.mul_le_mul_left c0 h1
      omega
    have hposj : 0 < c0 * 10 ^ j := Nat.mul_pos (by omega) (Nat.pow_pos (by omega))
    obtain ⟨m, rfl⟩ : ∃ q, n = q + 1 := ⟨n - 1, by omega⟩
    by_cases hE : 18 ≤ e + z - j
    · obtain ⟨d, hd⟩ : ∃ d : Nat, e + z - j = 18 + (d : Int) := ⟨(e + z - j - 18).toNat, by omega⟩
      have hfuel : two64 ≤ c0 * 10 ^ j * 10 ^ m := by
        have h1 : 10 ^ 20 ≤ 10 ^ m := Nat.pow_le_pow_right (by omega) (by omega)
        have h2 := Nat.le_mul_of_pos_left (10 ^ m) hposj
        rw [two64_eq]
        omega
      show F.dec_Normal.L5 (m + 1) _ _ (m + 1) neg _ (e + z - j) false 0 0 = _
      rw [hd, grow_norm (m + 1) _ _ (fun q u v w => some ((u, v, w, ()), q, ())) neg false 0 0 m _ d hposj hcj hfuel (by omega)]
      unfold normR
      rw [if_neg (show ¬ e + z < -18 by omega), Nat.mul_assoc, ← Nat.pow_add, show j + d = (e + z - 18).toNat from by omega]
      by_cases hf : c0 * 10 ^ (e + z - 18).toNat < two64
      · rw [if_pos hf, if_pos hf, bif_neg (by omega)]
        congr 3
        by_cases hh : e + z ≤ 18
        · rw [if_pos hh, show e + (z : Int) = 18 from by omega]
        · rw [if_neg hh]
      · rw [if_neg hf, if_neg hf]
    · have hj0 : j = 0 := by omega
      subst hj0
      have hlow : ∀ (k2 : Bool → Int → Int → Bool → Int → Int → Option DecR) (kr : Int → Bool → Int → Int → Bool → Int → Int → Option DecR) (c : Int) (E : Int), ¬ E > 18 → F.dec_Normal.L5 (m + 1) k2 kr (m + 1) neg c E false 0 0 = k2 neg c E false 0 0 := by
        intro k2 kr c E hE
        show F.dec_Normal.L5.step (m + 1) (F.dec_Normal.L5 (m + 1) k2 kr m) k2 kr neg c E false 0 0 = _
        unfold F.dec_Normal.L5.step
        rw [bif_neg hE]
      rw [hlow _ _ _ _ (by omega)]
      unfold normR
      rw [Nat.pow_zero, Nat.mul_one, show (e + (z : Int) - 18).toNat = 0 from by omega, Nat.pow_zero, Nat.mul_one, show (e + (z : Int) - ((0 : Nat) : Int)) = e + z from by omega]
      by_cases h18 : e + z < -18
      · rw [bif_pos h18, if_pos h18]
      · rw [bif_neg h18, if_neg h18, if_pos (by rw [Nat.pow_zero, Nat.mul_one] at hcj; exact hcj), if_pos (by omega)]
theorem normal_eq (n : Nat) (hn : 100 ≤ n) (neg : Bool) (c : Nat) (hc : c < two64) (e : Int) (he : -9223372036854775808 ≤ e ∧ e ≤ 9223372036854775807) : F.dec_Normal n (neg, (c : Int), e, ()) = some (valR neg (Lib.decDigits c) e) := by
  by_cases h : c = 0
  · subst h
    unfold valR
    rw [if_pos (dd_val 0)]
    rfl
  · obtain ⟨c0, z, h1, h2⟩ := ten_split c (by omega)
    rw [valR_core (dd_digs c) h2 (by rw [dd_val]; exact h1)]
    rw [h1] at hc ⊢
    exact normal_core n hn neg c0 z h2 hc e he
end Go.AM
