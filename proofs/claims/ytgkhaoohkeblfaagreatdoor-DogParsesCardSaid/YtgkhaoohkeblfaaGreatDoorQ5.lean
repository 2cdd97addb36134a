/- Part 5 of a proof by the abstract machine. -/
import Derived.Test.YtgkhaoohkeblfaaGreatDoorQ4
import Derived.KernelRfl
import Derived.Test.YtgkhaoohkeblfaaGreatDoorRows
import Derived.Test.YtgkhaoohkeblfaaGreatDoorProg
import Derived.Shelf.Spec.BitsCarry
import Derived.Lib.ItoaNum
import Derived.Lib.ItoaLen
import Derived.Lib.AtoiAll
import Derived.Lib.TrimByte
set_option linter.unusedVariables false
set_option maxRecDepth 100000
namespace Go.AM
open Go.Proofs Go.RowKit
open Go.Proofs.YtgkhaoohkeblfaaGreatDoor
def SI : World → Prop := LaidI Tryz.prog Rows.dogWordsRow.laid
def SW : World → Prop := WOf SI
theorem swTab {w : World} (h : SW w) : Lib.TabIs Tryz.prog w (Rows.dogWordsRow.laid.getD 2 ("", .nil)).1 .u64 Lib.pow10Tab := by
  obtain ⟨w0, h1, h2, h3⟩ := h
  exact tab_on (laid_tab h1 (by kernel_rfl) 2 (by kernel_rfl) (g := 0) (by kernel_rfl) (by kernel_rfl) Tryz.underlying196 Tryz.underlying49 (by kernel_rfl) (by kernel_rfl)) h2 h3
theorem swErrS {w : World} (h : SW w) : ∃ ev, w.cell? ⟨6, 0, none⟩ = some ev ∧ (ev = .nilIface ∨ ∃ te pe, ev = .iface te pe) := by
  obtain ⟨w0, h1, h2, h3⟩ := h
  obtain ⟨ev, a, b⟩ := laid_iface h1 (by kernel_rfl) 5 rfl (g := 6) (by kernel_rfl) (by kernel_rfl) Tryz.underlying61
  exact ⟨ev, cell_on a h3, b⟩
theorem swErrR {w : World} (h : SW w) : ∃ ev, w.cell? ⟨7, 0, none⟩ = some ev ∧ (ev = .nilIface ∨ ∃ te pe, ev = .iface te pe) := by
  obtain ⟨w0, h1, h2, h3⟩ := h
  obtain ⟨ev, a, b⟩ := laid_iface h1 (by kernel_rfl) 4 rfl (g := 7) (by kernel_rfl) (by kernel_rfl) Tryz.underlying61
  exact ⟨ev, cell_on a h3, b⟩
theorem mixed : Tryz.prog.follows .mixedOrders = true := by kernel_rfl
def tab : Tree TI := .node 76 (.node 42 (.node 24 (.node 9 (.node 4 (.one 3 ⟨.int .i64, 1, 8, false, [(.int .i64 (0 : Int))], some (.int .i64), false⟩) (.node 5 (.one 4 ⟨.bool, 1, 1, false, [(.bool false)], some .bool, false⟩) (.one 5 ⟨.int .u8, 1, 1, false, [(.int .u8 (0 : Int))], some .u8, false⟩))) (.node 22 (.one 9 ⟨.str, 1, 16, false, [(.str [])], some .str, false⟩) (.node 23 (.one 22 ⟨.func, 1, 8, false, [.nilfn], none, false⟩) (.one 23 ⟨.int .i64, 1, 8, false, [(.int .i64 (0 : Int))], some (.int .i64), false⟩)))) (.node 32 (.node 26 (.one 24 ⟨.other, 1, 0, false, [.any], none, false⟩) (.node 28 (.one 26 ⟨.other, 1, 0, false, [.any], none, false⟩) (.one 28 ⟨.slice 9, 1, 24, false, [.sl .str [] .full], some (.sl .str), false⟩))) (.node 35 (.node 33 (.one 32 ⟨.slice 51, 1, 24, false, [.sl (.agg [.bool, (.int .u64), (.int .i64)]) [] .full], some (.sl (.agg [.bool, (.int .u64), (.int .i64)])), false⟩) (.one 33 ⟨.slice 53, 1, 24, false, [.sl (.agg [.str, .str]) [] .full], some (.sl (.agg [.str, .str])), false⟩)) (.node 38 (.one 35 ⟨.struct [(0, 9), (1, 3), (2, 32), (3, 3), (4, 33), (5, 3)], 6, 88, true, [(.str []), (.int .i64 (0 : Int)), .sl (.agg [.bool, (.int .u64), (.int .i64)]) [] .full, (.int .i64 (0 : Int)), .sl (.agg [.str, .str]) [] .full, (.int .i64 (0 : Int))], some (.agg [.str, (.int .i64), (.sl (.agg [.bool, (.int .u64), (.int .i64)])), (.int .i64), (.sl (.agg [.str, .str])), (.int .i64)]), false⟩) (.one 38 ⟨.other, 1, 0, false, [.any], none, false⟩))))) (.node 57 (.node 51 (.node 43 (.one 42 ⟨.struct [(0, 23), (1, 3)], 2, 16, true, [(.int .i64 (0 : Int)), (.int .i64 (0 : Int))], some (.agg [(.int .i64), (.int .i64)]), true⟩) (.node 49 (.one 43 ⟨.other, 1, 0, false, [.any], none, false⟩) (.one 49 ⟨.int .u64, 1, 8, false, [(.int .u64 (0 : Int))], some (.int .u64), false⟩))) (.node 54 (.node 53 (.one 51 ⟨.struct [(0, 4), (1, 49), (2, 3)], 3, 24, true, [(.bool false), (.int .u64 (0 : Int)), (.int .i64 (0 : Int))], some (.agg [.bool, (.int .u64), (.int .i64)]), true⟩) (.one 53 ⟨.struct [(0, 9), (1, 9)], 2, 32, true, [(.str []), (.str [])], some (.agg [.str, .str]), true⟩)) (.node 56 (.one 54 ⟨.arr 6 9, 6, 96, true, [(.str []), (.str []), (.str []), (.str []), (.str []), (.str [])], some (.agg [.str, .str, .str, .str, .str, .str]), false⟩) (.one 56 ⟨.ptr, 1, 8, false, [.nilp], none, false⟩)))) (.node 62 (.node 59 (.one 57 ⟨.slice 5, 1, 24, false, [.sl .u8 [] .full], some (.sl .u8), false⟩) (.node 61 (.one 59 ⟨.struct [(0, 56), (1, 57)], 2, 32, true, [.nilp, .sl .u8 [] .full], none, false⟩) (.one 61 ⟨.iface, 1, 16, false, [(.err false)], none, false⟩))) (.node 66 (.node 64 (.one 62 ⟨.other, 1, 0, false, [.any], none, false⟩) (.one 64 ⟨.func, 1, 8, false, [.nilfn], none, false⟩)) (.node 69 (.one 66 ⟨.other, 1, 0, false, [.any], none, false⟩) (.one 69 ⟨.other, 1, 0, false, [.any], none, false⟩)))))) (.node 116 (.node 87 (.node 81 (.node 78 (.one 76 ⟨.ptr, 1, 8, false, [.nilp], none, false⟩) (.node 80 (.one 78 ⟨.struct [(0, 35), (6, 3), (7, 3)], 8, 104, true, [(.str []), (.int .i64 (0 : Int)), .sl (.agg [.bool, (.int .u64), (.int .i64)]) [] .full, (.int .i64 (0 : Int)), .sl (.agg [.str, .str]) [] .full, (.int .i64 (0 : Int)), (.int .i64 (0 : Int)), (.int .i64 (0 : Int))], some (.agg [(.agg [.str, (.int .i64), (.sl (.agg [.bool, (.int .u64), (.int .i64)])), (.int .i64), (.sl (.agg [.str, .str])), (.int .i64)]), (.int .i64), (.int .i64)]), false⟩) (.one 80 ⟨.func, 1, 8, false, [.nilfn], none, false⟩))) (.node 82 (.one 81 ⟨.slice 80, 1, 24, false, [.nils], none, false⟩) (.node 86 (.one 82 ⟨.slice 86, 1, 24, false, [.sl (.agg [(.int .i64), .str]) [] .full], some (.sl (.agg [(.int .i64), .str])), false⟩) (.one 86 ⟨.struct [(0, 3), (1, 9)], 2, 24, true, [(.int .i64 (0 : Int)), (.str [])], some (.agg [(.int .i64), .str]), true⟩)))) (.node 111 (.node 101 (.one 87 ⟨.ptr, 1, 8, false, [.nilp], none, false⟩) (.node 107 (.one 101 ⟨.other, 1, 0, false, [.any], none, false⟩) (.one 107 ⟨.other, 1, 0, false, [.any], none, false⟩))) (.node 114 (.node 113 (.one 111 ⟨.other, 1, 0, false, [.any], none, false⟩) (.one 113 ⟨.func, 1, 8, false, [.nilfn], none, false⟩)) (.node 115 (.one 114 ⟨.struct [(0, 9), (1, 113)], 2, 24, true, [(.str []), .nilfn], none, false⟩) (.one 115 ⟨.arr 3 114, 6, 72, true, [(.str []), .nilfn, (.str []), .nilfn, (.str []), .nilfn], none, false⟩))))) (.node 131 (.node 122 (.node 118 (.one 116 ⟨.other, 1, 0, false, [.any], none, false⟩) (.node 120 (.one 118 ⟨.other, 1, 0, false, [.any], none, false⟩) (.one 120 ⟨.other, 1, 0, false, [.any], none, false⟩))) (.node 126 (.node 125 (.one 122 ⟨.other, 1, 0, false, [.any], none, false⟩) (.one 125 ⟨.struct [(0, 35)], 6, 88, true, [(.str []), (.int .i64 (0 : Int)), .sl (.agg [.bool, (.int .u64), (.int .i64)]) [] .full, (.int .i64 (0 : Int)), .sl (.agg [.str, .str]) [] .full, (.int .i64 (0 : Int))], some (.agg [(.agg [.str, (.int .i64), (.sl (.agg [.bool, (.int .u64), (.int .i64)])), (.int .i64), (.sl (.agg [.str, .str])), (.int .i64)])]), false⟩)) (.node 127 (.one 126 ⟨.struct [(0, 22), (1, 23)], 2, 16, true, [.nilfn, (.int .i64 (0 : Int))], none, false⟩) (.one 127 ⟨.arr 6 126, 12, 96, true, [.nilfn, (.int .i64 (0 : Int)), .nilfn, (.int .i64 (0 : Int)), .nilfn, (.int .i64 (0 : Int)), .nilfn, (.int .i64 (0 : Int)), .nilfn, (.int .i64 (0 : Int)), .nilfn, (.int .i64 (0 : Int))], none, false⟩)))) (.node 156 (.node 148 (.one 131 ⟨.func, 1, 8, false, [.nilfn], none, false⟩) (.node 153 (.one 148 ⟨.func, 1, 8, false, [.nilfn], none, false⟩) (.one 153 ⟨.other, 1, 0, false, [.any], none, false⟩))) (.node 181 (.node 161 (.one 156 ⟨.other, 1, 0, false, [.any], none, false⟩) (.one 161 ⟨.func, 1, 8, false, [.nilfn], none, false⟩)) (.node 183 (.one 181 ⟨.arr 2 5, 2, 2, true, [(.int .u8 (0 : Int)), (.int .u8 (0 : Int))], some (.agg [.u8, .u8]), false⟩) (.one 183 ⟨.func, 1, 8, false, [.nilfn], none, false⟩))))))
theorem tab_ok : tab.all (tiOK Tryz.prog) = true := by kernel_rfl
noncomputable def cx25 (X : Type) (n : Nat) : Cx X := mkCx tab.get [(25, Tryz.f25)] [] [] [] [] []
theorem cx25_ok (X : Type) (n : Nat) : CxOK Tryz.prog SW (cx25 X n) := mkCx_ok mixed (tabOK tab_ok) ⟨⟨Tryz.func25, by decide⟩, trivial⟩ trivial ⟨okC_mk (fun _ => rfl) (by kernel_rfl) (castP (by kernel_rfl) (show True from trivial)) (castP (by kernel_rfl) (show True from trivial)), trivial⟩ trivial
theorem ok25 (n : Nat) : FnOK Tryz.prog SW 25 [] (.one (.agg [.str, .str, .str, .str, .str, .str])) (fun x => F.dog_words n ) := fnOK_of WOf.st (cx25_ok _ n) (d := 8) (fun x => by kernel_rfl)
noncomputable def cx10 (X : Type) (n : Nat) : Cx X := mkCx tab.get [(10, Tryz.f10)] [(25, orcOf [] (.one (.agg [.str, .str, .str, .str, .str, .str])) (fun x => F.dog_words n ))] [] [] [] []
theorem cx10_ok (X : Type) (n : Nat) : CxOK Tryz.prog SW (cx10 X n) := mkCx_ok mixed (tabOK tab_ok) ⟨⟨Tryz.func10, by decide⟩, trivial⟩ ⟨orcOf_ok (ok25 n), trivial⟩ ⟨okC_mk (fun _ => rfl) (by kernel_rfl) (castP (by kernel_rfl) (show True from trivial)) (castP (by kernel_rfl) (show True from trivial)), trivial⟩ trivial
theorem ok10 (n : Nat) : FnOK Tryz.prog SW 10 [(.int .i64)] (.many [.str, (.int .i64)]) (fun x => F.dog_Word n x.1) := fnOK_of WOf.st (cx10_ok _ n) (d := 8) (fun x => by kernel_rfl)
theorem ok128 (n : Nat) : FnOK Tryz.prog SW 128 [(.int .u64), (.int .u64)] (.many [(.int .u64), (.int .u64)]) (fun x => O.mul64 n x.1 x.2.1) := mul64_ok (enters Tryz.func128 (by kernel_rfl) (by decide)) Tryz.bits_Mul64 n
theorem ok129 (n : Nat) : FnOK Tryz.prog SW 129 [(.int .u64), (.int .u64), (.int .u64)] (.many [(.int .u64), (.int .u64)]) (fun x => O.add64 n x.1 x.2.1 x.2.2.1) := add64_ok (fun x y c hx hy hc w => by rw [run_callFunc_extern Tryz.func129 (by kernel_rfl) (by kernel_rfl) (by kernel_rfl) (e := Go.add64Entry) (by kernel_rfl), Go.run_add64 x y c (by omega) (by omega) (by omega) (by omega)]; simp only [Result.andThen]; congr 5 <;> omega) n
noncomputable def cx82 (X : Type) (n : Nat) : Cx X := mkCx tab.get [(82, Tryz.f82)] [(128, orcOf [(.int .u64), (.int .u64)] (.many [(.int .u64), (.int .u64)]) (fun x => O.mul64 n x.1 x.2.1)), (129, orcOf [(.int .u64), (.int .u64), (.int .u64)] (.many [(.int .u64), (.int .u64)]) (fun x => O.add64 n x.1 x.2.1 x.2.2.1))] [] [] [] []
theorem cx82_ok (X : Type) (n : Nat) : CxOK Tryz.prog SW (cx82 X n) := mkCx_ok mixed (tabOK tab_ok) ⟨⟨Tryz.func82, by decide⟩, trivial⟩ ⟨orcOf_ok (ok128 n),
  orcOf_ok (ok129 n), trivial⟩ ⟨okC_mk (fun _ => rfl) (by kernel_rfl) (castP (by kernel_rfl) (show True from trivial)) (castP (by kernel_rfl) (show True from trivial)), trivial⟩ trivial
theorem ok82 (n : Nat) : FnOK Tryz.prog SW 82 [(.int .u64), (.int .u64)] (.many [(.int .u64), .bool]) (fun x => F.dec_times n x.1 x.2.1) := fnOK_of WOf.st (cx82_ok _ n) (d := 8) (fun x => by kernel_rfl)
def F.dec_Normal.L3.head : Shape := ⟨[(1, (.const (.ref 0 0))), (2, (.const (.ref 1 0)))], [[.bool, (.int .u64), (.int .i64)], [.bool, (.int .u64), (.int .i64)]], [], [], [], 2, 0, 0⟩
def F.dec_Normal.L3.e0 : Shape := ⟨[(1, (.const (.ref 0 0))), (2, (.const (.ref 1 0)))], [[.bool, (.int .u64), (.int .i64)], [.bool, (.int .u64), (.int .i64)]], [], [], [], 2, 0, 0⟩
noncomputable def F.dec_Normal.L3.f {X : Type} (n m : Nat) (ks : Ks X) (s : F.dec_Normal.L3.head.den) : Option X := F.dec_Normal.L3 n (fun qb0_0 qb0_1 qb0_2 qb1_0 qb1_1 qb1_2 => ks.ex 0 (F.dec_Normal.L3.e0.e (((), (), ()), ((qb0_0, qb0_1, qb0_2, ()), (qb1_0, qb1_1, qb1_2, ()), ()), (), ())) (F.dec_Normal.L3.e0.h (((), (), ()), ((qb0_0, qb0_1, qb0_2, ()), (qb1_0, qb1_1, qb1_2, ()), ()), (), ()))) m s.2.1.1.1 s.2.1.1.2.1 s.2.1.1.2.2.1 s.2.1.2.1.1 s.2.1.2.1.2.1 s.2.1.2.1.2.2.1
noncomputable def F.dec_Normal.L3.li (X : Type) (n : Nat) : LoopI X := ⟨8, ⟨0, 0, 0⟩, F.dec_Normal.L3.head, [(0, F.dec_Normal.L3.e0)], none, F.dec_Normal.L3.f n n⟩
def F.dec_Normal.L5.head : Shape := ⟨[(1, (.const (.ref 0 0))), (2, (.const (.ref 1 0)))], [[.bool, (.int .u64), (.int .i64)], [.bool, (.int .u64), (.int .i64)]], [], [], [], 2, 0, 0⟩
def F.dec_Normal.L5.e2 : Shape := ⟨[(1, (.const (.ref 0 0))), (2, (.const (.ref 1 0)))], [[.bool, (.int .u64), (.int .i64)], [.bool, (.int .u64), (.int .i64)]], [], [], [], 2, 0, 0⟩
def F.dec_Normal.L5.er : Shape := ⟨[(2, (.const (.ref 1 0))), (3, (.int .i64))], [[.bool, (.int .u64), (.int .i64)], [.bool, (.int .u64), (.int .i64)]], [], [], [], 2, 0, 0⟩
noncomputable def F.dec_Normal.L5.f {X : Type} (n m : Nat) (ks : Ks X) (s : F.dec_Normal.L5.head.den) : Option X := F.dec_Normal.L5 n (fun qb0_0 qb0_1 qb0_2 qb1_0 qb1_1 qb1_2 => ks.ex 2 (F.dec_Normal.L5.e2.e (((), (), ()), ((qb0_0, qb0_1, qb0_2, ()), (qb1_0, qb1_1, qb1_2, ()), ()), (), ())) (F.dec_Normal.L5.e2.h (((), (), ()), ((qb0_0, qb0_1, qb0_2, ()), (qb1_0, qb1_1, qb1_2, ()), ()), (), ()))) (fun q3 qb0_0 qb0_1 qb0_2 qb1_0 qb1_1 qb1_2 => ks.ret (F.dec_Normal.L5.er.e (((), q3, ()), ((qb0_0, qb0_1, qb0_2, ()), (qb1_0, qb1_1, qb1_2, ()), ()), (), ())) (F.dec_Normal.L5.er.h (((), q3, ()), ((qb0_0, qb0_1, qb0_2, ()), (qb1_0, qb1_1, qb1_2, ()), ()), (), ()))) m s.2.1.1.1 s.2.1.1.2.1 s.2.1.1.2.2.1 s.2.1.2.1.1 s.2.1.2.1.2.1 s.2.1.2.1.2.2.1
noncomputable def F.dec_Normal.L5.li (X : Type) (n : Nat) : LoopI X := ⟨8, ⟨0, 0, 0⟩, F.dec_Normal.L5.head, [(2, F.dec_Normal.L5.e2)], some F.dec_Normal.L5.er, F.dec_Normal.L5.f n n⟩
noncomputable def cx48 (X : Type) (n : Nat) : Cx X := mkCx tab.get [(48, Tryz.f48)] [(82, orcOf [(.int .u64), (.int .u64)] (.many [(.int .u64), .bool]) (fun x => F.dec_times n x.1 x.2.1))] [(48, 3, [F.dec_Normal.L3.li X n]), (48, 5, [F.dec_Normal.L5.li X n])] [] [] []
theorem F.dec_Normal.L3.ok (X : Type) (n : Nat) : LoopOK (cx48 X n) 48 Tryz.f48.ntmps (loopNo Tryz.f48 0) (F.dec_Normal.L3.li X n) :=
  ⟨F.dec_Normal.L3.f n, n, fun _ _ => rfl, fun _ _ => rfl, fun m ks s => by kernel_rfl⟩
theorem F.dec_Normal.L5.ok (X : Type) (n : Nat) : LoopOK (cx48 X n) 48 Tryz.f48.ntmps (loopNo Tryz.f48 1) (F.dec_Normal.L5.li X n) :=
  ⟨F.dec_Normal.L5.f n, n, fun _ _ => rfl, fun _ _ => rfl, fun m ks s => by kernel_rfl⟩
theorem cx48_ok (X : Type) (n : Nat) : CxOK Tryz.prog SW (cx48 X n) := mkCx_ok mixed (tabOK tab_ok) ⟨⟨Tryz.func48, by decide⟩, trivial⟩ ⟨orcOf_ok (ok82 n), trivial⟩ ⟨okC_mk (fun _ => rfl) (by kernel_rfl) (castP (by kernel_rfl) (show (LoopOK (cx48 X n) 48 Tryz.f48.ntmps (loopNo Tryz.f48 0) (F.dec_Normal.L3.li X n) ∧ True) ∧ (LoopOK (cx48 X n) 48 Tryz.f48.ntmps (loopNo Tryz.f48 1) (F.dec_Normal.L5.li X n) ∧ True) ∧ True from ⟨⟨F.dec_Normal.L3.ok X n, trivial⟩, ⟨F.dec_Normal.L5.ok X n, trivial⟩, trivial⟩)) (castP (by kernel_rfl) (show True from trivial)), trivial⟩ trivial
theorem ok48 (n : Nat) : FnOK Tryz.prog SW 48 [(.agg [.bool, (.int .u64), (.int .i64)])] (.many [(.agg [.bool, (.int .u64), (.int .i64)]), (.int .i64)]) (fun x => F.dec_Normal n x.1) := fnOK_of WOf.st (cx48_ok _ n) (d := 8) (fun x => by kernel_rfl)
noncomputable def cx154 (X : Type) (n : Nat) : Cx X := mkCx tab.get [(154, Tryz.f154)] [] [] [] [] []
theorem cx154_ok (X : Type) (n : Nat) : CxOK Tryz.prog SW (cx154 X n) := mkCx_ok mixed (tabOK tab_ok) ⟨⟨Tryz.func154, by decide⟩, trivial⟩ trivial ⟨okC_mk (fun _ => rfl) (by kernel_rfl) (castP (by kernel_rfl) (show True from trivial)) (castP (by kernel_rfl) (show True from trivial)), trivial⟩ trivial
theorem ok154 (n : Nat) : FnOK Tryz.prog SW 154 [(.int .i64)] (.one .bool) (fun x => F.class_may n x.1) := fnOK_of WOf.st (cx154_ok _ n) (d := 8) (fun x => by kernel_rfl)
noncomputable def cx188 (X : Type) (n : Nat) : Cx X := mkCx tab.get [(188, Tryz.f188)] [] [] [] [] []
theorem cx188_ok (X : Type) (n : Nat) : CxOK Tryz.prog SW (cx188 X n) := mkCx_ok mixed (tabOK tab_ok) ⟨⟨Tryz.func188, by decide⟩, trivial⟩ trivial ⟨okC_mk (fun _ => rfl) (by kernel_rfl) (castP (by kernel_rfl) (show True from trivial)) (castP (by kernel_rfl) (show True from trivial)), trivial⟩ trivial
theorem ok188 (n : Nat) : FnOK Tryz.prog SW 188 [(.int .u8), (.int .u8), (.int .u8)] (.one .bool) (fun x => F.class_between n x.1 x.2.1 x.2.2.1) := fnOK_of WOf.st (cx188_ok _ n) (d := 8) (fun x => by kernel_rfl)
noncomputable def cx155 (X : Type) (n : Nat) : Cx X := mkCx tab.get [(155, Tryz.f155)] [(188, orcOf [(.int .u8), (.int .u8), (.int .u8)] (.one .bool) (fun x => F.class_between n x.1 x.2.1 x.2.2.1))] [] [] [] []
theorem cx155_ok (X : Type) (n : Nat) : CxOK Tryz.prog SW (cx155 X n) := mkCx_ok mixed (tabOK tab_ok) ⟨⟨Tryz.func155, by decide⟩, trivial⟩ ⟨orcOf_ok (ok188 n), trivial⟩ ⟨okC_mk (fun _ => rfl) (by kernel_rfl) (castP (by kernel_rfl) (show True from trivial)) (castP (by kernel_rfl) (show True from trivial)), trivial⟩ trivial
theorem ok155 (n : Nat) : FnOK Tryz.prog SW 155 [(.int .i64), (.int .u8)] (.one .bool) (fun x => F.class_Is n x.1 x.2.1) := fnOK_of WOf.st (cx155_ok _ n) (d := 8) (fun x => by kernel_rfl)
def F.class_Bad.L4.head : Shape := ⟨[(0, (.int .i64)), (1, .str), (11, (.int .i64)), (12, (.int .i64))], [], [], [], [], 0, 0, 0⟩
def F.class_Bad.L4.e0 : Shape := ⟨[], [], [], [], [], 0, 0, 0⟩
def F.class_Bad.L4.er : Shape := ⟨[(4, (.int .i64)), (5, (.int .i64))], [], [], [], [], 0, 0, 0⟩
noncomputable def F.class_Bad.L4.f {X : Type} (n m : Nat) (ks : Ks X) (s : F.class_Bad.L4.head.den) : Option X := F.class_Bad.L4 n (fun (_ : Unit) => ks.ex 0 (F.class_Bad.L4.e0.e ((), (), (), ())) (F.class_Bad.L4.e0.h ((), (), (), ()))) (fun q4 q5 => ks.ret (F.class_Bad.L4.er.e ((q4, q5, ()), (), (), ())) (F.class_Bad.L4.er.h ((q4, q5, ()), (), (), ()))) m s.1.1 s.1.2.1 s.1.2.2.1 s.1.2.2.2.1
noncomputable def F.class_Bad.L4.li (X : Type) (n : Nat) : LoopI X := ⟨8, ⟨0, 0, 0⟩, F.class_Bad.L4.head, [(0, F.class_Bad.L4.e0)], some F.class_Bad.L4.er, F.class_Bad.L4.f n n⟩
noncomputable def cx117 (X : Type) (n : Nat) : Cx X := mkCx tab.get [(117, Tryz.f117)] [(154, orcOf [(.int .i64)] (.one .bool) (fun x => F.class_may n x.1)), (155, orcOf [(.int .i64), (.int .u8)] (.one .bool) (fun x => F.class_Is n x.1 x.2.1))] [(117, 4, [F.class_Bad.L4.li X n])] [] [] []
theorem F.class_Bad.L4.ok (X : Type) (n : Nat) : LoopOK (cx117 X n) 117 Tryz.f117.ntmps (loopNo Tryz.f117 0) (F.class_Bad.L4.li X n) :=
  ⟨F.class_Bad.L4.f n, n, fun _ _ => rfl, fun _ _ => rfl, fun m ks s => by kernel_rfl⟩
theorem cx117_ok (X : Type) (n : Nat) : CxOK Tryz.prog SW (cx117 X n) := mkCx_ok mixed (tabOK tab_ok) ⟨⟨Tryz.func117, by decide⟩, trivial⟩ ⟨orcOf_ok (ok154 n),
  orcOf_ok (ok155 n), trivial⟩ ⟨okC_mk (fun _ => rfl) (by kernel_rfl) (castP (by kernel_rfl) (show (LoopOK (cx117 X n) 117 Tryz.f117.ntmps (loopNo Tryz.f117 0) (F.class_Bad.L4.li X n) ∧ True) ∧ True from ⟨⟨F.class_Bad.L4.ok X n, trivial⟩, trivial⟩)) (castP (by kernel_rfl) (show True from trivial)), trivial⟩ trivial
theorem ok117 (n : Nat) : FnOK Tryz.prog SW 117 [(.int .i64), .str] (.many [(.int .i64), (.int .i64)]) (fun x => F.class_Bad n x.1 x.2.1) := fnOK_of WOf.st (cx117_ok _ n) (d := 8) (fun x => by kernel_rfl)
noncomputable def cx71 (X : Type) (n : Nat) : Cx X := mkCx tab.get [(71, Tryz.f71)] [(117, orcOf [(.int .i64), .str] (.many [(.int .i64), (.int .i64)]) (fun x => F.class_Bad n x.1 x.2.1))] [] [] [] []
theorem cx71_ok (X : Type) (n : Nat) : CxOK Tryz.prog SW (cx71 X n) := mkCx_ok mixed (tabOK tab_ok) ⟨⟨Tryz.func71, by decide⟩, trivial⟩ ⟨orcOf_ok (ok117 n), trivial⟩ ⟨okC_mk (fun _ => rfl) (by kernel_rfl) (castP (by kernel_rfl) (show True from trivial)) (castP (by kernel_rfl) (show True from trivial)), trivial⟩ trivial
theorem ok71 (n : Nat) : FnOK Tryz.prog SW 71 [(.int .i64), .str, (.int .i64), (.int .i64)] (.one (.agg [(.int .i64), (.int .i64)])) (fun x => F.class_Text n x.1 x.2.1 x.2.2.1 x.2.2.2.1) := fnOK_of WOf.st (cx71_ok _ n) (d := 8) (fun x => by kernel_rfl)
noncomputable def cx83 (X : Type) (n : Nat) : Cx X := mkCx tab.get [(83, Tryz.f83)] [(71, orcOf [(.int .i64), .str, (.int .i64), (.int .i64)] (.one (.agg [(.int .i64), (.int .i64)])) (fun x => F.class_Text n x.1 x.2.1 x.2.2.1 x.2.2.2.1))] [] [] [] []
theorem cx83_ok (X : Type) (n : Nat) : CxOK Tryz.prog SW (cx83 X n) := mkCx_ok mixed (tabOK tab_ok) ⟨⟨Tryz.func83, by decide⟩, trivial⟩ ⟨orcOf_ok (ok71 n), trivial⟩ ⟨okC_mk (fun _ => rfl) (by kernel_rfl) (castP (by kernel_rfl) (show True from trivial)) (castP (by kernel_rfl) (show True from trivial)), trivial⟩ trivial
theorem ok83 (n : Nat) : FnOK Tryz.prog SW 83 [(.agg [.str, (.int .i64), (.sl (.agg [.bool, (.int .u64), (.int .i64)]) .unk), (.int .i64), (.sl (.agg [.str, .str]) .unk), (.int .i64)])] (.one .bool) (fun x => F.metric_look_name n x.1) := fnOK_of WOf.st (cx83_ok _ n) (d := 8) (fun x => by kernel_rfl)
noncomputable def cx130 (X : Type) (n : Nat) : Cx X := mkCx tab.get [(130, Tryz.f130)] [] [] [] [] []
theorem cx130_ok (X : Type) (n : Nat) : CxOK Tryz.prog SW (cx130 X n) := mkCx_ok mixed (tabOK tab_ok) ⟨⟨Tryz.func130, by decide⟩, trivial⟩ trivial ⟨okC_mk (fun _ => rfl) (by kernel_rfl) (castP (by kernel_rfl) (show True from trivial)) (castP (by kernel_rfl) (show True from trivial)), trivial⟩ trivial
theorem ok130 (n : Nat) : FnOK Tryz.prog SW 130 [(.int .i64), (.int .i64), (.int .i64)] (.one .bool) (fun x => F.metric_between n x.1 x.2.1 x.2.2.1) := fnOK_of WOf.st (cx130_ok _ n) (d := 8) (fun x => by kernel_rfl)
noncomputable def cx84 (X : Type) (n : Nat) : Cx X := mkCx tab.get [(84, Tryz.f84)] [(130, orcOf [(.int .i64), (.int .i64), (.int .i64)] (.one .bool) (fun x => F.metric_between n x.1 x.2.1 x.2.2.1))] [] [] [] []
theorem cx84_ok (X : Type) (n : Nat) : CxOK Tryz.prog SW (cx84 X n) := mkCx_ok mixed (tabOK tab_ok) ⟨⟨Tryz.func84, by decide⟩, trivial⟩ ⟨orcOf_ok (ok130 n), trivial⟩ ⟨okC_mk (fun _ => rfl) (by kernel_rfl) (castP (by kernel_rfl) (show True from trivial)) (castP (by kernel_rfl) (show True from trivial)), trivial⟩ trivial
theorem ok84 (n : Nat) : FnOK Tryz.prog SW 84 [(.agg [.str, (.int .i64), (.sl (.agg [.bool, (.int .u64), (.int .i64)]) .unk), (.int .i64), (.sl (.agg [.str, .str]) .unk), (.int .i64)])] (.one .bool) (fun x => F.metric_look_kind n x.1) := fnOK_of WOf.st (cx84_ok _ n) (d := 8) (fun x => by kernel_rfl)
noncomputable def cx55 (X : Type) (n : Nat) : Cx X := mkCx tab.get [(55, Tryz.f55)] [(48, orcOf [(.agg [.bool, (.int .u64), (.int .i64)])] (.many [(.agg [.bool, (.int .u64), (.int .i64)]), (.int .i64)]) (fun x => F.dec_Normal n x.1))] [] [] [] []
theorem cx55_ok (X : Type) (n : Nat) : CxOK Tryz.prog SW (cx55 X n) := mkCx_ok mixed (tabOK tab_ok) ⟨⟨Tryz.func55, by decide⟩, trivial⟩ ⟨orcOf_ok (ok48 n), trivial⟩ ⟨okC_mk (fun _ => rfl) (by kernel_rfl) (castP (by kernel_rfl) (show True from trivial)) (castP (by kernel_rfl) (show True from trivial)), trivial⟩ trivial
theorem ok55 (n : Nat) : FnOK Tryz.prog SW 55 [(.agg [.bool, (.int .u64), (.int .i64)])] (.one (.int .i64)) (fun x => F.dec_Check n x.1) := fnOK_of WOf.st (cx55_ok _ n) (d := 8) (fun x => by kernel_rfl)
noncomputable def cx132 (X : Type) (n : Nat) : Cx X := mkCx tab.get [(132, Tryz.f132)] [(55, orcOf [(.agg [.bool, (.int .u64), (.int .i64)])] (.one (.int .i64)) (fun x => F.dec_Check n x.1))] [] [] [] []
theorem cx132_ok (X : Type) (n : Nat) : CxOK Tryz.prog SW (cx132 X n) := mkCx_ok mixed (tabOK tab_ok) ⟨⟨Tryz.func132, by decide⟩, trivial⟩ ⟨orcOf_ok (ok55 n), trivial⟩ ⟨okC_mk (fun _ => rfl) (by kernel_rfl) (castP (by kernel_rfl) (show True from trivial)) (castP (by kernel_rfl) (show True from trivial)), trivial⟩ trivial
theorem ok132 (n : Nat) : FnOK Tryz.prog SW 132 [(.agg [.bool, (.int .u64), (.int .i64)])] (.one .bool) (fun x => F.metric_look_values_1 n x.1) := fnOK_of WOf.st (cx132_ok _ n) (d := 8) (fun x => by kernel_rfl)
def F.metric_look_values.L2_slices_IndexFunc_api_Dec_api_Dec.head : Shape := ⟨[(0, (.sl (.agg [.bool, (.int .u64), (.int .i64)]) .unk)), (1, (.const (.fn 132 [] []))), (7, (.int .i64)), (8, (.int .i64))], [[.str, (.int .i64), (.sl (.agg [.bool, (.int .u64), (.int .i64)]) .unk), (.int .i64), (.sl (.agg [.str, .str]) .unk), (.int .i64)]], [], [], [], 1, 0, 0⟩
def F.metric_look_values.L2_slices_IndexFunc_api_Dec_api_Dec.e0 : Shape := ⟨[], [[.str, (.int .i64), (.sl (.agg [.bool, (.int .u64), (.int .i64)]) .unk), (.int .i64), (.sl (.agg [.str, .str]) .unk), (.int .i64)]], [], [], [], 1, 0, 0⟩
def F.metric_look_values.L2_slices_IndexFunc_api_Dec_api_Dec.er : Shape := ⟨[(4, (.int .i64))], [[.str, (.int .i64), (.sl (.agg [.bool, (.int .u64), (.int .i64)]) .unk), (.int .i64), (.sl (.agg [.str, .str]) .unk), (.int .i64)]], [], [], [], 1, 0, 0⟩
noncomputable def F.metric_look_values.L2_slices_IndexFunc_api_Dec_api_Dec.f {X : Type} (n m : Nat) (ks : Ks X) (s : F.metric_look_values.L2_slices_IndexFunc_api_Dec_api_Dec.head.den) : Option X := F.metric_look_values.L2_slices_IndexFunc_api_Dec_api_Dec n (fun qb0_0 qb0_1 qb0_2 qb0_3 qb0_4 qb0_5 => ks.ex 0 (F.metric_look_values.L2_slices_IndexFunc_api_Dec_api_Dec.e0.e ((), ((qb0_0, qb0_1, qb0_2, qb0_3, qb0_4, qb0_5, ()), ()), (), ())) (F.metric_look_values.L2_slices_IndexFunc_api_Dec_api_Dec.e0.h ((), ((qb0_0, qb0_1, qb0_2, qb0_3, qb0_4, qb0_5, ()), ()), (), ()))) (fun q4 qb0_0 qb0_1 qb0_2 qb0_3 qb0_4 qb0_5 => ks.ret (F.metric_look_values.L2_slices_IndexFunc_api_Dec_api_Dec.er.e ((q4, ()), ((qb0_0, qb0_1, qb0_2, qb0_3, qb0_4, qb0_5, ()), ()), (), ())) (F.metric_look_values.L2_slices_IndexFunc_api_Dec_api_Dec.er.h ((q4, ()), ((qb0_0, qb0_1, qb0_2, qb0_3, qb0_4, qb0_5, ()), ()), (), ()))) m s.1.1 s.1.2.2.1 s.1.2.2.2.1 s.2.1.1.1 s.2.1.1.2.1 s.2.1.1.2.2.1 s.2.1.1.2.2.2.1 s.2.1.1.2.2.2.2.1 s.2.1.1.2.2.2.2.2.1
noncomputable def F.metric_look_values.L2_slices_IndexFunc_api_Dec_api_Dec.li (X : Type) (n : Nat) : LoopI X := ⟨6, ⟨1, 0, 0⟩, F.metric_look_values.L2_slices_IndexFunc_api_Dec_api_Dec.head, [(0, F.metric_look_values.L2_slices_IndexFunc_api_Dec_api_Dec.e0)], some F.metric_look_values.L2_slices_IndexFunc_api_Dec_api_Dec.er, F.metric_look_values.L2_slices_IndexFunc_api_Dec_api_Dec.f n n⟩
noncomputable def cx85 (X : Type) (n : Nat) : Cx X := mkCx tab.get [(85, Tryz.f85), (131, Tryz.f131), (164, Tryz.f164)] [(130, orcOf [(.int .i64), (.int .i64), (.int .i64)] (.one .bool) (fun x => F.metric_between n x.1 x.2.1 x.2.2.1)), (132, orcOf [(.agg [.bool, (.int .u64), (.int .i64)])] (.one .bool) (fun x => F.metric_look_values_1 n x.1))] [(164, 2, [F.metric_look_values.L2_slices_IndexFunc_api_Dec_api_Dec.li X n])] [] [] []
theorem F.metric_look_values.L2_slices_IndexFunc_api_Dec_api_Dec.ok (X : Type) (n : Nat) : LoopOK (cx85 X n) 164 Tryz.f164.ntmps (loopNo Tryz.f164 0) (F.metric_look_values.L2_slices_IndexFunc_api_Dec_api_Dec.li X n) :=
  ⟨F.metric_look_values.L2_slices_IndexFunc_api_Dec_api_Dec.f n, n, fun _ _ => rfl, fun _ _ => rfl, fun m ks s => by kernel_rfl⟩
theorem cx85_ok (X : Type) (n : Nat) : CxOK Tryz.prog SW (cx85 X n) := mkCx_ok mixed (tabOK tab_ok) ⟨⟨Tryz.func85, by decide⟩,
  ⟨Tryz.func131, by decide⟩,
  ⟨Tryz.func164, by decide⟩, trivial⟩ ⟨orcOf_ok (ok130 n),
  orcOf_ok (ok132 n), trivial⟩ ⟨okC_mk (fun _ => rfl) (by kernel_rfl) (castP (by kernel_rfl) (show True from trivial)) (castP (by kernel_rfl) (show True from trivial)),
  okC_mk (fun _ => rfl) (by kernel_rfl) (castP (by kernel_rfl) (show True from trivial)) (castP (by kernel_rfl) (show True from trivial)),
  okC_mk (fun _ => rfl) (by kernel_rfl) (castP (by kernel_rfl) (show (LoopOK (cx85 X n) 164 Tryz.f164.ntmps (loopNo Tryz.f164 0) (F.metric_look_values.L2_slices_IndexFunc_api_Dec_api_Dec.li X n) ∧ True) ∧ True from ⟨⟨F.metric_look_values.L2_slices_IndexFunc_api_Dec_api_Dec.ok X n, trivial⟩, trivial⟩)) (castP (by kernel_rfl) (show True from trivial)), trivial⟩ trivial
theorem ok85 (n : Nat) : FnOK Tryz.prog SW 85 [(.agg [.str, (.int .i64), (.sl (.agg [.bool, (.int .u64), (.int .i64)]) .unk), (.int .i64), (.sl (.agg [.str, .str]) .unk), (.int .i64)])] (.one .bool) (fun x => F.metric_look_values n x.1) := fnOK_of WOf.st (cx85_ok _ n) (d := 8) (fun x => by kernel_rfl)
noncomputable def cx86 (X : Type) (n : Nat) : Cx X := mkCx tab.get [(86, Tryz.f86)] [(130, orcOf [(.int .i64), (.int .i64), (.int .i64)] (.one .bool) (fun x => F.metric_between n x.1 x.2.1 x.2.2.1))] [] [] [] []
theorem cx86_ok (X : Type) (n : Nat) : CxOK Tryz.prog SW (cx86 X n) := mkCx_ok mixed (tabOK tab_ok) ⟨⟨Tryz.func86, by decide⟩, trivial⟩ ⟨orcOf_ok (ok130 n), trivial⟩ ⟨okC_mk (fun _ => rfl) (by kernel_rfl) (castP (by kernel_rfl) (show True from trivial)) (castP (by kernel_rfl) (show True from trivial)), trivial⟩ trivial
theorem ok86 (n : Nat) : FnOK Tryz.prog SW 86 [(.agg [.str, (.int .i64), (.sl (.agg [.bool, (.int .u64), (.int .i64)]) .unk), (.int .i64), (.sl (.agg [.str, .str]) .unk), (.int .i64)])] (.one .bool) (fun x => F.metric_look_rate n x.1) := fnOK_of WOf.st (cx86_ok _ n) (d := 8) (fun x => by kernel_rfl)
noncomputable def cx60 (X : Type) (n : Nat) : Cx X := mkCx tab.get [(60, Tryz.f60)] [(71, orcOf [(.int .i64), .str, (.int .i64), (.int .i64)] (.one (.agg [(.int .i64), (.int .i64)])) (fun x => F.class_Text n x.1 x.2.1 x.2.2.1 x.2.2.2.1))] [] [] [] []
theorem cx60_ok (X : Type) (n : Nat) : CxOK Tryz.prog SW (cx60 X n) := mkCx_ok mixed (tabOK tab_ok) ⟨⟨Tryz.func60, by decide⟩, trivial⟩ ⟨orcOf_ok (ok71 n), trivial⟩ ⟨okC_mk (fun _ => rfl) (by kernel_rfl) (castP (by kernel_rfl) (show True from trivial)) (castP (by kernel_rfl) (show True from trivial)), trivial⟩ trivial
theorem ok60 (n : Nat) : FnOK Tryz.prog SW 60 [(.agg [.str, .str])] (.one (.int .i64)) (fun x => F.tag_Check n x.1) := fnOK_of WOf.st (cx60_ok _ n) (d := 8) (fun x => by kernel_rfl)
noncomputable def cx134 (X : Type) (n : Nat) : Cx X := mkCx tab.get [(134, Tryz.f134)] [(60, orcOf [(.agg [.str, .str])] (.one (.int .i64)) (fun x => F.tag_Check n x.1))] [] [] [] []
theorem cx134_ok (X : Type) (n : Nat) : CxOK Tryz.prog SW (cx134 X n) := mkCx_ok mixed (tabOK tab_ok) ⟨⟨Tryz.func134, by decide⟩, trivial⟩ ⟨orcOf_ok (ok60 n), trivial⟩ ⟨okC_mk (fun _ => rfl) (by kernel_rfl) (castP (by kernel_rfl) (show True from trivial)) (castP (by kernel_rfl) (show True from trivial)), trivial⟩ trivial
theorem ok134 (n : Nat) : FnOK Tryz.prog SW 134 [(.agg [.str, .str])] (.one .bool) (fun x => F.metric_look_tags_1 n x.1) := fnOK_of WOf.st (cx134_ok _ n) (d := 8) (fun x => by kernel_rfl)
def F.metric_look_tags.L2_slices_IndexFunc_api_Tag_api_Tag.head : Shape := ⟨[(0, (.sl (.agg [.str, .str]) .unk)), (1, (.const (.fn 134 [] []))), (7, (.int .i64)), (8, (.int .i64))], [[.str, (.int .i64), (.sl (.agg [.bool, (.int .u64), (.int .i64)]) .unk), (.int .i64), (.sl (.agg [.str, .str]) .unk), (.int .i64)]], [], [], [], 1, 0, 0⟩
def F.metric_look_tags.L2_slices_IndexFunc_api_Tag_api_Tag.e0 : Shape := ⟨[], [[.str, (.int .i64), (.sl (.agg [.bool, (.int .u64), (.int .i64)]) .unk), (.int .i64), (.sl (.agg [.str, .str]) .unk), (.int .i64)]], [], [], [], 1, 0, 0⟩
def F.metric_look_tags.L2_slices_IndexFunc_api_Tag_api_Tag.er : Shape := ⟨[(4, (.int .i64))], [[.str, (.int .i64), (.sl (.agg [.bool, (.int .u64), (.int .i64)]) .unk), (.int .i64), (.sl (.agg [.str, .str]) .unk), (.int .i64)]], [], [], [], 1, 0, 0⟩
noncomputable def F.metric_look_tags.L2_slices_IndexFunc_api_Tag_api_Tag.f {X : Type} (n m : Nat) (ks : Ks X) (s : F.metric_look_tags.L2_slices_IndexFunc_api_Tag_api_Tag.head.den) : Option X := F.metric_look_tags.L2_slices_IndexFunc_api_Tag_api_Tag n (fun qb0_0 qb0_1 qb0_2 qb0_3 qb0_4 qb0_5 => ks.ex 0 (F.metric_look_tags.L2_slices_IndexFunc_api_Tag_api_Tag.e0.e ((), ((qb0_0, qb0_1, qb0_2, qb0_3, qb0_4, qb0_5, ()), ()), (), ())) (F.metric_look_tags.L2_slices_IndexFunc_api_Tag_api_Tag.e0.h ((), ((qb0_0, qb0_1, qb0_2, qb0_3, qb0_4, qb0_5, ()), ()), (), ()))) (fun q4 qb0_0 qb0_1 qb0_2 qb0_3 qb0_4 qb0_5 => ks.ret (F.metric_look_tags.L2_slices_IndexFunc_api_Tag_api_Tag.er.e ((q4, ()), ((qb0_0, qb0_1, qb0_2, qb0_3, qb0_4, qb0_5, ()), ()), (), ())) (F.metric_look_tags.L2_slices_IndexFunc_api_Tag_api_Tag.er.h ((q4, ()), ((qb0_0, qb0_1, qb0_2, qb0_3, qb0_4, qb0_5, ()), ()), (), ()))) m s.1.1 s.1.2.2.1 s.1.2.2.2.1 s.2.1.1.1 s.2.1.1.2.1 s.2.1.1.2.2.1 s.2.1.1.2.2.2.1 s.2.1.1.2.2.2.2.1 s.2.1.1.2.2.2.2.2.1
noncomputable def F.metric_look_tags.L2_slices_IndexFunc_api_Tag_api_Tag.li (X : Type) (n : Nat) : LoopI X := ⟨6, ⟨1, 0, 0⟩, F.metric_look_tags.L2_slices_IndexFunc_api_Tag_api_Tag.head, [(0, F.metric_look_tags.L2_slices_IndexFunc_api_Tag_api_Tag.e0)], some F.metric_look_tags.L2_slices_IndexFunc_api_Tag_api_Tag.er, F.metric_look_tags.L2_slices_IndexFunc_api_Tag_api_Tag.f n n⟩
noncomputable def cx87 (X : Type) (n : Nat) : Cx X := mkCx tab.get [(87, Tryz.f87), (133, Tryz.f133), (165, Tryz.f165)] [(134, orcOf [(.agg [.str, .str])] (.one .bool) (fun x => F.metric_look_tags_1 n x.1))] [(165, 2, [F.metric_look_tags.L2_slices_IndexFunc_api_Tag_api_Tag.li X n])] [] [] []
theorem F.metric_look_tags.L2_slices_IndexFunc_api_Tag_api_Tag.ok (X : Type) (n : Nat) : LoopOK (cx87 X n) 165 Tryz.f165.ntmps (loopNo Tryz.f165 0) (F.metric_look_tags.L2_slices_IndexFunc_api_Tag_api_Tag.li X n) :=
  ⟨F.metric_look_tags.L2_slices_IndexFunc_api_Tag_api_Tag.f n, n, fun _ _ => rfl, fun _ _ => rfl, fun m ks s => by kernel_rfl⟩
theorem cx87_ok (X : Type) (n : Nat) : CxOK Tryz.prog SW (cx87 X n) := mkCx_ok mixed (tabOK tab_ok) ⟨⟨Tryz.func87, by decide⟩,
  ⟨Tryz.func133, by decide⟩,
  ⟨Tryz.func165, by decide⟩, trivial⟩ ⟨orcOf_ok (ok134 n), trivial⟩ ⟨okC_mk (fun _ => rfl) (by kernel_rfl) (castP (by kernel_rfl) (show True from trivial)) (castP (by kernel_rfl) (show True from trivial)),
  okC_mk (fun _ => rfl) (by kernel_rfl) (castP (by kernel_rfl) (show True from trivial)) (castP (by kernel_rfl) (show True from trivial)),
  okC_mk (fun _ => rfl) (by kernel_rfl) (castP (by kernel_rfl) (show (LoopOK (cx87 X n) 165 Tryz.f165.ntmps (loopNo Tryz.f165 0) (F.metric_look_tags.L2_slices_IndexFunc_api_Tag_api_Tag.li X n) ∧ True) ∧ True from ⟨⟨F.metric_look_tags.L2_slices_IndexFunc_api_Tag_api_Tag.ok X n, trivial⟩, trivial⟩)) (castP (by kernel_rfl) (show True from trivial)), trivial⟩ trivial
theorem ok87 (n : Nat) : FnOK Tryz.prog SW 87 [(.agg [.str, (.int .i64), (.sl (.agg [.bool, (.int .u64), (.int .i64)]) .unk), (.int .i64), (.sl (.agg [.str, .str]) .unk), (.int .i64)])] (.one .bool) (fun x => F.metric_look_tags n x.1) := fnOK_of WOf.st (cx87_ok _ n) (d := 8) (fun x => by kernel_rfl)
noncomputable def cx88 (X : Type) (n : Nat) : Cx X := mkCx tab.get [(88, Tryz.f88)] [(130, orcOf [(.int .i64), (.int .i64), (.int .i64)] (.one .bool) (fun x => F.metric_between n x.1 x.2.1 x.2.2.1))] [] [] [] []
theorem cx88_ok (X : Type) (n : Nat) : CxOK Tryz.prog SW (cx88 X n) := mkCx_ok mixed (tabOK tab_ok) ⟨⟨Tryz.func88, by decide⟩, trivial⟩ ⟨orcOf_ok (ok130 n), trivial⟩ ⟨okC_mk (fun _ => rfl) (by kernel_rfl) (castP (by kernel_rfl) (show True from trivial)) (castP (by kernel_rfl) (show True from trivial)), trivial⟩ trivial
theorem ok88 (n : Nat) : FnOK Tryz.prog SW 88 [(.agg [.str, (.int .i64), (.sl (.agg [.bool, (.int .u64), (.int .i64)]) .unk), (.int .i64), (.sl (.agg [.str, .str]) .unk), (.int .i64)])] (.one .bool) (fun x => F.metric_look_time n x.1) := fnOK_of WOf.st (cx88_ok _ n) (d := 8) (fun x => by kernel_rfl)
def F.metric_Check.L3.head : Shape := ⟨[(26, (.agg [(.fn 83 [(.agg [.str, (.int .i64), (.sl (.agg [.bool, (.int .u64), (.int .i64)]) .unk), (.int .i64), (.sl (.agg [.str, .str]) .unk), (.int .i64)])] []), (.int .i64), (.fn 84 [(.agg [.str, (.int .i64), (.sl (.agg [.bool, (.int .u64), (.int .i64)]) .unk), (.int .i64), (.sl (.agg [.str, .str]) .unk), (.int .i64)])] []), (.int .i64), (.fn 85 [(.agg [.str, (.int .i64), (.sl (.agg [.bool, (.int .u64), (.int .i64)]) .unk), (.int .i64), (.sl (.agg [.str, .str]) .unk), (.int .i64)])] []), (.int .i64), (.fn 86 [(.agg [.str, (.int .i64), (.sl (.agg [.bool, (.int .u64), (.int .i64)]) .unk), (.int .i64), (.sl (.agg [.str, .str]) .unk), (.int .i64)])] []), (.int .i64), (.fn 87 [(.agg [.str, (.int .i64), (.sl (.agg [.bool, (.int .u64), (.int .i64)]) .unk), (.int .i64), (.sl (.agg [.str, .str]) .unk), (.int .i64)])] []), (.int .i64), (.fn 88 [(.agg [.str, (.int .i64), (.sl (.agg [.bool, (.int .u64), (.int .i64)]) .unk), (.int .i64), (.sl (.agg [.str, .str]) .unk), (.int .i64)])] []), (.int .i64)])), (27, (.int .i64))], [[.str, (.int .i64), (.sl (.agg [.bool, (.int .u64), (.int .i64)]) .unk), (.int .i64), (.sl (.agg [.str, .str]) .unk), (.int .i64)], [.str, (.int .i64), (.sl (.agg [.bool, (.int .u64), (.int .i64)]) .unk), (.int .i64), (.sl (.agg [.str, .str]) .unk), (.int .i64)]], [], [], [], 2, 0, 0⟩
def F.metric_Check.L3.e0 : Shape := ⟨[], [[.str, (.int .i64), (.sl (.agg [.bool, (.int .u64), (.int .i64)]) .unk), (.int .i64), (.sl (.agg [.str, .str]) .unk), (.int .i64)], [.str, (.int .i64), (.sl (.agg [.bool, (.int .u64), (.int .i64)]) .unk), (.int .i64), (.sl (.agg [.str, .str]) .unk), (.int .i64)]], [], [], [], 2, 0, 0⟩
def F.metric_Check.L3.er : Shape := ⟨[(2, (.int .i64))], [[.str, (.int .i64), (.sl (.agg [.bool, (.int .u64), (.int .i64)]) .unk), (.int .i64), (.sl (.agg [.str, .str]) .unk), (.int .i64)], [.str, (.int .i64), (.sl (.agg [.bool, (.int .u64), (.int .i64)]) .unk), (.int .i64), (.sl (.agg [.str, .str]) .unk), (.int .i64)]], [], [], [], 2, 0, 0⟩
noncomputable def F.metric_Check.L3.f {X : Type} (n m : Nat) (ks : Ks X) (s : F.metric_Check.L3.head.den) : Option X := F.metric_Check.L3 n (fun qb0_0 qb0_1 qb0_2 qb0_3 qb0_4 qb0_5 qb1_0 qb1_1 qb1_2 qb1_3 qb1_4 qb1_5 => ks.ex 0 (F.metric_Check.L3.e0.e ((), ((qb0_0, qb0_1, qb0_2, qb0_3, qb0_4, qb0_5, ()), (qb1_0, qb1_1, qb1_2, qb1_3, qb1_4, qb1_5, ()), ()), (), ())) (F.metric_Check.L3.e0.h ((), ((qb0_0, qb0_1, qb0_2, qb0_3, qb0_4, qb0_5, ()), (qb1_0, qb1_1, qb1_2, qb1_3, qb1_4, qb1_5, ()), ()), (), ()))) (fun q2 qb0_0 qb0_1 qb0_2 qb0_3 qb0_4 qb0_5 qb1_0 qb1_1 qb1_2 qb1_3 qb1_4 qb1_5 => ks.ret (F.metric_Check.L3.er.e ((q2, ()), ((qb0_0, qb0_1, qb0_2, qb0_3, qb0_4, qb0_5, ()), (qb1_0, qb1_1, qb1_2, qb1_3, qb1_4, qb1_5, ()), ()), (), ())) (F.metric_Check.L3.er.h ((q2, ()), ((qb0_0, qb0_1, qb0_2, qb0_3, qb0_4, qb0_5, ()), (qb1_0, qb1_1, qb1_2, qb1_3, qb1_4, qb1_5, ()), ()), (), ()))) m s.1.1 s.1.2.1 s.2.1.1.1 s.2.1.1.2.1 s.2.1.1.2.2.1 s.2.1.1.2.2.2.1 s.2.1.1.2.2.2.2.1 s.2.1.1.2.2.2.2.2.1 s.2.1.2.1.1 s.2.1.2.1.2.1 s.2.1.2.1.2.2.1 s.2.1.2.1.2.2.2.1 s.2.1.2.1.2.2.2.2.1 s.2.1.2.1.2.2.2.2.2.1
noncomputable def F.metric_Check.L3.li (X : Type) (n : Nat) : LoopI X := ⟨8, ⟨0, 0, 0⟩, F.metric_Check.L3.head, [(0, F.metric_Check.L3.e0)], some F.metric_Check.L3.er, F.metric_Check.L3.f n n⟩
noncomputable def cx49 (X : Type) (n : Nat) : Cx X := mkCx tab.get [(49, Tryz.f49)] [(83, orcOf [(.agg [.str, (.int .i64), (.sl (.agg [.bool, (.int .u64), (.int .i64)]) .unk), (.int .i64), (.sl (.agg [.str, .str]) .unk), (.int .i64)])] (.one .bool) (fun x => F.metric_look_name n x.1)), (84, orcOf [(.agg [.str, (.int .i64), (.sl (.agg [.bool, (.int .u64), (.int .i64)]) .unk), (.int .i64), (.sl (.agg [.str, .str]) .unk), (.int .i64)])] (.one .bool) (fun x => F.metric_look_kind n x.1)), (85, orcOf [(.agg [.str, (.int .i64), (.sl (.agg [.bool, (.int .u64), (.int .i64)]) .unk), (.int .i64), (.sl (.agg [.str, .str]) .unk), (.int .i64)])] (.one .bool) (fun x => F.metric_look_values n x.1)), (86, orcOf [(.agg [.str, (.int .i64), (.sl (.agg [.bool, (.int .u64), (.int .i64)]) .unk), (.int .i64), (.sl (.agg [.str, .str]) .unk), (.int .i64)])] (.one .bool) (fun x => F.metric_look_rate n x.1)), (87, orcOf [(.agg [.str, (.int .i64), (.sl (.agg [.bool, (.int .u64), (.int .i64)]) .unk), (.int .i64), (.sl (.agg [.str, .str]) .unk), (.int .i64)])] (.one .bool) (fun x => F.metric_look_tags n x.1)), (88, orcOf [(.agg [.str, (.int .i64), (.sl (.agg [.bool, (.int .u64), (.int .i64)]) .unk), (.int .i64), (.sl (.agg [.str, .str]) .unk), (.int .i64)])] (.one .bool) (fun x => F.metric_look_time n x.1))] [(49, 3, [F.metric_Check.L3.li X n])] [] [] []
theorem F.metric_Check.L3.ok (X : Type) (n : Nat) : LoopOK (cx49 X n) 49 Tryz.f49.ntmps (loopNo Tryz.f49 0) (F.metric_Check.L3.li X n) :=
  ⟨F.metric_Check.L3.f n, n, fun _ _ => rfl, fun _ _ => rfl, fun m ks s => by kernel_rfl⟩
theorem cx49_ok (X : Type) (n : Nat) : CxOK Tryz.prog SW (cx49 X n) := mkCx_ok mixed (tabOK tab_ok) ⟨⟨Tryz.func49, by decide⟩, trivial⟩ ⟨orcOf_ok (ok83 n),
  orcOf_ok (ok84 n),
  orcOf_ok (ok85 n),
  orcOf_ok (ok86 n),
  orcOf_ok (ok87 n),
  orcOf_ok (ok88 n), trivial⟩ ⟨okC_mk (fun _ => rfl) (by kernel_rfl) (castP (by kernel_rfl) (show (LoopOK (cx49 X n) 49 Tryz.f49.ntmps (loopNo Tryz.f49 0) (F.metric_Check.L3.li X n) ∧ True) ∧ True from ⟨⟨F.metric_Check.L3.ok X n, trivial⟩, trivial⟩)) (castP (by kernel_rfl) (show True from trivial)), trivial⟩ trivial
theorem ok49 (n : Nat) : FnOK Tryz.prog SW 49 [(.agg [.str, (.int .i64), (.sl (.agg [.bool, (.int .u64), (.int .i64)]) .unk), (.int .i64), (.sl (.agg [.str, .str]) .unk), (.int .i64)])] (.one (.int .i64)) (fun x => F.metric_Check n x.1) := fnOK_of WOf.st (cx49_ok _ n) (d := 8) (fun x => by kernel_rfl)
noncomputable def cx94 (X : Type) (n : Nat) : Cx X := mkCx tab.get [(94, Tryz.f94)] [] [] [] [] []
theorem cx94_ok (X : Type) (n : Nat) : CxOK Tryz.prog SW (cx94 X n) := mkCx_ok mixed (tabOK tab_ok) ⟨⟨Tryz.func94, by decide⟩, trivial⟩ trivial ⟨okC_mk (fun _ => rfl) (by kernel_rfl) (castP (by kernel_rfl) (show True from trivial)) (castP (by kernel_rfl) (show True from trivial)), trivial⟩ trivial
theorem ok94 (n : Nat) : FnOK Tryz.prog SW 94 [(.sl (.agg [.str, .str]) .unk)] (.one (.sl (.agg [.str, .str]) .unk)) (fun x => F.slices_Clip_api_Tag_api_Tag n x.1) := fnOK_of WOf.st (cx94_ok _ n) (d := 8) (fun x => by kernel_rfl)
def F.tag_Normal.L5.head : Shape := ⟨[(3, (.ms 2 (.agg [.str, .str]))), (4, (.int .i64)), (11, (.ms 2 (.agg [.str, .str]))), (12, (.int .i64)), (13, (.int .i64))], [[(.row (.agg [.str, .str]))], [(.row (.agg [.str, .str]))], [(.row (.agg [.str, .str]))]], [], [], [], 3, 0, 0⟩
def F.tag_Normal.L5.e0 : Shape := ⟨[(3, (.ms 2 (.agg [.str, .str]))), (4, (.int .i64))], [[(.row (.agg [.str, .str]))], [(.row (.agg [.str, .str]))], [(.row (.agg [.str, .str]))]], [], [], [], 3, 0, 0⟩
noncomputable def F.tag_Normal.L5.f {X : Type} (n m : Nat) (ks : Ks X) (s : F.tag_Normal.L5.head.den) : Option X := F.tag_Normal.L5 n (fun q3 q4 qb0_0 qb1_0 qb2_0 => ks.ex 0 (F.tag_Normal.L5.e0.e ((q3, q4, ()), ((qb0_0, ()), (qb1_0, ()), (qb2_0, ()), ()), (), ())) (F.tag_Normal.L5.e0.h ((q3, q4, ()), ((qb0_0, ()), (qb1_0, ()), (qb2_0, ()), ()), (), ()))) m s.1.1 s.1.2.1 s.1.2.2.1 s.1.2.2.2.1 s.1.2.2.2.2.1 s.2.1.1.1 s.2.1.2.1.1 s.2.1.2.2.1.1
noncomputable def F.tag_Normal.L5.li (X : Type) (n : Nat) : LoopI X := ⟨8, ⟨0, 0, 0⟩, F.tag_Normal.L5.head, [(0, F.tag_Normal.L5.e0)], none, F.tag_Normal.L5.f n n⟩
noncomputable def cx50 (X : Type) (n : Nat) : Cx X := mkCx tab.get [(50, Tryz.f50), (89, Tryz.f89)] [(94, orcOf [(.sl (.agg [.str, .str]) .unk)] (.one (.sl (.agg [.str, .str]) .unk)) (fun x => F.slices_Clip_api_Tag_api_Tag n x.1))] [(50, 5, [F.tag_Normal.L5.li X n])] [] [] [] [] [(33, (.agg [.str, .str]))] [(90, .sort (.agg [.str, .str]) 91 sortTags)] none [89]
theorem F.tag_Normal.L5.ok (X : Type) (n : Nat) : LoopOK (cx50 X n) 50 Tryz.f50.ntmps (loopNo Tryz.f50 0) (F.tag_Normal.L5.li X n) :=
  ⟨F.tag_Normal.L5.f n, n, fun _ _ => rfl, fun _ _ => rfl, fun m ks s => by kernel_rfl⟩
theorem cx50_ok (X : Type) (n : Nat) : CxOK Tryz.prog SW (cx50 X n) := mkCx_ok mixed (tabOK tab_ok) ⟨⟨Tryz.func50, by decide⟩,
  ⟨Tryz.func89, by decide⟩, trivial⟩ ⟨orcOf_ok (ok94 n), trivial⟩ ⟨okC_mk (fun _ => rfl) (by kernel_rfl) (castP (by kernel_rfl) (show (LoopOK (cx50 X n) 50 Tryz.f50.ntmps (loopNo Tryz.f50 0) (F.tag_Normal.L5.li X n) ∧ True) ∧ True from ⟨⟨F.tag_Normal.L5.ok X n, trivial⟩, trivial⟩)) (castP (by kernel_rfl) (show True from trivial)),
  okC_mk (fun _ => rfl) (by kernel_rfl) (castP (by kernel_rfl) (show True from trivial)) (castP (by kernel_rfl) (show True from trivial)), trivial⟩ trivial ⟨sortTags_ok.mono (fun _ _ => trivial), trivial⟩
theorem ok50 (n : Nat) : FnOK Tryz.prog SW 50 [(.sl (.agg [.str, .str]) .unk)] (.one (.sl (.agg [.str, .str]) .unk)) (fun x => F.tag_Normal n x.1) := fnOK_of WOf.st (cx50_ok _ n) (d := 8) (fun x => by kernel_rfl)
def F.metric_Normal.L3.head : Shape := ⟨[(1, (.const (.ref 0 0))), (2, (.const (.ref 1 0))), (4, (.ms 3 (.agg [.bool, (.int .u64), (.int .i64)]))), (13, (.ms 3 (.agg [.bool, (.int .u64), (.int .i64)]))), (14, (.int .i64)), (15, (.int .i64))], [[.str, (.int .i64), (.sl (.agg [.bool, (.int .u64), (.int .i64)]) .unk), (.int .i64), (.sl (.agg [.str, .str]) .unk), (.int .i64)], [.str, (.int .i64), (.sl (.agg [.bool, (.int .u64), (.int .i64)]) (.own 0)), (.int .i64), (.sl (.agg [.str, .str]) (.own 1)), (.int .i64)], [(.row (.agg [.bool, (.int .u64), (.int .i64)]))], [(.row (.agg [.bool, (.int .u64), (.int .i64)]))]], [true, true], [], [], 4, 0, 0⟩
def F.metric_Normal.L3.e0 : Shape := ⟨[(1, (.const (.ref 0 0))), (2, (.const (.ref 1 0))), (4, (.ms 3 (.agg [.bool, (.int .u64), (.int .i64)])))], [[.str, (.int .i64), (.sl (.agg [.bool, (.int .u64), (.int .i64)]) .unk), (.int .i64), (.sl (.agg [.str, .str]) .unk), (.int .i64)], [.str, (.int .i64), (.sl (.agg [.bool, (.int .u64), (.int .i64)]) (.own 0)), (.int .i64), (.sl (.agg [.str, .str]) (.own 1)), (.int .i64)], [(.row (.agg [.bool, (.int .u64), (.int .i64)]))], [(.row (.agg [.bool, (.int .u64), (.int .i64)]))]], [true, true], [], [], 4, 0, 0⟩
noncomputable def F.metric_Normal.L3.f {X : Type} (n m : Nat) (ks : Ks X) (s : F.metric_Normal.L3.head.den) : Option X := F.metric_Normal.L3 n (fun q4 qb0_0 qb0_1 qb0_2 qb0_3 qb0_4 qb0_5 qb1_0 qb1_1 qb1_2 qb1_3 qb1_4 qb1_5 qb2_0 qb3_0 qk0 qk1 => ks.ex 0 (F.metric_Normal.L3.e0.e (((), (), q4, ()), ((qb0_0, qb0_1, qb0_2, qb0_3, qb0_4, qb0_5, ()), (qb1_0, qb1_1, qb1_2, qb1_3, qb1_4, qb1_5, ()), (qb2_0, ()), (qb3_0, ()), ()), (qk0, qk1, ()), ())) (F.metric_Normal.L3.e0.h (((), (), q4, ()), ((qb0_0, qb0_1, qb0_2, qb0_3, qb0_4, qb0_5, ()), (qb1_0, qb1_1, qb1_2, qb1_3, qb1_4, qb1_5, ()), (qb2_0, ()), (qb3_0, ()), ()), (qk0, qk1, ()), ()))) m s.1.2.2.1 s.1.2.2.2.1 s.1.2.2.2.2.1 s.1.2.2.2.2.2.1 s.2.1.1.1 s.2.1.1.2.1 s.2.1.1.2.2.1 s.2.1.1.2.2.2.1 s.2.1.1.2.2.2.2.1 s.2.1.1.2.2.2.2.2.1 s.2.1.2.1.1 s.2.1.2.1.2.1 s.2.1.2.1.2.2.1 s.2.1.2.1.2.2.2.1 s.2.1.2.1.2.2.2.2.1 s.2.1.2.1.2.2.2.2.2.1 s.2.1.2.2.1.1 s.2.1.2.2.2.1.1 s.2.2.1.1 s.2.2.1.2.1
noncomputable def F.metric_Normal.L3.li (X : Type) (n : Nat) : LoopI X := ⟨8, ⟨0, 0, 0⟩, F.metric_Normal.L3.head, [(0, F.metric_Normal.L3.e0)], none, F.metric_Normal.L3.f n n⟩
noncomputable def cx21 (X : Type) (n : Nat) : Cx X := mkCx tab.get [(21, Tryz.f21), (47, Tryz.f47)] [(48, orcOf [(.agg [.bool, (.int .u64), (.int .i64)])] (.many [(.agg [.bool, (.int .u64), (.int .i64)]), (.int .i64)]) (fun x => F.dec_Normal n x.1)), (49, orcOf [(.agg [.str, (.int .i64), (.sl (.agg [.bool, (.int .u64), (.int .i64)]) .unk), (.int .i64), (.sl (.agg [.str, .str]) .unk), (.int .i64)])] (.one (.int .i64)) (fun x => F.metric_Check n x.1)), (50, orcOf [(.sl (.agg [.str, .str]) .unk)] (.one (.sl (.agg [.str, .str]) .unk)) (fun x => F.tag_Normal n x.1))] [(21, 3, [F.metric_Normal.L3.li X n])] [] [] [] [] [(32, (.agg [.bool, (.int .u64), (.int .i64)]))] [] none [47]
theorem F.metric_Normal.L3.ok (X : Type) (n : Nat) : LoopOK (cx21 X n) 21 Tryz.f21.ntmps (loopNo Tryz.f21 0) (F.metric_Normal.L3.li X n) :=
  ⟨F.metric_Normal.L3.f n, n, fun _ _ => rfl, fun _ _ => rfl, fun m ks s => by kernel_rfl⟩
theorem cx21_ok (X : Type) (n : Nat) : CxOK Tryz.prog SW (cx21 X n) := mkCx_ok mixed (tabOK tab_ok) ⟨⟨Tryz.func21, by decide⟩,
  ⟨Tryz.func47, by decide⟩, trivial⟩ ⟨orcOf_ok (ok48 n),
  orcOf_ok (ok49 n),
  orcOf_ok (ok50 n), trivial⟩ ⟨okC_mk (fun _ => rfl) (by kernel_rfl) (castP (by kernel_rfl) (show (LoopOK (cx21 X n) 21 Tryz.f21.ntmps (loopNo Tryz.f21 0) (F.metric_Normal.L3.li X n) ∧ True) ∧ True from ⟨⟨F.metric_Normal.L3.ok X n, trivial⟩, trivial⟩)) (castP (by kernel_rfl) (show True from trivial)),
  okC_mk (fun _ => rfl) (by kernel_rfl) (castP (by kernel_rfl) (show True from trivial)) (castP (by kernel_rfl) (show True from trivial)), trivial⟩ trivial
theorem ok21 (n : Nat) : FnOK Tryz.prog SW 21 [(.agg [.str, (.int .i64), (.sl (.agg [.bool, (.int .u64), (.int .i64)]) .unk), (.int .i64), (.sl (.agg [.str, .str]) .unk), (.int .i64)])] (.many [(.agg [.str, (.int .i64), (.sl (.agg [.bool, (.int .u64), (.int .i64)]) .unk), (.int .i64), (.sl (.agg [.str, .str]) .unk), (.int .i64)]), (.int .i64)]) (fun x => F.metric_Normal n x.1) := fnOK_of WOf.st (cx21_ok _ n) (d := 8) (fun x => by kernel_rfl)
theorem ok56 (n : Nat) : FnOK Tryz.prog SW 56 [(.int .u64), (.int .i64)] (.one .str) (fun x => O.futoa n x.1 x.2.1) := futoa_ok (enters Tryz.func56 (by kernel_rfl) (by decide)) (fun k hk w hw => (Tryz.strconv_FormatUint_10 k hk w (swTab hw)).mono fun e w' ⟨a, q, os, b⟩ => ⟨a, b ▸ below_grow q os⟩) n
theorem ok57 (n : Nat) : FnOK Tryz.prog SW 57 [.str, (.int .i64)] (.one .str) (fun x => O.repeat' n x.1 x.2.1) := repeat_ok (enters Tryz.func57 (by kernel_rfl) (by decide)) Tryz.strings_Repeat n
noncomputable def cx28 (X : Type) (n : Nat) : Cx X := mkCx tab.get [(28, Tryz.f28)] [(55, orcOf [(.agg [.bool, (.int .u64), (.int .i64)])] (.one (.int .i64)) (fun x => F.dec_Check n x.1)), (56, orcOf [(.int .u64), (.int .i64)] (.one .str) (fun x => O.futoa n x.1 x.2.1)), (57, orcOf [.str, (.int .i64)] (.one .str) (fun x => O.repeat' n x.1 x.2.1))] [] [] [] []
theorem cx28_ok (X : Type) (n : Nat) : CxOK Tryz.prog SW (cx28 X n) := mkCx_ok mixed (tabOK tab_ok) ⟨⟨Tryz.func28, by decide⟩, trivial⟩ ⟨orcOf_ok (ok55 n),
  orcOf_ok (ok56 n),
  orcOf_ok (ok57 n), trivial⟩ ⟨okC_mk (fun _ => rfl) (by kernel_rfl) (castP (by kernel_rfl) (show True from trivial)) (castP (by kernel_rfl) (show True from trivial)), trivial⟩ trivial
theorem ok28 (n : Nat) : FnOK Tryz.prog SW 28 [(.agg [.bool, (.int .u64), (.int .i64)])] (.many [.str, (.int .i64)]) (fun x => F.dec_Text n x.1) := fnOK_of WOf.st (cx28_ok _ n) (d := 8) (fun x => by kernel_rfl)
theorem ok58 (n : Nat) : FnOK Tryz.prog SW 58 [(.int .i64)] (.one .str) (fun x => O.itoa n x.1) := itoa_ok (enters Tryz.func58 (by kernel_rfl) (by decide)) (fun k h0 h1 w hw => (Tryz.strconv_Itoa k h0 h1 w (swTab hw)).mono fun e w' ⟨a, q, os, b⟩ => ⟨a, b ▸ below_grow q os⟩) n
theorem ok59 (n : Nat) : FnOK Tryz.prog SW 59 [.str, .str] (.one .str) (fun x => O.trimR n x.1 x.2.1) := trimR_ok (enters Tryz.func59 (by kernel_rfl) (by decide)) Tryz.strings_TrimRight_one n
noncomputable def cx29 (X : Type) (n : Nat) : Cx X := mkCx tab.get [(29, Tryz.f29)] [(58, orcOf [(.int .i64)] (.one .str) (fun x => O.itoa n x.1)), (59, orcOf [.str, .str] (.one .str) (fun x => O.trimR n x.1 x.2.1))] [] [] [] []
theorem cx29_ok (X : Type) (n : Nat) : CxOK Tryz.prog SW (cx29 X n) := mkCx_ok mixed (tabOK tab_ok) ⟨⟨Tryz.func29, by decide⟩, trivial⟩ ⟨orcOf_ok (ok58 n),
  orcOf_ok (ok59 n), trivial⟩ ⟨okC_mk (fun _ => rfl) (by kernel_rfl) (castP (by kernel_rfl) (show True from trivial)) (castP (by kernel_rfl) (show True from trivial)), trivial⟩ trivial
theorem ok29 (n : Nat) : FnOK Tryz.prog SW 29 [(.int .i64)] (.many [.str, (.int .i64)]) (fun x => F.num_RateText n x.1) := fnOK_of WOf.st (cx29_ok _ n) (d := 8) (fun x => by kernel_rfl)
theorem ok61 (n : Nat) : FnOK Tryz.prog SW 61 [(.sl .str .unk), .str] (.one .str) (fun x => O.join n x.1 x.2.1) := join_ok (enters Tryz.func61 (by kernel_rfl) (by decide)) Tryz.strings_Join_none Tryz.strings_Join n
def F.tag_Text.L3.head : Shape := ⟨[(5, (.sl .str (.own 0))), (10, (.sl (.agg [.str, .str]) .unk)), (11, (.int .i64)), (12, (.int .i64))], [], [true], [], [], 0, 0, 0⟩
def F.tag_Text.L3.e0 : Shape := ⟨[(5, (.sl .str (.own 0)))], [], [true], [], [], 0, 0, 0⟩
def F.tag_Text.L3.er : Shape := ⟨[(2, .str), (3, (.int .i64)), (4, (.int .i64))], [], [], [], [], 0, 0, 0⟩
noncomputable def F.tag_Text.L3.f {X : Type} (n m : Nat) (ks : Ks X) (s : F.tag_Text.L3.head.den) : Option X := F.tag_Text.L3 n (fun q5 qk0 => ks.ex 0 (F.tag_Text.L3.e0.e ((q5, ()), (), (qk0, ()), ())) (F.tag_Text.L3.e0.h ((q5, ()), (), (qk0, ()), ()))) (fun q2 q3 q4 => ks.ret (F.tag_Text.L3.er.e ((q2, q3, q4, ()), (), (), ())) (F.tag_Text.L3.er.h ((q2, q3, q4, ()), (), (), ()))) m s.1.1 s.1.2.1 s.1.2.2.1 s.1.2.2.2.1 s.2.2.1.1
noncomputable def F.tag_Text.L3.li (X : Type) (n : Nat) : LoopI X := ⟨8, ⟨0, 0, 0⟩, F.tag_Text.L3.head, [(0, F.tag_Text.L3.e0)], some F.tag_Text.L3.er, F.tag_Text.L3.f n n⟩
noncomputable def cx30 (X : Type) (n : Nat) : Cx X := mkCx tab.get [(30, Tryz.f30)] [(60, orcOf [(.agg [.str, .str])] (.one (.int .i64)) (fun x => F.tag_Check n x.1)), (61, orcOf [(.sl .str .unk), .str] (.one .str) (fun x => O.join n x.1 x.2.1))] [(30, 3, [F.tag_Text.L3.li X n])] [] [] []
theorem F.tag_Text.L3.ok (X : Type) (n : Nat) : LoopOK (cx30 X n) 30 Tryz.f30.ntmps (loopNo Tryz.f30 0) (F.tag_Text.L3.li X n) :=
  ⟨F.tag_Text.L3.f n, n, fun _ _ => rfl, fun _ _ => rfl, fun m ks s => by kernel_rfl⟩
theorem cx30_ok (X : Type) (n : Nat) : CxOK Tryz.prog SW (cx30 X n) := mkCx_ok mixed (tabOK tab_ok) ⟨⟨Tryz.func30, by decide⟩, trivial⟩ ⟨orcOf_ok (ok60 n),
  orcOf_ok (ok61 n), trivial⟩ ⟨okC_mk (fun _ => rfl) (by kernel_rfl) (castP (by kernel_rfl) (show (LoopOK (cx30 X n) 30 Tryz.f30.ntmps (loopNo Tryz.f30 0) (F.tag_Text.L3.li X n) ∧ True) ∧ True from ⟨⟨F.tag_Text.L3.ok X n, trivial⟩, trivial⟩)) (castP (by kernel_rfl) (show True from trivial)), trivial⟩ trivial
theorem ok30 (n : Nat) : FnOK Tryz.prog SW 30 [(.sl (.agg [.str, .str]) .unk)] (.many [.str, (.int .i64), (.int .i64)]) (fun x => F.tag_Text n x.1) := fnOK_of WOf.st (cx30_ok _ n) (d := 8) (fun x => by kernel_rfl)
noncomputable def cx31 (X : Type) (n : Nat) : Cx X := mkCx tab.get [(31, Tryz.f31)] [(58, orcOf [(.int .i64)] (.one .str) (fun x => O.itoa n x.1))] [] [] [] []
theorem cx31_ok (X : Type) (n : Nat) : CxOK Tryz.prog SW (cx31 X n) := mkCx_ok mixed (tabOK tab_ok) ⟨⟨Tryz.func31, by decide⟩, trivial⟩ ⟨orcOf_ok (ok58 n), trivial⟩ ⟨okC_mk (fun _ => rfl) (by kernel_rfl) (castP (by kernel_rfl) (show True from trivial)) (castP (by kernel_rfl) (show True from trivial)), trivial⟩ trivial
theorem ok31 (n : Nat) : FnOK Tryz.prog SW 31 [(.int .i64)] (.many [.str, (.int .i64)]) (fun x => F.num_Text n x.1) := fnOK_of WOf.st (cx31_ok _ n) (d := 8) (fun x => by kernel_rfl)
def F.dog_Line.L9.head : Shape := ⟨[(1, (.const (.ref 0 0))), (5, (.const (.ref 2 0))), (6, (.const (.ref 3 0))), (7, (.const (.fn 26 [] [(.ref 3 0), (.ref 2 0)]))), (34, (.sl (.agg [.bool, (.int .u64), (.int .i64)]) .unk)), (35, (.int .i64)), (36, (.int .i64))], [[.str, (.int .i64), (.sl (.agg [.bool, (.int .u64), (.int .i64)]) .unk), (.int .i64), (.sl (.agg [.str, .str]) .unk), (.int .i64)], [(.row (.u8t 5))], [(.const (.bcell 2 59)), (.ms 1 (.u8t 5))], [(.int .i64)]], [], [], [], 4, 0, 0⟩
def F.dog_Line.L9.e0 : Shape := ⟨[(1, (.const (.ref 0 0))), (5, (.const (.ref 2 0))), (6, (.const (.ref 3 0))), (7, (.const (.fn 26 [] [(.ref 3 0), (.ref 2 0)])))], [[.str, (.int .i64), (.sl (.agg [.bool, (.int .u64), (.int .i64)]) .unk), (.int .i64), (.sl (.agg [.str, .str]) .unk), (.int .i64)], [(.row (.u8t 5))], [(.const (.bcell 2 59)), (.ms 1 (.u8t 5))], [(.int .i64)]], [], [], [], 4, 0, 0⟩
noncomputable def F.dog_Line.L9.f {X : Type} (n m : Nat) (ks : Ks X) (s : F.dog_Line.L9.head.den) : Option X := F.dog_Line.L9 n (fun qb0_0 qb0_1 qb0_2 qb0_3 qb0_4 qb0_5 qb1_0 qb2_1 qb3_0 => ks.ex 0 (F.dog_Line.L9.e0.e (((), (), (), (), ()), ((qb0_0, qb0_1, qb0_2, qb0_3, qb0_4, qb0_5, ()), (qb1_0, ()), ((), qb2_1, ()), (qb3_0, ()), ()), (), ())) (F.dog_Line.L9.e0.h (((), (), (), (), ()), ((qb0_0, qb0_1, qb0_2, qb0_3, qb0_4, qb0_5, ()), (qb1_0, ()), ((), qb2_1, ()), (qb3_0, ()), ()), (), ()))) m s.1.2.2.2.2.1 s.1.2.2.2.2.2.1 s.1.2.2.2.2.2.2.1 s.2.1.1.1 s.2.1.1.2.1 s.2.1.1.2.2.1 s.2.1.1.2.2.2.1 s.2.1.1.2.2.2.2.1 s.2.1.1.2.2.2.2.2.1 s.2.1.2.1.1 s.2.1.2.2.1.2.1 s.2.1.2.2.2.1.1
noncomputable def F.dog_Line.L9.li (X : Type) (n : Nat) : LoopI X := ⟨8, ⟨0, 0, 0⟩, F.dog_Line.L9.head, [(0, F.dog_Line.L9.e0)], none, F.dog_Line.L9.f n n⟩
def F.dog_Line.C25.head : Shape := ⟨[(5, (.const (.ref 2 0))), (6, (.const (.ref 3 0)))], [[.str, (.int .i64), (.sl (.agg [.bool, (.int .u64), (.int .i64)]) .unk), (.int .i64), (.sl (.agg [.str, .str]) .unk), (.int .i64)], [(.row (.u8t 5))], [(.const (.bcell 2 59)), (.ms 1 (.u8t 5))], [(.int .i64)]], [], [], [], 4, 0, 0⟩
def F.dog_Line.C25.er : Shape := ⟨[(2, .str), (3, (.int .i64))], [], [], [], [], 0, 0, 0⟩
noncomputable def F.dog_Line.C25.f {X : Type} (n : Nat) (ks : Ks X) (s : F.dog_Line.C25.head.den) : Option X := F.dog_Line.C25 n (fun q2 q3 => ks.ret (F.dog_Line.C25.er.e ((q2, q3, ()), (), (), ())) (F.dog_Line.C25.er.h ((q2, q3, ()), (), (), ()))) s.2.1.1.1 s.2.1.1.2.1 s.2.1.1.2.2.1 s.2.1.1.2.2.2.1 s.2.1.1.2.2.2.2.1 s.2.1.1.2.2.2.2.2.1 s.2.1.2.1.1 s.2.1.2.2.1.2.1 s.2.1.2.2.2.1.1
noncomputable def F.dog_Line.C25.ci (X : Type) (n : Nat) : CutI X := ⟨8, ⟨0, 0, 0⟩, F.dog_Line.C25.head, none, [], some F.dog_Line.C25.er, F.dog_Line.C25.f n⟩
def F.dog_Line.C22.head : Shape := ⟨[(1, (.const (.ref 0 0))), (5, (.const (.ref 2 0))), (6, (.const (.ref 3 0))), (7, (.const (.fn 26 [] [(.ref 3 0), (.ref 2 0)])))], [[.str, (.int .i64), (.sl (.agg [.bool, (.int .u64), (.int .i64)]) .unk), (.int .i64), (.sl (.agg [.str, .str]) .unk), (.int .i64)], [(.row (.u8t 5))], [(.const (.bcell 2 59)), (.ms 1 (.u8t 5))], [(.int .i64)]], [], [], [], 4, 0, 0⟩
def F.dog_Line.C22.er : Shape := ⟨[(2, .str), (3, (.int .i64))], [], [], [], [], 0, 0, 0⟩
noncomputable def F.dog_Line.C22.f {X : Type} (n : Nat) (ks : Ks X) (s : F.dog_Line.C22.head.den) : Option X := F.dog_Line.C22 n (fun q2 q3 => ks.ret (F.dog_Line.C22.er.e ((q2, q3, ()), (), (), ())) (F.dog_Line.C22.er.h ((q2, q3, ()), (), (), ()))) s.2.1.1.1 s.2.1.1.2.1 s.2.1.1.2.2.1 s.2.1.1.2.2.2.1 s.2.1.1.2.2.2.2.1 s.2.1.1.2.2.2.2.2.1 s.2.1.2.1.1 s.2.1.2.2.1.2.1 s.2.1.2.2.2.1.1
noncomputable def F.dog_Line.C22.ci (X : Type) (n : Nat) : CutI X := ⟨8, ⟨0, 0, 0⟩, F.dog_Line.C22.head, none, [], some F.dog_Line.C22.er, F.dog_Line.C22.f n⟩
def F.dog_Line.C19.head : Shape := ⟨[(1, (.const (.ref 0 0))), (5, (.const (.ref 2 0))), (6, (.const (.ref 3 0))), (7, (.const (.fn 26 [] [(.ref 3 0), (.ref 2 0)])))], [[.str, (.int .i64), (.sl (.agg [.bool, (.int .u64), (.int .i64)]) .unk), (.int .i64), (.sl (.agg [.str, .str]) .unk), (.int .i64)], [(.row (.u8t 5))], [(.const (.bcell 2 59)), (.ms 1 (.u8t 5))], [(.int .i64)]], [], [], [], 4, 0, 0⟩
def F.dog_Line.C19.er : Shape := ⟨[(2, .str), (3, (.int .i64))], [], [], [], [], 0, 0, 0⟩
noncomputable def F.dog_Line.C19.f {X : Type} (n : Nat) (ks : Ks X) (s : F.dog_Line.C19.head.den) : Option X := F.dog_Line.C19 n (fun q2 q3 => ks.ret (F.dog_Line.C19.er.e ((q2, q3, ()), (), (), ())) (F.dog_Line.C19.er.h ((q2, q3, ()), (), (), ()))) s.2.1.1.1 s.2.1.1.2.1 s.2.1.1.2.2.1 s.2.1.1.2.2.2.1 s.2.1.1.2.2.2.2.1 s.2.1.1.2.2.2.2.2.1 s.2.1.2.1.1 s.2.1.2.2.1.2.1 s.2.1.2.2.2.1.1
noncomputable def F.dog_Line.C19.ci (X : Type) (n : Nat) : CutI X := ⟨8, ⟨0, 0, 0⟩, F.dog_Line.C19.head, none, [], some F.dog_Line.C19.er, F.dog_Line.C19.f n⟩
def F.dog_Line.C16.head : Shape := ⟨[(1, (.const (.ref 0 0))), (5, (.const (.ref 2 0))), (6, (.const (.ref 3 0))), (7, (.const (.fn 26 [] [(.ref 3 0), (.ref 2 0)])))], [[.str, (.int .i64), (.sl (.agg [.bool, (.int .u64), (.int .i64)]) .unk), (.int .i64), (.sl (.agg [.str, .str]) .unk), (.int .i64)], [(.row (.u8t 5))], [(.const (.bcell 2 59)), (.ms 1 (.u8t 5))], [(.int .i64)]], [], [], [], 4, 0, 0⟩
def F.dog_Line.C16.er : Shape := ⟨[(2, .str), (3, (.int .i64))], [], [], [], [], 0, 0, 0⟩
noncomputable def F.dog_Line.C16.f {X : Type} (n : Nat) (ks : Ks X) (s : F.dog_Line.C16.head.den) : Option X := F.dog_Line.C16 n (fun q2 q3 => ks.ret (F.dog_Line.C16.er.e ((q2, q3, ()), (), (), ())) (F.dog_Line.C16.er.h ((q2, q3, ()), (), (), ()))) s.2.1.1.1 s.2.1.1.2.1 s.2.1.1.2.2.1 s.2.1.1.2.2.2.1 s.2.1.1.2.2.2.2.1 s.2.1.1.2.2.2.2.2.1 s.2.1.2.1.1 s.2.1.2.2.1.2.1 s.2.1.2.2.2.1.1
noncomputable def F.dog_Line.C16.ci (X : Type) (n : Nat) : CutI X := ⟨8, ⟨0, 0, 0⟩, F.dog_Line.C16.head, none, [], some F.dog_Line.C16.er, F.dog_Line.C16.f n⟩
noncomputable def cx15 (X : Type) (n : Nat) : Cx X := mkCx tab.get [(15, Tryz.f15), (26, Tryz.f26), (27, Tryz.f27)] [(10, orcOf [(.int .i64)] (.many [.str, (.int .i64)]) (fun x => F.dog_Word n x.1)), (21, orcOf [(.agg [.str, (.int .i64), (.sl (.agg [.bool, (.int .u64), (.int .i64)]) .unk), (.int .i64), (.sl (.agg [.str, .str]) .unk), (.int .i64)])] (.many [(.agg [.str, (.int .i64), (.sl (.agg [.bool, (.int .u64), (.int .i64)]) .unk), (.int .i64), (.sl (.agg [.str, .str]) .unk), (.int .i64)]), (.int .i64)]) (fun x => F.metric_Normal n x.1)), (28, orcOf [(.agg [.bool, (.int .u64), (.int .i64)])] (.many [.str, (.int .i64)]) (fun x => F.dec_Text n x.1)), (29, orcOf [(.int .i64)] (.many [.str, (.int .i64)]) (fun x => F.num_RateText n x.1)), (30, orcOf [(.sl (.agg [.str, .str]) .unk)] (.many [.str, (.int .i64), (.int .i64)]) (fun x => F.tag_Text n x.1)), (31, orcOf [(.int .i64)] (.many [.str, (.int .i64)]) (fun x => F.num_Text n x.1))] [(15, 9, [F.dog_Line.L9.li X n])] [] [] [] [(15, 16, [F.dog_Line.C16.ci X n]), (15, 19, [F.dog_Line.C19.ci X n]), (15, 22, [F.dog_Line.C22.ci X n]), (15, 25, [F.dog_Line.C25.ci X n])] [] [(32, .bstring 59 5), (54, .bcheck 59)] (some (59, 5)) []
theorem F.dog_Line.C25.ok (X : Type) (n : Nat) : CutOK (cx15 X n) 15 Tryz.f15.ntmps (cutNo Tryz.f15 24) (F.dog_Line.C25.ci X n) :=
  fun ks s => by kernel_rfl
theorem F.dog_Line.C22.ok (X : Type) (n : Nat) : CutOK (cx15 X n) 15 Tryz.f15.ntmps (cutNo Tryz.f15 21) (F.dog_Line.C22.ci X n) :=
  fun ks s => by kernel_rfl
theorem F.dog_Line.C19.ok (X : Type) (n : Nat) : CutOK (cx15 X n) 15 Tryz.f15.ntmps (cutNo Tryz.f15 18) (F.dog_Line.C19.ci X n) :=
  fun ks s => by kernel_rfl
theorem F.dog_Line.C16.ok (X : Type) (n : Nat) : CutOK (cx15 X n) 15 Tryz.f15.ntmps (cutNo Tryz.f15 17) (F.dog_Line.C16.ci X n) :=
  fun ks s => by kernel_rfl
theorem F.dog_Line.L9.ok (X : Type) (n : Nat) : LoopOK (cx15 X n) 15 Tryz.f15.ntmps (loopNo Tryz.f15 0) (F.dog_Line.L9.li X n) :=
  ⟨F.dog_Line.L9.f n, n, fun _ _ => rfl, fun _ _ => rfl, fun m ks s => by kernel_rfl⟩
theorem cx15_ok (X : Type) (n : Nat) : CxOK Tryz.prog SW (cx15 X n) := mkCx_ok mixed (tabOK tab_ok) ⟨⟨Tryz.func15, by decide⟩,
  ⟨Tryz.func26, by decide⟩,
  ⟨Tryz.func27, by decide⟩, trivial⟩ ⟨orcOf_ok (ok10 n),
  orcOf_ok (ok21 n),
  orcOf_ok (ok28 n),
  orcOf_ok (ok29 n),
  orcOf_ok (ok30 n),
  orcOf_ok (ok31 n), trivial⟩ ⟨okC_mkc (castP (by kernel_rfl) (show (True) ∧ (True) ∧ (True) ∧ (True) ∧ (True) ∧ (True) ∧ (True) ∧ (True) ∧ (True) ∧ (True) ∧ (True) ∧ (True) ∧ (True) ∧ (True) ∧ (True) ∧ (True) ∧ (True) ∧ (CutOK (cx15 X n) 15 Tryz.f15.ntmps (cutNo Tryz.f15 17) (F.dog_Line.C16.ci X n) ∧ True) ∧ (CutOK (cx15 X n) 15 Tryz.f15.ntmps (cutNo Tryz.f15 18) (F.dog_Line.C19.ci X n) ∧ True) ∧ (True) ∧ (True) ∧ (CutOK (cx15 X n) 15 Tryz.f15.ntmps (cutNo Tryz.f15 21) (F.dog_Line.C22.ci X n) ∧ True) ∧ (True) ∧ (True) ∧ (CutOK (cx15 X n) 15 Tryz.f15.ntmps (cutNo Tryz.f15 24) (F.dog_Line.C25.ci X n) ∧ True) ∧ (True) ∧ (True) ∧ (True) ∧ (True) ∧ (True) ∧ (True) ∧ True from ⟨trivial, trivial, trivial, trivial, trivial, trivial, trivial, trivial, trivial, trivial, trivial, trivial, trivial, trivial, trivial, trivial, trivial, ⟨F.dog_Line.C16.ok X n, trivial⟩, ⟨F.dog_Line.C19.ok X n, trivial⟩, trivial, trivial, ⟨F.dog_Line.C22.ok X n, trivial⟩, trivial, trivial, ⟨F.dog_Line.C25.ok X n, trivial⟩, trivial, trivial, trivial, trivial, trivial, trivial, trivial⟩)) (by kernel_rfl) (castP (by kernel_rfl) (show (LoopOK (cx15 X n) 15 Tryz.f15.ntmps (loopNo Tryz.f15 0) (F.dog_Line.L9.li X n) ∧ True) ∧ True from ⟨⟨F.dog_Line.L9.ok X n, trivial⟩, trivial⟩)) (castP (by kernel_rfl) (show True from trivial)),
  okC_mk (fun _ => rfl) (by kernel_rfl) (castP (by kernel_rfl) (show True from trivial)) (castP (by kernel_rfl) (show True from trivial)),
  okC_mk (fun _ => rfl) (by kernel_rfl) (castP (by kernel_rfl) (show True from trivial)) (castP (by kernel_rfl) (show True from trivial)), trivial⟩ trivial ⟨bString_ok.mono (fun _ _ => trivial),
  copyCheck_ok.mono (fun _ _ => trivial), trivial⟩
theorem ok15 (n : Nat) : FnOK Tryz.prog SW 15 [(.agg [.str, (.int .i64), (.sl (.agg [.bool, (.int .u64), (.int .i64)]) .unk), (.int .i64), (.sl (.agg [.str, .str]) .unk), (.int .i64)])] (.many [.str, (.int .i64)]) (fun x => F.dog_Line n x.1) := fnOK_of WOf.st (cx15_ok _ n) (d := 8) (fun x => by kernel_rfl)
def F.dog_Kind.L2.head : Shape := ⟨[(0, .str), (6, (.agg [.str, .str, .str, .str, .str, .str])), (7, (.int .i64))], [], [], [], [], 0, 0, 0⟩
def F.dog_Kind.L2.e0 : Shape := ⟨[], [], [], [], [], 0, 0, 0⟩
def F.dog_Kind.L2.er : Shape := ⟨[(2, (.int .i64)), (3, (.int .i64))], [], [], [], [], 0, 0, 0⟩
noncomputable def F.dog_Kind.L2.f {X : Type} (n m : Nat) (ks : Ks X) (s : F.dog_Kind.L2.head.den) : Option X := F.dog_Kind.L2 n (fun (_ : Unit) => ks.ex 0 (F.dog_Kind.L2.e0.e ((), (), (), ())) (F.dog_Kind.L2.e0.h ((), (), (), ()))) (fun q2 q3 => ks.ret (F.dog_Kind.L2.er.e ((q2, q3, ()), (), (), ())) (F.dog_Kind.L2.er.h ((q2, q3, ()), (), (), ()))) m s.1.1 s.1.2.1 s.1.2.2.1
noncomputable def F.dog_Kind.L2.li (X : Type) (n : Nat) : LoopI X := ⟨8, ⟨0, 0, 0⟩, F.dog_Kind.L2.head, [(0, F.dog_Kind.L2.e0)], some F.dog_Kind.L2.er, F.dog_Kind.L2.f n n⟩
noncomputable def cx11 (X : Type) (n : Nat) : Cx X := mkCx tab.get [(11, Tryz.f11)] [(25, orcOf [] (.one (.agg [.str, .str, .str, .str, .str, .str])) (fun x => F.dog_words n ))] [(11, 2, [F.dog_Kind.L2.li X n])] [] [] []
theorem F.dog_Kind.L2.ok (X : Type) (n : Nat) : LoopOK (cx11 X n) 11 Tryz.f11.ntmps (loopNo Tryz.f11 0) (F.dog_Kind.L2.li X n) :=
  ⟨F.dog_Kind.L2.f n, n, fun _ _ => rfl, fun _ _ => rfl, fun m ks s => by kernel_rfl⟩
theorem cx11_ok (X : Type) (n : Nat) : CxOK Tryz.prog SW (cx11 X n) := mkCx_ok mixed (tabOK tab_ok) ⟨⟨Tryz.func11, by decide⟩, trivial⟩ ⟨orcOf_ok (ok25 n), trivial⟩ ⟨okC_mk (fun _ => rfl) (by kernel_rfl) (castP (by kernel_rfl) (show (LoopOK (cx11 X n) 11 Tryz.f11.ntmps (loopNo Tryz.f11 0) (F.dog_Kind.L2.li X n) ∧ True) ∧ True from ⟨⟨F.dog_Kind.L2.ok X n, trivial⟩, trivial⟩)) (castP (by kernel_rfl) (show True from trivial)), trivial⟩ trivial
theorem ok11 (n : Nat) : FnOK Tryz.prog SW 11 [.str] (.many [(.int .i64), (.int .i64)]) (fun x => F.dog_Kind n x.1) := fnOK_of WOf.st (cx11_ok _ n) (d := 8) (fun x => by kernel_rfl)
theorem ok40 (n : Nat) : FnOK Tryz.prog SW 40 [.str, .str] (.one (.sl .str .unk)) (fun x => O.split1 n x.1 x.2.1) := split1_ok (enters Tryz.func40 (by kernel_rfl) (by decide)) Tryz.strings_Split_one n
theorem ok153 (n : Nat) : FnOK Tryz.prog SW 153 [.str, .str] (.one (.int .i64)) (fun x => O.index1 n x.1 x.2.1) := index1_ok (enters Tryz.func153 (by kernel_rfl) (by decide)) Tryz.stringslite_Index_one n
noncomputable def cx116 (X : Type) (n : Nat) : Cx X := mkCx tab.get [(116, Tryz.f116)] [(153, orcOf [.str, .str] (.one (.int .i64)) (fun x => O.index1 n x.1 x.2.1))] [] [] [] []
theorem cx116_ok (X : Type) (n : Nat) : CxOK Tryz.prog SW (cx116 X n) := mkCx_ok mixed (tabOK tab_ok) ⟨⟨Tryz.func116, by decide⟩, trivial⟩ ⟨orcOf_ok (ok153 n), trivial⟩ ⟨okC_mk (fun _ => rfl) (by kernel_rfl) (castP (by kernel_rfl) (show True from trivial)) (castP (by kernel_rfl) (show True from trivial)), trivial⟩ trivial
theorem ok116 (n : Nat) : FnOK Tryz.prog SW 116 [.str, .str] (.many [.str, .str, .bool]) (fun x => F.stringslite_Cut n x.1 x.2.1) := fnOK_of WOf.st (cx116_ok _ n) (d := 8) (fun x => by kernel_rfl)
noncomputable def cx70 (X : Type) (n : Nat) : Cx X := mkCx tab.get [(70, Tryz.f70)] [(116, orcOf [.str, .str] (.many [.str, .str, .bool]) (fun x => F.stringslite_Cut n x.1 x.2.1))] [] [] [] []
theorem cx70_ok (X : Type) (n : Nat) : CxOK Tryz.prog SW (cx70 X n) := mkCx_ok mixed (tabOK tab_ok) ⟨⟨Tryz.func70, by decide⟩, trivial⟩ ⟨orcOf_ok (ok116 n), trivial⟩ ⟨okC_mk (fun _ => rfl) (by kernel_rfl) (castP (by kernel_rfl) (show True from trivial)) (castP (by kernel_rfl) (show True from trivial)), trivial⟩ trivial
theorem ok70 (n : Nat) : FnOK Tryz.prog SW 70 [.str, .str] (.many [.str, .str, .bool]) (fun x => F.strings_Cut n x.1 x.2.1) := fnOK_of WOf.st (cx70_ok _ n) (d := 8) (fun x => by kernel_rfl)
noncomputable def cx143 (X : Type) (n : Nat) : Cx X := mkCx tab.get [(143, Tryz.f143)] [] [] [] [] []
theorem cx143_ok (X : Type) (n : Nat) : CxOK Tryz.prog SW (cx143 X n) := mkCx_ok mixed (tabOK tab_ok) ⟨⟨Tryz.func143, by decide⟩, trivial⟩ trivial ⟨okC_mk (fun _ => rfl) (by kernel_rfl) (castP (by kernel_rfl) (show True from trivial)) (castP (by kernel_rfl) (show True from trivial)), trivial⟩ trivial
theorem ok143 (n : Nat) : FnOK Tryz.prog SW 143 [.str, .str] (.one .bool) (fun x => F.stringslite_HasPrefix n x.1 x.2.1) := fnOK_of WOf.st (cx143_ok _ n) (d := 8) (fun x => by kernel_rfl)
noncomputable def cx123 (X : Type) (n : Nat) : Cx X := mkCx tab.get [(123, Tryz.f123)] [(143, orcOf [.str, .str] (.one .bool) (fun x => F.stringslite_HasPrefix n x.1 x.2.1))] [] [] [] []
theorem cx123_ok (X : Type) (n : Nat) : CxOK Tryz.prog SW (cx123 X n) := mkCx_ok mixed (tabOK tab_ok) ⟨⟨Tryz.func123, by decide⟩, trivial⟩ ⟨orcOf_ok (ok143 n), trivial⟩ ⟨okC_mk (fun _ => rfl) (by kernel_rfl) (castP (by kernel_rfl) (show True from trivial)) (castP (by kernel_rfl) (show True from trivial)), trivial⟩ trivial
theorem ok123 (n : Nat) : FnOK Tryz.prog SW 123 [.str, .str] (.many [.str, .bool]) (fun x => F.stringslite_CutPrefix n x.1 x.2.1) := fnOK_of WOf.st (cx123_ok _ n) (d := 8) (fun x => by kernel_rfl)
noncomputable def cx77 (X : Type) (n : Nat) : Cx X := mkCx tab.get [(77, Tryz.f77)] [(123, orcOf [.str, .str] (.many [.str, .bool]) (fun x => F.stringslite_CutPrefix n x.1 x.2.1))] [] [] [] []
theorem cx77_ok (X : Type) (n : Nat) : CxOK Tryz.prog SW (cx77 X n) := mkCx_ok mixed (tabOK tab_ok) ⟨⟨Tryz.func77, by decide⟩, trivial⟩ ⟨orcOf_ok (ok123 n), trivial⟩ ⟨okC_mk (fun _ => rfl) (by kernel_rfl) (castP (by kernel_rfl) (show True from trivial)) (castP (by kernel_rfl) (show True from trivial)), trivial⟩ trivial
theorem ok77 (n : Nat) : FnOK Tryz.prog SW 77 [.str, .str] (.many [.str, .bool]) (fun x => F.strings_CutPrefix n x.1 x.2.1) := fnOK_of WOf.st (cx77_ok _ n) (d := 8) (fun x => by kernel_rfl)
noncomputable def cx101 (X : Type) (n : Nat) : Cx X := mkCx tab.get [(101, Tryz.f101)] [(143, orcOf [.str, .str] (.one .bool) (fun x => F.stringslite_HasPrefix n x.1 x.2.1))] [] [] [] []
theorem cx101_ok (X : Type) (n : Nat) : CxOK Tryz.prog SW (cx101 X n) := mkCx_ok mixed (tabOK tab_ok) ⟨⟨Tryz.func101, by decide⟩, trivial⟩ ⟨orcOf_ok (ok143 n), trivial⟩ ⟨okC_mk (fun _ => rfl) (by kernel_rfl) (castP (by kernel_rfl) (show True from trivial)) (castP (by kernel_rfl) (show True from trivial)), trivial⟩ trivial
theorem ok101 (n : Nat) : FnOK Tryz.prog SW 101 [.str, .str] (.one .bool) (fun x => F.strings_HasPrefix n x.1 x.2.1) := fnOK_of WOf.st (cx101_ok _ n) (d := 8) (fun x => by kernel_rfl)
def F.dec_look.L2_dec_look_1.head : Shape := ⟨[(0, (.const (.ref 2 0))), (1, (.const (.ref 0 0))), (3, (.int .i64))], [[.str], [(.int .i64), (.int .i64)], [(.int .i64)]], [], [], [], 3, 0, 0⟩
def F.dec_look.L2_dec_look_1.e0 : Shape := ⟨[(0, (.const (.ref 2 0))), (3, (.int .i64))], [[.str], [(.int .i64), (.int .i64)], [(.int .i64)]], [], [], [], 3, 0, 0⟩
noncomputable def F.dec_look.L2_dec_look_1.f {X : Type} (n m : Nat) (ks : Ks X) (s : F.dec_look.L2_dec_look_1.head.den) : Option X := F.dec_look.L2_dec_look_1 n (fun q3 qb0_0 qb1_0 qb1_1 qb2_0 => ks.ex 0 (F.dec_look.L2_dec_look_1.e0.e (((), q3, ()), ((qb0_0, ()), (qb1_0, qb1_1, ()), (qb2_0, ()), ()), (), ())) (F.dec_look.L2_dec_look_1.e0.h (((), q3, ()), ((qb0_0, ()), (qb1_0, qb1_1, ()), (qb2_0, ()), ()), (), ()))) m s.1.2.2.1 s.2.1.1.1 s.2.1.2.1.1 s.2.1.2.1.2.1 s.2.1.2.2.1.1
noncomputable def F.dec_look.L2_dec_look_1.li (X : Type) (n : Nat) : LoopI X := ⟨7, ⟨3, 0, 0⟩, F.dec_look.L2_dec_look_1.head, [(0, F.dec_look.L2_dec_look_1.e0)], none, F.dec_look.L2_dec_look_1.f n n⟩
noncomputable def cx118 (X : Type) (n : Nat) : Cx X := mkCx tab.get [(118, Tryz.f118), (156, Tryz.f156)] [(101, orcOf [.str, .str] (.one .bool) (fun x => F.strings_HasPrefix n x.1 x.2.1))] [(156, 2, [F.dec_look.L2_dec_look_1.li X n])] [] [] []
theorem F.dec_look.L2_dec_look_1.ok (X : Type) (n : Nat) : LoopOK (cx118 X n) 156 Tryz.f156.ntmps (loopNo Tryz.f156 0) (F.dec_look.L2_dec_look_1.li X n) :=
  ⟨F.dec_look.L2_dec_look_1.f n, n, fun _ _ => rfl, fun _ _ => rfl, fun m ks s => by kernel_rfl⟩
theorem cx118_ok (X : Type) (n : Nat) : CxOK Tryz.prog SW (cx118 X n) := mkCx_ok mixed (tabOK tab_ok) ⟨⟨Tryz.func118, by decide⟩,
  ⟨Tryz.func156, by decide⟩, trivial⟩ ⟨orcOf_ok (ok101 n), trivial⟩ ⟨okC_mk (fun _ => rfl) (by kernel_rfl) (castP (by kernel_rfl) (show True from trivial)) (castP (by kernel_rfl) (show True from trivial)),
  okC_mk (fun _ => rfl) (by kernel_rfl) (castP (by kernel_rfl) (show (LoopOK (cx118 X n) 156 Tryz.f156.ntmps (loopNo Tryz.f156 0) (F.dec_look.L2_dec_look_1.li X n) ∧ True) ∧ True from ⟨⟨F.dec_look.L2_dec_look_1.ok X n, trivial⟩, trivial⟩)) (castP (by kernel_rfl) (show True from trivial)), trivial⟩ trivial
theorem ok118 (n : Nat) : FnOK Tryz.prog SW 118 [.str] (.one (.agg [(.int .i64), (.int .i64)])) (fun x => F.dec_look n x.1) := fnOK_of WOf.st (cx118_ok _ n) (d := 8) (fun x => by kernel_rfl)
theorem ok119 (n : Nat) : FnOK Tryz.prog SW 119 [.str, .str] (.one .str) (fun x => O.trimL n x.1 x.2.1) := trimL_ok (enters Tryz.func119 (by kernel_rfl) (by decide)) Tryz.strings_TrimLeft_one n
def F.dec_Parse.L14.head : Shape := ⟨[(2, (.const (.ref 0 0))), (3, (.const (.ref 1 0))), (10, .str), (11, (.const (.ref 3 0))), (66, (.int .i64)), (67, (.int .i64))], [[.bool, (.int .u64), (.int .i64)], [(.int .i64), (.int .i64)], [(.int .i64), (.int .i64)], [.bool, (.int .u64), (.int .i64)]], [], [], [], 4, 0, 0⟩
def F.dec_Parse.L14.e0 : Shape := ⟨[(2, (.const (.ref 0 0))), (3, (.const (.ref 1 0))), (11, (.const (.ref 3 0)))], [[.bool, (.int .u64), (.int .i64)], [(.int .i64), (.int .i64)], [(.int .i64), (.int .i64)], [.bool, (.int .u64), (.int .i64)]], [], [], [], 4, 0, 0⟩
noncomputable def F.dec_Parse.L14.f {X : Type} (n m : Nat) (ks : Ks X) (s : F.dec_Parse.L14.head.den) : Option X := F.dec_Parse.L14 n (fun qb0_0 qb0_1 qb0_2 qb1_0 qb1_1 qb2_0 qb2_1 qb3_0 qb3_1 qb3_2 => ks.ex 0 (F.dec_Parse.L14.e0.e (((), (), (), ()), ((qb0_0, qb0_1, qb0_2, ()), (qb1_0, qb1_1, ()), (qb2_0, qb2_1, ()), (qb3_0, qb3_1, qb3_2, ()), ()), (), ())) (F.dec_Parse.L14.e0.h (((), (), (), ()), ((qb0_0, qb0_1, qb0_2, ()), (qb1_0, qb1_1, ()), (qb2_0, qb2_1, ()), (qb3_0, qb3_1, qb3_2, ()), ()), (), ()))) m s.1.2.2.1 s.1.2.2.2.2.1 s.1.2.2.2.2.2.1 s.2.1.1.1 s.2.1.1.2.1 s.2.1.1.2.2.1 s.2.1.2.1.1 s.2.1.2.1.2.1 s.2.1.2.2.1.1 s.2.1.2.2.1.2.1 s.2.1.2.2.2.1.1 s.2.1.2.2.2.1.2.1 s.2.1.2.2.2.1.2.2.1
noncomputable def F.dec_Parse.L14.li (X : Type) (n : Nat) : LoopI X := ⟨8, ⟨0, 0, 0⟩, F.dec_Parse.L14.head, [(0, F.dec_Parse.L14.e0)], none, F.dec_Parse.L14.f n n⟩
noncomputable def cx73 (X : Type) (n : Nat) : Cx X := mkCx tab.get [(73, Tryz.f73)] [(48, orcOf [(.agg [.bool, (.int .u64), (.int .i64)])] (.many [(.agg [.bool, (.int .u64), (.int .i64)]), (.int .i64)]) (fun x => F.dec_Normal n x.1)), (59, orcOf [.str, .str] (.one .str) (fun x => O.trimR n x.1 x.2.1)), (70, orcOf [.str, .str] (.many [.str, .str, .bool]) (fun x => F.strings_Cut n x.1 x.2.1)), (77, orcOf [.str, .str] (.many [.str, .bool]) (fun x => F.strings_CutPrefix n x.1 x.2.1)), (82, orcOf [(.int .u64), (.int .u64)] (.many [(.int .u64), .bool]) (fun x => F.dec_times n x.1 x.2.1)), (118, orcOf [.str] (.one (.agg [(.int .i64), (.int .i64)])) (fun x => F.dec_look n x.1)), (119, orcOf [.str, .str] (.one .str) (fun x => O.trimL n x.1 x.2.1))] [(73, 14, [F.dec_Parse.L14.li X n])] [] [(73, 3, [(1, 2)])] []
theorem F.dec_Parse.L14.ok (X : Type) (n : Nat) : LoopOK (cx73 X n) 73 Tryz.f73.ntmps (loopNo Tryz.f73 0) (F.dec_Parse.L14.li X n) :=
  ⟨F.dec_Parse.L14.f n, n, fun _ _ => rfl, fun _ _ => rfl, fun m ks s => by kernel_rfl⟩
theorem cx73_ok (X : Type) (n : Nat) : CxOK Tryz.prog SW (cx73 X n) := mkCx_ok mixed (tabOK tab_ok) ⟨⟨Tryz.func73, by decide⟩, trivial⟩ ⟨orcOf_ok (ok48 n),
  orcOf_ok (ok59 n),
  orcOf_ok (ok70 n),
  orcOf_ok (ok77 n),
  orcOf_ok (ok82 n),
  orcOf_ok (ok118 n),
  orcOf_ok (ok119 n), trivial⟩ ⟨okC_mk (fun _ => rfl) (by kernel_rfl) (castP (by kernel_rfl) (show (LoopOK (cx73 X n) 73 Tryz.f73.ntmps (loopNo Tryz.f73 0) (F.dec_Parse.L14.li X n) ∧ True) ∧ True from ⟨⟨F.dec_Parse.L14.ok X n, trivial⟩, trivial⟩)) (castP (by kernel_rfl) (show True from trivial)), trivial⟩ trivial
theorem ok73 (n : Nat) : FnOK Tryz.prog SW 73 [.str] (.many [(.agg [.bool, (.int .u64), (.int .i64)]), (.agg [(.int .i64), (.int .i64)])]) (fun x => F.dec_Parse n x.1) := fnOK_of WOf.st (cx73_ok _ n) (d := 8) (fun x => by kernel_rfl)
noncomputable def cx160 (X : Type) (n : Nat) : Cx X := mkCx tab.get [(160, Tryz.f160)] [] [] [] [] []
theorem cx160_ok (X : Type) (n : Nat) : CxOK Tryz.prog SW (cx160 X n) := mkCx_ok mixed (tabOK tab_ok) ⟨⟨Tryz.func160, by decide⟩, trivial⟩ trivial ⟨okC_mk (fun _ => rfl) (by kernel_rfl) (castP (by kernel_rfl) (show True from trivial)) (castP (by kernel_rfl) (show True from trivial)), trivial⟩ trivial
theorem ok160 (n : Nat) : FnOK Tryz.prog SW 160 [(.int .i64), (.int .i64)] (.many [(.int .i64), (.agg [(.int .i64), (.int .i64)])]) (fun x => F.num_fault n x.1 x.2.1) := fnOK_of WOf.st (cx160_ok _ n) (d := 8) (fun x => by kernel_rfl)
def F.num_Rate.L5.head : Shape := ⟨[(0, .str), (3, (.const (.ref 0 0))), (4, (.const (.ref 1 0))), (16, (.agg [(.int .u8), (.int .u8)])), (17, (.int .i64))], [[(.int .i64), (.int .i64)], [(.int .i64), (.int .i64)]], [], [], [], 2, 0, 0⟩
def F.num_Rate.L5.e0 : Shape := ⟨[(0, .str), (3, (.const (.ref 0 0))), (4, (.const (.ref 1 0)))], [[(.int .i64), (.int .i64)], [(.int .i64), (.int .i64)]], [], [], [], 2, 0, 0⟩
noncomputable def F.num_Rate.L5.f {X : Type} (n m : Nat) (ks : Ks X) (s : F.num_Rate.L5.head.den) : Option X := F.num_Rate.L5 n (fun q0 qb0_0 qb0_1 qb1_0 qb1_1 => ks.ex 0 (F.num_Rate.L5.e0.e ((q0, (), (), ()), ((qb0_0, qb0_1, ()), (qb1_0, qb1_1, ()), ()), (), ())) (F.num_Rate.L5.e0.h ((q0, (), (), ()), ((qb0_0, qb0_1, ()), (qb1_0, qb1_1, ()), ()), (), ()))) m s.1.1 s.1.2.2.2.1 s.1.2.2.2.2.1 s.2.1.1.1 s.2.1.1.2.1 s.2.1.2.1.1 s.2.1.2.1.2.1
noncomputable def F.num_Rate.L5.li (X : Type) (n : Nat) : LoopI X := ⟨8, ⟨0, 0, 0⟩, F.num_Rate.L5.head, [(0, F.num_Rate.L5.e0)], none, F.num_Rate.L5.f n n⟩
def F.num_Rate.L23.head : Shape := ⟨[(3, (.const (.ref 0 0))), (7, .str), (9, (.const (.ref 3 0))), (10, (.const (.fn 161 [] [(.ref 3 0)]))), (81, (.int .i64))], [[(.int .i64), (.int .i64)], [(.int .i64), (.int .i64)], [(.int .i64), (.int .i64)], [(.int .i64)]], [], [], [], 4, 0, 0⟩
def F.num_Rate.L23.e3 : Shape := ⟨[(3, (.const (.ref 0 0))), (9, (.const (.ref 3 0)))], [[(.int .i64), (.int .i64)], [(.int .i64), (.int .i64)], [(.int .i64), (.int .i64)], [(.int .i64)]], [], [], [], 4, 0, 0⟩
noncomputable def F.num_Rate.L23.f {X : Type} (n m : Nat) (ks : Ks X) (s : F.num_Rate.L23.head.den) : Option X := F.num_Rate.L23 n (fun qb0_0 qb0_1 qb1_0 qb1_1 qb2_0 qb2_1 qb3_0 => ks.ex 3 (F.num_Rate.L23.e3.e (((), (), ()), ((qb0_0, qb0_1, ()), (qb1_0, qb1_1, ()), (qb2_0, qb2_1, ()), (qb3_0, ()), ()), (), ())) (F.num_Rate.L23.e3.h (((), (), ()), ((qb0_0, qb0_1, ()), (qb1_0, qb1_1, ()), (qb2_0, qb2_1, ()), (qb3_0, ()), ()), (), ()))) m s.1.2.1 s.1.2.2.2.2.1 s.2.1.1.1 s.2.1.1.2.1 s.2.1.2.1.1 s.2.1.2.1.2.1 s.2.1.2.2.1.1 s.2.1.2.2.1.2.1 s.2.1.2.2.2.1.1
noncomputable def F.num_Rate.L23.li (X : Type) (n : Nat) : LoopI X := ⟨8, ⟨0, 0, 0⟩, F.num_Rate.L23.head, [(3, F.num_Rate.L23.e3)], none, F.num_Rate.L23.f n n⟩
noncomputable def cx120 (X : Type) (n : Nat) : Cx X := mkCx tab.get [(120, Tryz.f120), (161, Tryz.f161)] [(71, orcOf [(.int .i64), .str, (.int .i64), (.int .i64)] (.one (.agg [(.int .i64), (.int .i64)])) (fun x => F.class_Text n x.1 x.2.1 x.2.2.1 x.2.2.2.1)), (160, orcOf [(.int .i64), (.int .i64)] (.many [(.int .i64), (.agg [(.int .i64), (.int .i64)])]) (fun x => F.num_fault n x.1 x.2.1))] [(120, 5, [F.num_Rate.L5.li X n]), (120, 23, [F.num_Rate.L23.li X n])] [] [] []
theorem F.num_Rate.L5.ok (X : Type) (n : Nat) : LoopOK (cx120 X n) 120 Tryz.f120.ntmps (loopNo Tryz.f120 0) (F.num_Rate.L5.li X n) :=
  ⟨F.num_Rate.L5.f n, n, fun _ _ => rfl, fun _ _ => rfl, fun m ks s => by kernel_rfl⟩
theorem F.num_Rate.L23.ok (X : Type) (n : Nat) : LoopOK (cx120 X n) 120 Tryz.f120.ntmps (loopNo Tryz.f120 1) (F.num_Rate.L23.li X n) :=
  ⟨F.num_Rate.L23.f n, n, fun _ _ => rfl, fun _ _ => rfl, fun m ks s => by kernel_rfl⟩
theorem cx120_ok (X : Type) (n : Nat) : CxOK Tryz.prog SW (cx120 X n) := mkCx_ok mixed (tabOK tab_ok) ⟨⟨Tryz.func120, by decide⟩,
  ⟨Tryz.func161, by decide⟩, trivial⟩ ⟨orcOf_ok (ok71 n),
  orcOf_ok (ok160 n), trivial⟩ ⟨okC_mk (fun _ => rfl) (by kernel_rfl) (castP (by kernel_rfl) (show (LoopOK (cx120 X n) 120 Tryz.f120.ntmps (loopNo Tryz.f120 0) (F.num_Rate.L5.li X n) ∧ True) ∧ (LoopOK (cx120 X n) 120 Tryz.f120.ntmps (loopNo Tryz.f120 1) (F.num_Rate.L23.li X n) ∧ True) ∧ True from ⟨⟨F.num_Rate.L5.ok X n, trivial⟩, ⟨F.num_Rate.L23.ok X n, trivial⟩, trivial⟩)) (castP (by kernel_rfl) (show True from trivial)),
  okC_mk (fun _ => rfl) (by kernel_rfl) (castP (by kernel_rfl) (show True from trivial)) (castP (by kernel_rfl) (show True from trivial)), trivial⟩ trivial
theorem ok120 (n : Nat) : FnOK Tryz.prog SW 120 [.str] (.many [(.int .i64), (.agg [(.int .i64), (.int .i64)])]) (fun x => F.num_Rate n x.1) := fnOK_of WOf.st (cx120_ok _ n) (d := 8) (fun x => by kernel_rfl)
def F.tag_Parse.L4.head : Shape := ⟨[(3, (.const (.ref 0 0))), (4, (.sl (.agg [.str, .str]) (.own 0))), (5, (.int .i64)), (13, (.sl .str .unk)), (14, (.int .i64)), (15, (.int .i64))], [[(.int .i64), (.int .i64)]], [true], [], [], 1, 0, 0⟩
def F.tag_Parse.L4.e0 : Shape := ⟨[(3, (.const (.ref 0 0))), (4, (.sl (.agg [.str, .str]) (.own 0)))], [[(.int .i64), (.int .i64)]], [true], [], [], 1, 0, 0⟩
def F.tag_Parse.L4.er : Shape := ⟨[(2, (.sl (.agg [.str, .str]) (.own 0))), (3, (.const (.ref 0 0)))], [[(.int .i64), (.int .i64)]], [true], [], [], 1, 0, 0⟩
noncomputable def F.tag_Parse.L4.f {X : Type} (n m : Nat) (ks : Ks X) (s : F.tag_Parse.L4.head.den) : Option X := F.tag_Parse.L4 n (fun q4 qb0_0 qb0_1 qk0 => ks.ex 0 (F.tag_Parse.L4.e0.e (((), q4, ()), ((qb0_0, qb0_1, ()), ()), (qk0, ()), ())) (F.tag_Parse.L4.e0.h (((), q4, ()), ((qb0_0, qb0_1, ()), ()), (qk0, ()), ()))) (fun q2 qb0_0 qb0_1 qk0 => ks.ret (F.tag_Parse.L4.er.e ((q2, (), ()), ((qb0_0, qb0_1, ()), ()), (qk0, ()), ())) (F.tag_Parse.L4.er.h ((q2, (), ()), ((qb0_0, qb0_1, ()), ()), (qk0, ()), ()))) m s.1.2.1 s.1.2.2.1 s.1.2.2.2.1 s.1.2.2.2.2.1 s.1.2.2.2.2.2.1 s.2.1.1.1 s.2.1.1.2.1 s.2.2.1.1
noncomputable def F.tag_Parse.L4.li (X : Type) (n : Nat) : LoopI X := ⟨8, ⟨0, 0, 0⟩, F.tag_Parse.L4.head, [(0, F.tag_Parse.L4.e0)], some F.tag_Parse.L4.er, F.tag_Parse.L4.f n n⟩
noncomputable def cx121 (X : Type) (n : Nat) : Cx X := mkCx tab.get [(121, Tryz.f121)] [(40, orcOf [.str, .str] (.one (.sl .str .unk)) (fun x => O.split1 n x.1 x.2.1)), (60, orcOf [(.agg [.str, .str])] (.one (.int .i64)) (fun x => F.tag_Check n x.1)), (70, orcOf [.str, .str] (.many [.str, .str, .bool]) (fun x => F.strings_Cut n x.1 x.2.1))] [(121, 4, [F.tag_Parse.L4.li X n])] [] [] []
theorem F.tag_Parse.L4.ok (X : Type) (n : Nat) : LoopOK (cx121 X n) 121 Tryz.f121.ntmps (loopNo Tryz.f121 0) (F.tag_Parse.L4.li X n) :=
  ⟨F.tag_Parse.L4.f n, n, fun _ _ => rfl, fun _ _ => rfl, fun m ks s => by kernel_rfl⟩
theorem cx121_ok (X : Type) (n : Nat) : CxOK Tryz.prog SW (cx121 X n) := mkCx_ok mixed (tabOK tab_ok) ⟨⟨Tryz.func121, by decide⟩, trivial⟩ ⟨orcOf_ok (ok40 n),
  orcOf_ok (ok60 n),
  orcOf_ok (ok70 n), trivial⟩ ⟨okC_mk (fun _ => rfl) (by kernel_rfl) (castP (by kernel_rfl) (show (LoopOK (cx121 X n) 121 Tryz.f121.ntmps (loopNo Tryz.f121 0) (F.tag_Parse.L4.li X n) ∧ True) ∧ True from ⟨⟨F.tag_Parse.L4.ok X n, trivial⟩, trivial⟩)) (castP (by kernel_rfl) (show True from trivial)), trivial⟩ trivial
theorem ok121 (n : Nat) : FnOK Tryz.prog SW 121 [.str] (.many [(.sl (.agg [.str, .str]) .unk), (.agg [(.int .i64), (.int .i64)])]) (fun x => F.tag_Parse n x.1) := fnOK_of WOf.st (cx121_ok _ n) (d := 8) (fun x => by kernel_rfl)
theorem ok189 (n : Nat) : FnOK Tryz.prog SW 189 [.str] (.many [(.int .i64), .err]) (fun x => O.atoi n x.1) := atoi_ok (enters Tryz.func189 (by kernel_rfl) (by decide)) (fun s hs v hv w hw => (Tryz.strconv_Atoi_ok s (by omega) v hv w).mono fun e w' ⟨a, b⟩ => ⟨a, by rcases b with rfl | ⟨t, rfl⟩; exact Below.refl _ _; exact below_bytes⟩)
  (fun s hs n1 n2 w hw => by obtain ⟨ev, hv, hev⟩ := swErrS hw; exact (Any.strconv_Atoi_syntax Tryz.laysC172 s (by omega) (by cases hq : Lib.atoiAll s.data.toList with | ok v => exact absurd hq (n1 v) | range => exact absurd hq n2 | _ => rfl) ev w hv hev).mono fun e w' ⟨N, a, _, _, b⟩ => ⟨⟨_, _, a⟩, b⟩)
  (fun s hs hq w hw => by obtain ⟨ev, hv, hev⟩ := swErrR hw; exact (Any.strconv_Atoi_range Tryz.laysC172 s (by omega) hq ev w hv hev).mono fun e w' ⟨N, a, _, _, b⟩ => ⟨⟨_, _, a⟩, b⟩) n
noncomputable def cx162 (X : Type) (n : Nat) : Cx X := mkCx tab.get [(162, Tryz.f162)] [(71, orcOf [(.int .i64), .str, (.int .i64), (.int .i64)] (.one (.agg [(.int .i64), (.int .i64)])) (fun x => F.class_Text n x.1 x.2.1 x.2.2.1 x.2.2.2.1)), (160, orcOf [(.int .i64), (.int .i64)] (.many [(.int .i64), (.agg [(.int .i64), (.int .i64)])]) (fun x => F.num_fault n x.1 x.2.1)), (189, orcOf [.str] (.many [(.int .i64), .err]) (fun x => O.atoi n x.1))] [] [] [] []
theorem cx162_ok (X : Type) (n : Nat) : CxOK Tryz.prog SW (cx162 X n) := mkCx_ok mixed (tabOK tab_ok) ⟨⟨Tryz.func162, by decide⟩, trivial⟩ ⟨orcOf_ok (ok71 n),
  orcOf_ok (ok160 n),
  orcOf_ok (ok189 n), trivial⟩ ⟨okC_mk (fun _ => rfl) (by kernel_rfl) (castP (by kernel_rfl) (show True from trivial)) (castP (by kernel_rfl) (show True from trivial)), trivial⟩ trivial
theorem ok162 (n : Nat) : FnOK Tryz.prog SW 162 [.str, (.int .i64), (.int .i64)] (.many [(.int .i64), (.agg [(.int .i64), (.int .i64)])]) (fun x => F.num_Parse n x.1 x.2.1 x.2.2.1) := fnOK_of WOf.st (cx162_ok _ n) (d := 8) (fun x => by kernel_rfl)
noncomputable def cx122 (X : Type) (n : Nat) : Cx X := mkCx tab.get [(122, Tryz.f122)] [(162, orcOf [.str, (.int .i64), (.int .i64)] (.many [(.int .i64), (.agg [(.int .i64), (.int .i64)])]) (fun x => F.num_Parse n x.1 x.2.1 x.2.2.1))] [] [] [] []
theorem cx122_ok (X : Type) (n : Nat) : CxOK Tryz.prog SW (cx122 X n) := mkCx_ok mixed (tabOK tab_ok) ⟨⟨Tryz.func122, by decide⟩, trivial⟩ ⟨orcOf_ok (ok162 n), trivial⟩ ⟨okC_mk (fun _ => rfl) (by kernel_rfl) (castP (by kernel_rfl) (show True from trivial)) (castP (by kernel_rfl) (show True from trivial)), trivial⟩ trivial
theorem ok122 (n : Nat) : FnOK Tryz.prog SW 122 [.str] (.many [(.int .i64), (.agg [(.int .i64), (.int .i64)])]) (fun x => F.num_Time n x.1) := fnOK_of WOf.st (cx122_ok _ n) (d := 8) (fun x => by kernel_rfl)
def F.dog_Parse.L9_dog_reader_first.head : Shape := ⟨[(0, (.const (.ref 2 0))), (4, (.const (.ref 4 0))), (8, (.int .i64)), (42, (.sl .str .unk)), (43, (.int .i64)), (44, (.int .i64))], [[.str, (.int .i64), (.sl (.agg [.bool, (.int .u64), (.int .i64)]) (.own 0)), (.int .i64), (.sl (.agg [.str, .str]) (.own 1)), (.int .i64)], [(.int .i64), (.int .i64)], [.str, (.int .i64), (.sl (.agg [.bool, (.int .u64), (.int .i64)]) (.own 2)), (.int .i64), (.sl (.agg [.str, .str]) .unk), (.int .i64), (.int .i64), (.int .i64)], [(.int .i64), (.int .i64)], [(.int .i64), (.int .i64)]], [true, true, true], [], [], 5, 3, 0⟩
def F.dog_Parse.L9_dog_reader_first.e1 : Shape := ⟨[(4, (.const (.ref 4 0)))], [[.str, (.int .i64), (.sl (.agg [.bool, (.int .u64), (.int .i64)]) (.own 0)), (.int .i64), (.sl (.agg [.str, .str]) (.own 1)), (.int .i64)], [(.int .i64), (.int .i64)], [.str, (.int .i64), (.sl (.agg [.bool, (.int .u64), (.int .i64)]) (.own 2)), (.int .i64), (.sl (.agg [.str, .str]) .unk), (.int .i64), (.int .i64), (.int .i64)], [(.int .i64), (.int .i64)], [(.int .i64), (.int .i64)]], [true, true, true], [], [], 5, 3, 0⟩
def F.dog_Parse.L9_dog_reader_first.er : Shape := ⟨[(4, (.const (.ref 4 0)))], [[.str, (.int .i64), (.sl (.agg [.bool, (.int .u64), (.int .i64)]) (.own 0)), (.int .i64), (.sl (.agg [.str, .str]) (.own 1)), (.int .i64)], [(.int .i64), (.int .i64)], [.str, (.int .i64), (.sl (.agg [.bool, (.int .u64), (.int .i64)]) (.own 2)), (.int .i64), (.sl (.agg [.str, .str]) .unk), (.int .i64), (.int .i64), (.int .i64)], [(.int .i64), (.int .i64)], [(.int .i64), (.int .i64)]], [true, true, true], [], [], 5, 3, 0⟩
noncomputable def F.dog_Parse.L9_dog_reader_first.f {X : Type} (n m : Nat) (ks : Ks X) (s : F.dog_Parse.L9_dog_reader_first.head.den) : Option X := F.dog_Parse.L9_dog_reader_first n (fun qb0_0 qb0_1 qb0_2 qb0_3 qb0_4 qb0_5 qb1_0 qb1_1 qb2_0 qb2_1 qb2_2 qb2_3 qb2_4 qb2_5 qb2_6 qb2_7 qb3_0 qb3_1 qb4_0 qb4_1 qk0 qk1 qk2 => ks.ex 1 (F.dog_Parse.L9_dog_reader_first.e1.e (((), ()), ((qb0_0, qb0_1, qb0_2, qb0_3, qb0_4, qb0_5, ()), (qb1_0, qb1_1, ()), (qb2_0, qb2_1, qb2_2, qb2_3, qb2_4, qb2_5, qb2_6, qb2_7, ()), (qb3_0, qb3_1, ()), (qb4_0, qb4_1, ()), ()), (qk0, qk1, qk2, ()), ())) (F.dog_Parse.L9_dog_reader_first.e1.h (((), ()), ((qb0_0, qb0_1, qb0_2, qb0_3, qb0_4, qb0_5, ()), (qb1_0, qb1_1, ()), (qb2_0, qb2_1, qb2_2, qb2_3, qb2_4, qb2_5, qb2_6, qb2_7, ()), (qb3_0, qb3_1, ()), (qb4_0, qb4_1, ()), ()), (qk0, qk1, qk2, ()), ()))) (fun qb0_0 qb0_1 qb0_2 qb0_3 qb0_4 qb0_5 qb1_0 qb1_1 qb2_0 qb2_1 qb2_2 qb2_3 qb2_4 qb2_5 qb2_6 qb2_7 qb3_0 qb3_1 qb4_0 qb4_1 qk0 qk1 qk2 => ks.ret (F.dog_Parse.L9_dog_reader_first.er.e (((), ()), ((qb0_0, qb0_1, qb0_2, qb0_3, qb0_4, qb0_5, ()), (qb1_0, qb1_1, ()), (qb2_0, qb2_1, qb2_2, qb2_3, qb2_4, qb2_5, qb2_6, qb2_7, ()), (qb3_0, qb3_1, ()), (qb4_0, qb4_1, ()), ()), (qk0, qk1, qk2, ()), ())) (F.dog_Parse.L9_dog_reader_first.er.h (((), ()), ((qb0_0, qb0_1, qb0_2, qb0_3, qb0_4, qb0_5, ()), (qb1_0, qb1_1, ()), (qb2_0, qb2_1, qb2_2, qb2_3, qb2_4, qb2_5, qb2_6, qb2_7, ()), (qb3_0, qb3_1, ()), (qb4_0, qb4_1, ()), ()), (qk0, qk1, qk2, ()), ()))) m s.1.2.2.1 s.1.2.2.2.1 s.1.2.2.2.2.1 s.1.2.2.2.2.2.1 s.2.1.1.1 s.2.1.1.2.1 s.2.1.1.2.2.1 s.2.1.1.2.2.2.1 s.2.1.1.2.2.2.2.1 s.2.1.1.2.2.2.2.2.1 s.2.1.2.1.1 s.2.1.2.1.2.1 s.2.1.2.2.1.1 s.2.1.2.2.1.2.1 s.2.1.2.2.1.2.2.1 s.2.1.2.2.1.2.2.2.1 s.2.1.2.2.1.2.2.2.2.1 s.2.1.2.2.1.2.2.2.2.2.1 s.2.1.2.2.1.2.2.2.2.2.2.1 s.2.1.2.2.1.2.2.2.2.2.2.2.1 s.2.1.2.2.2.1.1 s.2.1.2.2.2.1.2.1 s.2.1.2.2.2.2.1.1 s.2.1.2.2.2.2.1.2.1 s.2.2.1.1 s.2.2.1.2.1 s.2.2.1.2.2.1
noncomputable def F.dog_Parse.L9_dog_reader_first.li (X : Type) (n : Nat) : LoopI X := ⟨7, ⟨4, 3, 0⟩, F.dog_Parse.L9_dog_reader_first.head, [(1, F.dog_Parse.L9_dog_reader_first.e1)], some F.dog_Parse.L9_dog_reader_first.er, F.dog_Parse.L9_dog_reader_first.f n n⟩
def F.dog_Parse.L2_dog_reader_more.head : Shape := ⟨[(0, (.const (.ref 2 0))), (1, .str), (4, (.const (.ref 4 0))), (19, (.agg [.str, (.const (.fn 74 [(.ref 2 0)] [])), .str, (.const (.fn 75 [(.ref 2 0)] [])), .str, (.const (.fn 76 [(.ref 2 0)] []))])), (20, (.int .i64))], [[.str, (.int .i64), (.sl (.agg [.bool, (.int .u64), (.int .i64)]) (.own 0)), (.int .i64), (.sl (.agg [.str, .str]) (.own 1)), (.int .i64)], [(.int .i64), (.int .i64)], [.str, (.int .i64), (.sl (.agg [.bool, (.int .u64), (.int .i64)]) (.own 2)), (.int .i64), (.sl (.agg [.str, .str]) .unk), (.int .i64), (.int .i64), (.int .i64)], [(.int .i64), (.int .i64)], [(.int .i64), (.int .i64)]], [true, true, true], [], [], 5, 3, 0⟩
def F.dog_Parse.L2_dog_reader_more.e0 : Shape := ⟨[(0, (.const (.ref 2 0))), (4, (.const (.ref 4 0)))], [[.str, (.int .i64), (.sl (.agg [.bool, (.int .u64), (.int .i64)]) (.own 0)), (.int .i64), (.sl (.agg [.str, .str]) (.own 1)), (.int .i64)], [(.int .i64), (.int .i64)], [.str, (.int .i64), (.sl (.agg [.bool, (.int .u64), (.int .i64)]) (.own 2)), (.int .i64), (.sl (.agg [.str, .str]) .unk), (.int .i64), (.int .i64), (.int .i64)], [(.int .i64), (.int .i64)], [(.int .i64), (.int .i64)]], [true, true, true], [], [], 5, 3, 0⟩
def F.dog_Parse.L2_dog_reader_more.er : Shape := ⟨[(4, (.const (.ref 4 0)))], [[.str, (.int .i64), (.sl (.agg [.bool, (.int .u64), (.int .i64)]) (.own 0)), (.int .i64), (.sl (.agg [.str, .str]) (.own 1)), (.int .i64)], [(.int .i64), (.int .i64)], [.str, (.int .i64), (.sl (.agg [.bool, (.int .u64), (.int .i64)]) (.own 2)), (.int .i64), (.sl (.agg [.str, .str]) .unk), (.int .i64), (.int .i64), (.int .i64)], [(.int .i64), (.int .i64)], [(.int .i64), (.int .i64)]], [true, true, true], [], [], 5, 3, 0⟩
noncomputable def F.dog_Parse.L2_dog_reader_more.f {X : Type} (n m : Nat) (ks : Ks X) (s : F.dog_Parse.L2_dog_reader_more.head.den) : Option X := F.dog_Parse.L2_dog_reader_more n (fun qb0_0 qb0_1 qb0_2 qb0_3 qb0_4 qb0_5 qb1_0 qb1_1 qb2_0 qb2_1 qb2_2 qb2_3 qb2_4 qb2_5 qb2_6 qb2_7 qb3_0 qb3_1 qb4_0 qb4_1 qk0 qk1 qk2 => ks.ex 0 (F.dog_Parse.L2_dog_reader_more.e0.e (((), (), ()), ((qb0_0, qb0_1, qb0_2, qb0_3, qb0_4, qb0_5, ()), (qb1_0, qb1_1, ()), (qb2_0, qb2_1, qb2_2, qb2_3, qb2_4, qb2_5, qb2_6, qb2_7, ()), (qb3_0, qb3_1, ()), (qb4_0, qb4_1, ()), ()), (qk0, qk1, qk2, ()), ())) (F.dog_Parse.L2_dog_reader_more.e0.h (((), (), ()), ((qb0_0, qb0_1, qb0_2, qb0_3, qb0_4, qb0_5, ()), (qb1_0, qb1_1, ()), (qb2_0, qb2_1, qb2_2, qb2_3, qb2_4, qb2_5, qb2_6, qb2_7, ()), (qb3_0, qb3_1, ()), (qb4_0, qb4_1, ()), ()), (qk0, qk1, qk2, ()), ()))) (fun qb0_0 qb0_1 qb0_2 qb0_3 qb0_4 qb0_5 qb1_0 qb1_1 qb2_0 qb2_1 qb2_2 qb2_3 qb2_4 qb2_5 qb2_6 qb2_7 qb3_0 qb3_1 qb4_0 qb4_1 qk0 qk1 qk2 => ks.ret (F.dog_Parse.L2_dog_reader_more.er.e (((), ()), ((qb0_0, qb0_1, qb0_2, qb0_3, qb0_4, qb0_5, ()), (qb1_0, qb1_1, ()), (qb2_0, qb2_1, qb2_2, qb2_3, qb2_4, qb2_5, qb2_6, qb2_7, ()), (qb3_0, qb3_1, ()), (qb4_0, qb4_1, ()), ()), (qk0, qk1, qk2, ()), ())) (F.dog_Parse.L2_dog_reader_more.er.h (((), ()), ((qb0_0, qb0_1, qb0_2, qb0_3, qb0_4, qb0_5, ()), (qb1_0, qb1_1, ()), (qb2_0, qb2_1, qb2_2, qb2_3, qb2_4, qb2_5, qb2_6, qb2_7, ()), (qb3_0, qb3_1, ()), (qb4_0, qb4_1, ()), ()), (qk0, qk1, qk2, ()), ()))) m s.1.2.1 s.1.2.2.2.1 s.1.2.2.2.2.1 s.2.1.1.1 s.2.1.1.2.1 s.2.1.1.2.2.1 s.2.1.1.2.2.2.1 s.2.1.1.2.2.2.2.1 s.2.1.1.2.2.2.2.2.1 s.2.1.2.1.1 s.2.1.2.1.2.1 s.2.1.2.2.1.1 s.2.1.2.2.1.2.1 s.2.1.2.2.1.2.2.1 s.2.1.2.2.1.2.2.2.1 s.2.1.2.2.1.2.2.2.2.1 s.2.1.2.2.1.2.2.2.2.2.1 s.2.1.2.2.1.2.2.2.2.2.2.1 s.2.1.2.2.1.2.2.2.2.2.2.2.1 s.2.1.2.2.2.1.1 s.2.1.2.2.2.1.2.1 s.2.1.2.2.2.2.1.1 s.2.1.2.2.2.2.1.2.1 s.2.2.1.1 s.2.2.1.2.1 s.2.2.1.2.2.1
noncomputable def F.dog_Parse.L2_dog_reader_more.li (X : Type) (n : Nat) : LoopI X := ⟨7, ⟨4, 3, 0⟩, F.dog_Parse.L2_dog_reader_more.head, [(0, F.dog_Parse.L2_dog_reader_more.e0)], some F.dog_Parse.L2_dog_reader_more.er, F.dog_Parse.L2_dog_reader_more.f n n⟩
def F.dog_Parse.L8.head : Shape := ⟨[(0, .str), (2, (.const (.ref 0 0))), (3, (.const (.ref 1 0))), (4, (.const (.ref 2 0))), (5, (.sl .str .unk)), (6, (.const (.imms 2 [(.fn 41 [(.ref 2 0)] []), (.fn 42 [(.ref 2 0)] [])]))), (7, (.const (.ref 3 0))), (26, (.sl .str .unk)), (27, (.int .i64)), (28, (.int .i64))], [[.str, (.int .i64), (.sl (.agg [.bool, (.int .u64), (.int .i64)]) (.own 0)), (.int .i64), (.sl (.agg [.str, .str]) (.own 1)), (.int .i64)], [(.int .i64), (.int .i64)], [.str, (.int .i64), (.sl (.agg [.bool, (.int .u64), (.int .i64)]) (.own 2)), (.int .i64), (.sl (.agg [.str, .str]) .unk), (.int .i64), (.int .i64), (.int .i64)], [(.int .i64), (.int .i64)]], [true, true, true], [], [], 4, 0, 0⟩
def F.dog_Parse.L8.e0 : Shape := ⟨[(0, .str), (2, (.const (.ref 0 0))), (3, (.const (.ref 1 0))), (4, (.const (.ref 2 0))), (5, (.sl .str .unk)), (6, (.const (.imms 2 [(.fn 41 [(.ref 2 0)] []), (.fn 42 [(.ref 2 0)] [])]))), (7, (.const (.ref 3 0)))], [[.str, (.int .i64), (.sl (.agg [.bool, (.int .u64), (.int .i64)]) (.own 0)), (.int .i64), (.sl (.agg [.str, .str]) (.own 1)), (.int .i64)], [(.int .i64), (.int .i64)], [.str, (.int .i64), (.sl (.agg [.bool, (.int .u64), (.int .i64)]) (.own 2)), (.int .i64), (.sl (.agg [.str, .str]) .unk), (.int .i64), (.int .i64), (.int .i64)], [(.int .i64), (.int .i64)]], [true, true, true], [], [], 4, 0, 0⟩
noncomputable def F.dog_Parse.L8.f {X : Type} (n m : Nat) (ks : Ks X) (s : F.dog_Parse.L8.head.den) : Option X := F.dog_Parse.L8 n (fun q0 q5 qb0_0 qb0_1 qb0_2 qb0_3 qb0_4 qb0_5 qb1_0 qb1_1 qb2_0 qb2_1 qb2_2 qb2_3 qb2_4 qb2_5 qb2_6 qb2_7 qb3_0 qb3_1 qk0 qk1 qk2 => ks.ex 0 (F.dog_Parse.L8.e0.e ((q0, (), (), (), q5, (), (), ()), ((qb0_0, qb0_1, qb0_2, qb0_3, qb0_4, qb0_5, ()), (qb1_0, qb1_1, ()), (qb2_0, qb2_1, qb2_2, qb2_3, qb2_4, qb2_5, qb2_6, qb2_7, ()), (qb3_0, qb3_1, ()), ()), (qk0, qk1, qk2, ()), ())) (F.dog_Parse.L8.e0.h ((q0, (), (), (), q5, (), (), ()), ((qb0_0, qb0_1, qb0_2, qb0_3, qb0_4, qb0_5, ()), (qb1_0, qb1_1, ()), (qb2_0, qb2_1, qb2_2, qb2_3, qb2_4, qb2_5, qb2_6, qb2_7, ()), (qb3_0, qb3_1, ()), ()), (qk0, qk1, qk2, ()), ()))) m s.1.1 s.1.2.2.2.2.1 s.1.2.2.2.2.2.2.2.1 s.1.2.2.2.2.2.2.2.2.1 s.1.2.2.2.2.2.2.2.2.2.1 s.2.1.1.1 s.2.1.1.2.1 s.2.1.1.2.2.1 s.2.1.1.2.2.2.1 s.2.1.1.2.2.2.2.1 s.2.1.1.2.2.2.2.2.1 s.2.1.2.1.1 s.2.1.2.1.2.1 s.2.1.2.2.1.1 s.2.1.2.2.1.2.1 s.2.1.2.2.1.2.2.1 s.2.1.2.2.1.2.2.2.1 s.2.1.2.2.1.2.2.2.2.1 s.2.1.2.2.1.2.2.2.2.2.1 s.2.1.2.2.1.2.2.2.2.2.2.1 s.2.1.2.2.1.2.2.2.2.2.2.2.1 s.2.1.2.2.2.1.1 s.2.1.2.2.2.1.2.1 s.2.2.1.1 s.2.2.1.2.1 s.2.2.1.2.2.1
noncomputable def F.dog_Parse.L8.li (X : Type) (n : Nat) : LoopI X := ⟨8, ⟨0, 0, 0⟩, F.dog_Parse.L8.head, [(0, F.dog_Parse.L8.e0)], none, F.dog_Parse.L8.f n n⟩
noncomputable def cx18 (X : Type) (n : Nat) : Cx X := mkCx tab.get [(18, Tryz.f18), (41, Tryz.f41), (42, Tryz.f42), (43, Tryz.f43), (72, Tryz.f72), (74, Tryz.f74), (75, Tryz.f75), (76, Tryz.f76)] [(11, orcOf [.str] (.many [(.int .i64), (.int .i64)]) (fun x => F.dog_Kind n x.1)), (40, orcOf [.str, .str] (.one (.sl .str .unk)) (fun x => O.split1 n x.1 x.2.1)), (50, orcOf [(.sl (.agg [.str, .str]) .unk)] (.one (.sl (.agg [.str, .str]) .unk)) (fun x => F.tag_Normal n x.1)), (70, orcOf [.str, .str] (.many [.str, .str, .bool]) (fun x => F.strings_Cut n x.1 x.2.1)), (71, orcOf [(.int .i64), .str, (.int .i64), (.int .i64)] (.one (.agg [(.int .i64), (.int .i64)])) (fun x => F.class_Text n x.1 x.2.1 x.2.2.1 x.2.2.2.1)), (73, orcOf [.str] (.many [(.agg [.bool, (.int .u64), (.int .i64)]), (.agg [(.int .i64), (.int .i64)])]) (fun x => F.dec_Parse n x.1)), (77, orcOf [.str, .str] (.many [.str, .bool]) (fun x => F.strings_CutPrefix n x.1 x.2.1)), (120, orcOf [.str] (.many [(.int .i64), (.agg [(.int .i64), (.int .i64)])]) (fun x => F.num_Rate n x.1)), (121, orcOf [.str] (.many [(.sl (.agg [.str, .str]) .unk), (.agg [(.int .i64), (.int .i64)])]) (fun x => F.tag_Parse n x.1)), (122, orcOf [.str] (.many [(.int .i64), (.agg [(.int .i64), (.int .i64)])]) (fun x => F.num_Time n x.1))] [(18, 8, [F.dog_Parse.L8.li X n]), (41, 9, [F.dog_Parse.L9_dog_reader_first.li X n]), (43, 2, [F.dog_Parse.L2_dog_reader_more.li X n])] [] [(18, 20, [(1, 2)]), (18, 21, [(4, 5)])] []
theorem F.dog_Parse.L9_dog_reader_first.ok (X : Type) (n : Nat) : LoopOK (cx18 X n) 41 Tryz.f41.ntmps (loopNo Tryz.f41 0) (F.dog_Parse.L9_dog_reader_first.li X n) :=
  ⟨F.dog_Parse.L9_dog_reader_first.f n, n, fun _ _ => rfl, fun _ _ => rfl, fun m ks s => by kernel_rfl⟩
theorem F.dog_Parse.L2_dog_reader_more.ok (X : Type) (n : Nat) : LoopOK (cx18 X n) 43 Tryz.f43.ntmps (loopNo Tryz.f43 0) (F.dog_Parse.L2_dog_reader_more.li X n) :=
  ⟨F.dog_Parse.L2_dog_reader_more.f n, n, fun _ _ => rfl, fun _ _ => rfl, fun m ks s => by kernel_rfl⟩
theorem F.dog_Parse.L8.ok (X : Type) (n : Nat) : LoopOK (cx18 X n) 18 Tryz.f18.ntmps (loopNo Tryz.f18 0) (F.dog_Parse.L8.li X n) :=
  ⟨F.dog_Parse.L8.f n, n, fun _ _ => rfl, fun _ _ => rfl, fun m ks s => by kernel_rfl⟩
theorem cx18_ok (X : Type) (n : Nat) : CxOK Tryz.prog SW (cx18 X n) := mkCx_ok mixed (tabOK tab_ok) ⟨⟨Tryz.func18, by decide⟩,
  ⟨Tryz.func41, by decide⟩,
  ⟨Tryz.func42, by decide⟩,
  ⟨Tryz.func43, by decide⟩,
  ⟨Tryz.func72, by decide⟩,
  ⟨Tryz.func74, by decide⟩,
  ⟨Tryz.func75, by decide⟩,
  ⟨Tryz.func76, by decide⟩, trivial⟩ ⟨orcOf_ok (ok11 n),
  orcOf_ok (ok40 n),
  orcOf_ok (ok50 n),
  orcOf_ok (ok70 n),
  orcOf_ok (ok71 n),
  orcOf_ok (ok73 n),
  orcOf_ok (ok77 n),
  orcOf_ok (ok120 n),
  orcOf_ok (ok121 n),
  orcOf_ok (ok122 n), trivial⟩ ⟨okC_mk (fun _ => rfl) (by kernel_rfl) (castP (by kernel_rfl) (show (LoopOK (cx18 X n) 18 Tryz.f18.ntmps (loopNo Tryz.f18 0) (F.dog_Parse.L8.li X n) ∧ True) ∧ True from ⟨⟨F.dog_Parse.L8.ok X n, trivial⟩, trivial⟩)) (castP (by kernel_rfl) (show True from trivial)),
  okC_mk (fun _ => rfl) (by kernel_rfl) (castP (by kernel_rfl) (show (LoopOK (cx18 X n) 41 Tryz.f41.ntmps (loopNo Tryz.f41 0) (F.dog_Parse.L9_dog_reader_first.li X n) ∧ True) ∧ True from ⟨⟨F.dog_Parse.L9_dog_reader_first.ok X n, trivial⟩, trivial⟩)) (castP (by kernel_rfl) (show True from trivial)),
  okC_mk (fun _ => rfl) (by kernel_rfl) (castP (by kernel_rfl) (show True from trivial)) (castP (by kernel_rfl) (show True from trivial)),
  okC_mk (fun _ => rfl) (by kernel_rfl) (castP (by kernel_rfl) (show (LoopOK (cx18 X n) 43 Tryz.f43.ntmps (loopNo Tryz.f43 0) (F.dog_Parse.L2_dog_reader_more.li X n) ∧ True) ∧ True from ⟨⟨F.dog_Parse.L2_dog_reader_more.ok X n, trivial⟩, trivial⟩)) (castP (by kernel_rfl) (show True from trivial)),
  okC_mk (fun _ => rfl) (by kernel_rfl) (castP (by kernel_rfl) (show True from trivial)) (castP (by kernel_rfl) (show True from trivial)),
  okC_mk (fun _ => rfl) (by kernel_rfl) (castP (by kernel_rfl) (show True from trivial)) (castP (by kernel_rfl) (show True from trivial)),
  okC_mk (fun _ => rfl) (by kernel_rfl) (castP (by kernel_rfl) (show True from trivial)) (castP (by kernel_rfl) (show True from trivial)),
  okC_mk (fun _ => rfl) (by kernel_rfl) (castP (by kernel_rfl) (show True from trivial)) (castP (by kernel_rfl) (show True from trivial)), trivial⟩ trivial
theorem ok18 (n : Nat) : FnOK Tryz.prog SW 18 [.str] (.many [(.agg [.str, (.int .i64), (.sl (.agg [.bool, (.int .u64), (.int .i64)]) .unk), (.int .i64), (.sl (.agg [.str, .str]) .unk), (.int .i64)]), (.agg [(.int .i64), (.int .i64)])]) (fun x => F.dog_Parse n x.1) := fnOK_of WOf.st (cx18_ok _ n) (d := 8) (fun x => by kernel_rfl)
def F.ref07_Equal.L4.head : Shape := ⟨[(2, (.const (.ref 0 0))), (3, (.const (.ref 1 0))), (5, (.int .i64))], [[.str, (.int .i64), (.sl (.agg [.bool, (.int .u64), (.int .i64)]) .unk), (.int .i64), (.sl (.agg [.str, .str]) .unk), (.int .i64)], [.str, (.int .i64), (.sl (.agg [.bool, (.int .u64), (.int .i64)]) .unk), (.int .i64), (.sl (.agg [.str, .str]) .unk), (.int .i64)]], [], [], [], 2, 0, 0⟩
def F.ref07_Equal.L4.e0 : Shape := ⟨[(2, (.const (.ref 0 0))), (3, (.const (.ref 1 0)))], [[.str, (.int .i64), (.sl (.agg [.bool, (.int .u64), (.int .i64)]) .unk), (.int .i64), (.sl (.agg [.str, .str]) .unk), (.int .i64)], [.str, (.int .i64), (.sl (.agg [.bool, (.int .u64), (.int .i64)]) .unk), (.int .i64), (.sl (.agg [.str, .str]) .unk), (.int .i64)]], [], [], [], 2, 0, 0⟩
def F.ref07_Equal.L4.er : Shape := ⟨[(4, .bool)], [[.str, (.int .i64), (.sl (.agg [.bool, (.int .u64), (.int .i64)]) .unk), (.int .i64), (.sl (.agg [.str, .str]) .unk), (.int .i64)], [.str, (.int .i64), (.sl (.agg [.bool, (.int .u64), (.int .i64)]) .unk), (.int .i64), (.sl (.agg [.str, .str]) .unk), (.int .i64)]], [], [], [], 2, 0, 0⟩
noncomputable def F.ref07_Equal.L4.f {X : Type} (n m : Nat) (ks : Ks X) (s : F.ref07_Equal.L4.head.den) : Option X := F.ref07_Equal.L4 n (fun qb0_0 qb0_1 qb0_2 qb0_3 qb0_4 qb0_5 qb1_0 qb1_1 qb1_2 qb1_3 qb1_4 qb1_5 => ks.ex 0 (F.ref07_Equal.L4.e0.e (((), (), ()), ((qb0_0, qb0_1, qb0_2, qb0_3, qb0_4, qb0_5, ()), (qb1_0, qb1_1, qb1_2, qb1_3, qb1_4, qb1_5, ()), ()), (), ())) (F.ref07_Equal.L4.e0.h (((), (), ()), ((qb0_0, qb0_1, qb0_2, qb0_3, qb0_4, qb0_5, ()), (qb1_0, qb1_1, qb1_2, qb1_3, qb1_4, qb1_5, ()), ()), (), ()))) (fun q4 qb0_0 qb0_1 qb0_2 qb0_3 qb0_4 qb0_5 qb1_0 qb1_1 qb1_2 qb1_3 qb1_4 qb1_5 => ks.ret (F.ref07_Equal.L4.er.e ((q4, ()), ((qb0_0, qb0_1, qb0_2, qb0_3, qb0_4, qb0_5, ()), (qb1_0, qb1_1, qb1_2, qb1_3, qb1_4, qb1_5, ()), ()), (), ())) (F.ref07_Equal.L4.er.h ((q4, ()), ((qb0_0, qb0_1, qb0_2, qb0_3, qb0_4, qb0_5, ()), (qb1_0, qb1_1, qb1_2, qb1_3, qb1_4, qb1_5, ()), ()), (), ()))) m s.1.2.2.1 s.2.1.1.1 s.2.1.1.2.1 s.2.1.1.2.2.1 s.2.1.1.2.2.2.1 s.2.1.1.2.2.2.2.1 s.2.1.1.2.2.2.2.2.1 s.2.1.2.1.1 s.2.1.2.1.2.1 s.2.1.2.1.2.2.1 s.2.1.2.1.2.2.2.1 s.2.1.2.1.2.2.2.2.1 s.2.1.2.1.2.2.2.2.2.1
noncomputable def F.ref07_Equal.L4.li (X : Type) (n : Nat) : LoopI X := ⟨8, ⟨0, 0, 0⟩, F.ref07_Equal.L4.head, [(0, F.ref07_Equal.L4.e0)], some F.ref07_Equal.L4.er, F.ref07_Equal.L4.f n n⟩
def F.ref07_Equal.L9.head : Shape := ⟨[(2, (.const (.ref 0 0))), (3, (.const (.ref 1 0))), (6, (.int .i64))], [[.str, (.int .i64), (.sl (.agg [.bool, (.int .u64), (.int .i64)]) .unk), (.int .i64), (.sl (.agg [.str, .str]) .unk), (.int .i64)], [.str, (.int .i64), (.sl (.agg [.bool, (.int .u64), (.int .i64)]) .unk), (.int .i64), (.sl (.agg [.str, .str]) .unk), (.int .i64)]], [], [], [], 2, 0, 0⟩
def F.ref07_Equal.L9.e2 : Shape := ⟨[], [[.str, (.int .i64), (.sl (.agg [.bool, (.int .u64), (.int .i64)]) .unk), (.int .i64), (.sl (.agg [.str, .str]) .unk), (.int .i64)], [.str, (.int .i64), (.sl (.agg [.bool, (.int .u64), (.int .i64)]) .unk), (.int .i64), (.sl (.agg [.str, .str]) .unk), (.int .i64)]], [], [], [], 2, 0, 0⟩
def F.ref07_Equal.L9.er : Shape := ⟨[(4, .bool)], [[.str, (.int .i64), (.sl (.agg [.bool, (.int .u64), (.int .i64)]) .unk), (.int .i64), (.sl (.agg [.str, .str]) .unk), (.int .i64)], [.str, (.int .i64), (.sl (.agg [.bool, (.int .u64), (.int .i64)]) .unk), (.int .i64), (.sl (.agg [.str, .str]) .unk), (.int .i64)]], [], [], [], 2, 0, 0⟩
noncomputable def F.ref07_Equal.L9.f {X : Type} (n m : Nat) (ks : Ks X) (s : F.ref07_Equal.L9.head.den) : Option X := F.ref07_Equal.L9 n (fun qb0_0 qb0_1 qb0_2 qb0_3 qb0_4 qb0_5 qb1_0 qb1_1 qb1_2 qb1_3 qb1_4 qb1_5 => ks.ex 2 (F.ref07_Equal.L9.e2.e ((), ((qb0_0, qb0_1, qb0_2, qb0_3, qb0_4, qb0_5, ()), (qb1_0, qb1_1, qb1_2, qb1_3, qb1_4, qb1_5, ()), ()), (), ())) (F.ref07_Equal.L9.e2.h ((), ((qb0_0, qb0_1, qb0_2, qb0_3, qb0_4, qb0_5, ()), (qb1_0, qb1_1, qb1_2, qb1_3, qb1_4, qb1_5, ()), ()), (), ()))) (fun q4 qb0_0 qb0_1 qb0_2 qb0_3 qb0_4 qb0_5 qb1_0 qb1_1 qb1_2 qb1_3 qb1_4 qb1_5 => ks.ret (F.ref07_Equal.L9.er.e ((q4, ()), ((qb0_0, qb0_1, qb0_2, qb0_3, qb0_4, qb0_5, ()), (qb1_0, qb1_1, qb1_2, qb1_3, qb1_4, qb1_5, ()), ()), (), ())) (F.ref07_Equal.L9.er.h ((q4, ()), ((qb0_0, qb0_1, qb0_2, qb0_3, qb0_4, qb0_5, ()), (qb1_0, qb1_1, qb1_2, qb1_3, qb1_4, qb1_5, ()), ()), (), ()))) m s.1.2.2.1 s.2.1.1.1 s.2.1.1.2.1 s.2.1.1.2.2.1 s.2.1.1.2.2.2.1 s.2.1.1.2.2.2.2.1 s.2.1.1.2.2.2.2.2.1 s.2.1.2.1.1 s.2.1.2.1.2.1 s.2.1.2.1.2.2.1 s.2.1.2.1.2.2.2.1 s.2.1.2.1.2.2.2.2.1 s.2.1.2.1.2.2.2.2.2.1
noncomputable def F.ref07_Equal.L9.li (X : Type) (n : Nat) : LoopI X := ⟨8, ⟨0, 0, 0⟩, F.ref07_Equal.L9.head, [(2, F.ref07_Equal.L9.e2)], some F.ref07_Equal.L9.er, F.ref07_Equal.L9.f n n⟩
noncomputable def cx20 (X : Type) (n : Nat) : Cx X := mkCx tab.get [(20, Tryz.f20)] [] [(20, 4, [F.ref07_Equal.L4.li X n]), (20, 9, [F.ref07_Equal.L9.li X n])] [] [] []
theorem F.ref07_Equal.L4.ok (X : Type) (n : Nat) : LoopOK (cx20 X n) 20 Tryz.f20.ntmps (loopNo Tryz.f20 0) (F.ref07_Equal.L4.li X n) :=
  ⟨F.ref07_Equal.L4.f n, n, fun _ _ => rfl, fun _ _ => rfl, fun m ks s => by kernel_rfl⟩
theorem F.ref07_Equal.L9.ok (X : Type) (n : Nat) : LoopOK (cx20 X n) 20 Tryz.f20.ntmps (loopNo Tryz.f20 1) (F.ref07_Equal.L9.li X n) :=
  ⟨F.ref07_Equal.L9.f n, n, fun _ _ => rfl, fun _ _ => rfl, fun m ks s => by kernel_rfl⟩
theorem cx20_ok (X : Type) (n : Nat) : CxOK Tryz.prog SW (cx20 X n) := mkCx_ok mixed (tabOK tab_ok) ⟨⟨Tryz.func20, by decide⟩, trivial⟩ trivial ⟨okC_mk (fun _ => rfl) (by kernel_rfl) (castP (by kernel_rfl) (show (LoopOK (cx20 X n) 20 Tryz.f20.ntmps (loopNo Tryz.f20 0) (F.ref07_Equal.L4.li X n) ∧ True) ∧ (LoopOK (cx20 X n) 20 Tryz.f20.ntmps (loopNo Tryz.f20 1) (F.ref07_Equal.L9.li X n) ∧ True) ∧ True from ⟨⟨F.ref07_Equal.L4.ok X n, trivial⟩, ⟨F.ref07_Equal.L9.ok X n, trivial⟩, trivial⟩)) (castP (by kernel_rfl) (show True from trivial)), trivial⟩ trivial
theorem ok20 (n : Nat) : FnOK Tryz.prog SW 20 [(.agg [.str, (.int .i64), (.sl (.agg [.bool, (.int .u64), (.int .i64)]) .unk), (.int .i64), (.sl (.agg [.str, .str]) .unk), (.int .i64)]), (.agg [.str, (.int .i64), (.sl (.agg [.bool, (.int .u64), (.int .i64)]) .unk), (.int .i64), (.sl (.agg [.str, .str]) .unk), (.int .i64)])] (.one .bool) (fun x => F.ref07_Equal n x.1 x.2.1) := fnOK_of WOf.st (cx20_ok _ n) (d := 8) (fun x => by kernel_rfl)
noncomputable def cx9 (X : Type) (n : Nat) : Cx X := mkCx tab.get [(9, Tryz.f9)] [(15, orcOf [(.agg [.str, (.int .i64), (.sl (.agg [.bool, (.int .u64), (.int .i64)]) .unk), (.int .i64), (.sl (.agg [.str, .str]) .unk), (.int .i64)])] (.many [.str, (.int .i64)]) (fun x => F.dog_Line n x.1)), (18, orcOf [.str] (.many [(.agg [.str, (.int .i64), (.sl (.agg [.bool, (.int .u64), (.int .i64)]) .unk), (.int .i64), (.sl (.agg [.str, .str]) .unk), (.int .i64)]), (.agg [(.int .i64), (.int .i64)])]) (fun x => F.dog_Parse n x.1)), (20, orcOf [(.agg [.str, (.int .i64), (.sl (.agg [.bool, (.int .u64), (.int .i64)]) .unk), (.int .i64), (.sl (.agg [.str, .str]) .unk), (.int .i64)]), (.agg [.str, (.int .i64), (.sl (.agg [.bool, (.int .u64), (.int .i64)]) .unk), (.int .i64), (.sl (.agg [.str, .str]) .unk), (.int .i64)])] (.one .bool) (fun x => F.ref07_Equal n x.1 x.2.1))] [] [] [] []
theorem cx9_ok (X : Type) (n : Nat) : CxOK Tryz.prog SW (cx9 X n) := mkCx_ok mixed (tabOK tab_ok) ⟨⟨Tryz.func9, by decide⟩, trivial⟩ ⟨orcOf_ok (ok15 n),
  orcOf_ok (ok18 n),
  orcOf_ok (ok20 n), trivial⟩ ⟨okC_mk (fun _ => rfl) (by kernel_rfl) (castP (by kernel_rfl) (show True from trivial)) (castP (by kernel_rfl) (show True from trivial)), trivial⟩ trivial
theorem ok9 (n : Nat) : FnOK Tryz.prog SW 9 [] (.one .bool) (fun x => F.law11_awake n ) := fnOK_of WOf.st (cx9_ok _ n) (d := 8) (fun x => by kernel_rfl)
noncomputable def cx12 (X : Type) (n : Nat) : Cx X := mkCx tab.get [(12, Tryz.f12)] [] [] [] [] []
theorem cx12_ok (X : Type) (n : Nat) : CxOK Tryz.prog SW (cx12 X n) := mkCx_ok mixed (tabOK tab_ok) ⟨⟨Tryz.func12, by decide⟩, trivial⟩ trivial ⟨okC_mk (fun _ => rfl) (by kernel_rfl) (castP (by kernel_rfl) (show True from trivial)) (castP (by kernel_rfl) (show True from trivial)), trivial⟩ trivial
theorem ok12 (n : Nat) : FnOK Tryz.prog SW 12 [] (.one (.sl .str .unk)) (fun x => F.ref11_Words n ) := fnOK_of WOf.st (cx12_ok _ n) (d := 8) (fun x => by kernel_rfl)
def F.ref11_Kind.L3.head : Shape := ⟨[(0, .str), (3, (.sl .str .unk)), (4, (.int .i64))], [], [], [], [], 0, 0, 0⟩
def F.ref11_Kind.L3.e0 : Shape := ⟨[], [], [], [], [], 0, 0, 0⟩
def F.ref11_Kind.L3.er : Shape := ⟨[(2, (.int .i64))], [], [], [], [], 0, 0, 0⟩
noncomputable def F.ref11_Kind.L3.f {X : Type} (n m : Nat) (ks : Ks X) (s : F.ref11_Kind.L3.head.den) : Option X := F.ref11_Kind.L3 n (fun (_ : Unit) => ks.ex 0 (F.ref11_Kind.L3.e0.e ((), (), (), ())) (F.ref11_Kind.L3.e0.h ((), (), (), ()))) (fun q2 => ks.ret (F.ref11_Kind.L3.er.e ((q2, ()), (), (), ())) (F.ref11_Kind.L3.er.h ((q2, ()), (), (), ()))) m s.1.1 s.1.2.1 s.1.2.2.1
noncomputable def F.ref11_Kind.L3.li (X : Type) (n : Nat) : LoopI X := ⟨8, ⟨0, 0, 0⟩, F.ref11_Kind.L3.head, [(0, F.ref11_Kind.L3.e0)], some F.ref11_Kind.L3.er, F.ref11_Kind.L3.f n n⟩
noncomputable def cx13 (X : Type) (n : Nat) : Cx X := mkCx tab.get [(13, Tryz.f13)] [(12, orcOf [] (.one (.sl .str .unk)) (fun x => F.ref11_Words n ))] [(13, 3, [F.ref11_Kind.L3.li X n])] [] [] []
theorem F.ref11_Kind.L3.ok (X : Type) (n : Nat) : LoopOK (cx13 X n) 13 Tryz.f13.ntmps (loopNo Tryz.f13 0) (F.ref11_Kind.L3.li X n) :=
  ⟨F.ref11_Kind.L3.f n, n, fun _ _ => rfl, fun _ _ => rfl, fun m ks s => by kernel_rfl⟩
theorem cx13_ok (X : Type) (n : Nat) : CxOK Tryz.prog SW (cx13 X n) := mkCx_ok mixed (tabOK tab_ok) ⟨⟨Tryz.func13, by decide⟩, trivial⟩ ⟨orcOf_ok (ok12 n), trivial⟩ ⟨okC_mk (fun _ => rfl) (by kernel_rfl) (castP (by kernel_rfl) (show (LoopOK (cx13 X n) 13 Tryz.f13.ntmps (loopNo Tryz.f13 0) (F.ref11_Kind.L3.li X n) ∧ True) ∧ True from ⟨⟨F.ref11_Kind.L3.ok X n, trivial⟩, trivial⟩)) (castP (by kernel_rfl) (show True from trivial)), trivial⟩ trivial
theorem ok13 (n : Nat) : FnOK Tryz.prog SW 13 [.str] (.one (.int .i64)) (fun x => F.ref11_Kind n x.1) := fnOK_of WOf.st (cx13_ok _ n) (d := 8) (fun x => by kernel_rfl)
noncomputable def cx109 (X : Type) (n : Nat) : Cx X := mkCx tab.get [(109, Tryz.f109)] [] [] [] [] []
theorem cx109_ok (X : Type) (n : Nat) : CxOK Tryz.prog SW (cx109 X n) := mkCx_ok mixed (tabOK tab_ok) ⟨⟨Tryz.func109, by decide⟩, trivial⟩ trivial ⟨okC_mk (fun _ => rfl) (by kernel_rfl) (castP (by kernel_rfl) (show True from trivial)) (castP (by kernel_rfl) (show True from trivial)), trivial⟩ trivial
theorem ok109 (n : Nat) : FnOK Tryz.prog SW 109 [.str] (.one .bool) (fun x => F.ref03_Fits n x.1) := fnOK_of WOf.st (cx109_ok _ n) (d := 8) (fun x => by kernel_rfl)
def F.ref03_Value.L3.head : Shape := ⟨[(0, .str), (3, (.int .u64)), (4, (.int .i64))], [], [], [], [], 0, 0, 0⟩
def F.ref03_Value.L3.e0 : Shape := ⟨[(3, (.int .u64))], [], [], [], [], 0, 0, 0⟩
noncomputable def F.ref03_Value.L3.f {X : Type} (n m : Nat) (ks : Ks X) (s : F.ref03_Value.L3.head.den) : Option X := F.ref03_Value.L3 n (fun q3 => ks.ex 0 (F.ref03_Value.L3.e0.e ((q3, ()), (), (), ())) (F.ref03_Value.L3.e0.h ((q3, ()), (), (), ()))) m s.1.1 s.1.2.1 s.1.2.2.1
noncomputable def F.ref03_Value.L3.li (X : Type) (n : Nat) : LoopI X := ⟨8, ⟨0, 0, 0⟩, F.ref03_Value.L3.head, [(0, F.ref03_Value.L3.e0)], none, F.ref03_Value.L3.f n n⟩
noncomputable def cx110 (X : Type) (n : Nat) : Cx X := mkCx tab.get [(110, Tryz.f110)] [] [(110, 3, [F.ref03_Value.L3.li X n])] [] [] []
theorem F.ref03_Value.L3.ok (X : Type) (n : Nat) : LoopOK (cx110 X n) 110 Tryz.f110.ntmps (loopNo Tryz.f110 0) (F.ref03_Value.L3.li X n) :=
  ⟨F.ref03_Value.L3.f n, n, fun _ _ => rfl, fun _ _ => rfl, fun m ks s => by kernel_rfl⟩
theorem cx110_ok (X : Type) (n : Nat) : CxOK Tryz.prog SW (cx110 X n) := mkCx_ok mixed (tabOK tab_ok) ⟨⟨Tryz.func110, by decide⟩, trivial⟩ trivial ⟨okC_mk (fun _ => rfl) (by kernel_rfl) (castP (by kernel_rfl) (show (LoopOK (cx110 X n) 110 Tryz.f110.ntmps (loopNo Tryz.f110 0) (F.ref03_Value.L3.li X n) ∧ True) ∧ True from ⟨⟨F.ref03_Value.L3.ok X n, trivial⟩, trivial⟩)) (castP (by kernel_rfl) (show True from trivial)), trivial⟩ trivial
theorem ok110 (n : Nat) : FnOK Tryz.prog SW 110 [.str] (.one (.int .u64)) (fun x => F.ref03_Value n x.1) := fnOK_of WOf.st (cx110_ok _ n) (d := 8) (fun x => by kernel_rfl)
def F.ref03_Make.L1.head : Shape := ⟨[(0, .bool), (1, .str), (2, (.int .i64)), (6, (.const (.ref 0 0)))], [[.bool, (.int .u64), (.int .i64)]], [], [], [], 1, 0, 0⟩
def F.ref03_Make.L1.e0 : Shape := ⟨[(0, .bool), (1, .str), (2, (.int .i64)), (6, (.const (.ref 0 0)))], [[.bool, (.int .u64), (.int .i64)]], [], [], [], 1, 0, 0⟩
noncomputable def F.ref03_Make.L1.f {X : Type} (n m : Nat) (ks : Ks X) (s : F.ref03_Make.L1.head.den) : Option X := F.ref03_Make.L1 n (fun q0 q1 q2 qb0_0 qb0_1 qb0_2 => ks.ex 0 (F.ref03_Make.L1.e0.e ((q0, q1, q2, (), ()), ((qb0_0, qb0_1, qb0_2, ()), ()), (), ())) (F.ref03_Make.L1.e0.h ((q0, q1, q2, (), ()), ((qb0_0, qb0_1, qb0_2, ()), ()), (), ()))) m s.1.1 s.1.2.1 s.1.2.2.1 s.2.1.1.1 s.2.1.1.2.1 s.2.1.1.2.2.1
noncomputable def F.ref03_Make.L1.li (X : Type) (n : Nat) : LoopI X := ⟨8, ⟨0, 0, 0⟩, F.ref03_Make.L1.head, [(0, F.ref03_Make.L1.e0)], none, F.ref03_Make.L1.f n n⟩
def F.ref03_Make.L7.head : Shape := ⟨[(0, .bool), (1, .str), (2, (.int .i64)), (6, (.const (.ref 0 0)))], [[.bool, (.int .u64), (.int .i64)]], [], [], [], 1, 0, 0⟩
def F.ref03_Make.L7.e2 : Shape := ⟨[(0, .bool), (1, .str), (2, (.int .i64)), (6, (.const (.ref 0 0)))], [[.bool, (.int .u64), (.int .i64)]], [], [], [], 1, 0, 0⟩
noncomputable def F.ref03_Make.L7.f {X : Type} (n m : Nat) (ks : Ks X) (s : F.ref03_Make.L7.head.den) : Option X := F.ref03_Make.L7 n (fun q0 q1 q2 qb0_0 qb0_1 qb0_2 => ks.ex 2 (F.ref03_Make.L7.e2.e ((q0, q1, q2, (), ()), ((qb0_0, qb0_1, qb0_2, ()), ()), (), ())) (F.ref03_Make.L7.e2.h ((q0, q1, q2, (), ()), ((qb0_0, qb0_1, qb0_2, ()), ()), (), ()))) m s.1.1 s.1.2.1 s.1.2.2.1 s.2.1.1.1 s.2.1.1.2.1 s.2.1.1.2.2.1
noncomputable def F.ref03_Make.L7.li (X : Type) (n : Nat) : LoopI X := ⟨8, ⟨0, 0, 0⟩, F.ref03_Make.L7.head, [(2, F.ref03_Make.L7.e2)], none, F.ref03_Make.L7.f n n⟩
def F.ref03_Make.L10.head : Shape := ⟨[(0, .bool), (1, .str), (2, (.int .i64)), (6, (.const (.ref 0 0)))], [[.bool, (.int .u64), (.int .i64)]], [], [], [], 1, 0, 0⟩
def F.ref03_Make.L10.e4 : Shape := ⟨[(0, .bool), (1, .str), (2, (.int .i64)), (6, (.const (.ref 0 0)))], [[.bool, (.int .u64), (.int .i64)]], [], [], [], 1, 0, 0⟩
noncomputable def F.ref03_Make.L10.f {X : Type} (n m : Nat) (ks : Ks X) (s : F.ref03_Make.L10.head.den) : Option X := F.ref03_Make.L10 n (fun q0 q1 q2 qb0_0 qb0_1 qb0_2 => ks.ex 4 (F.ref03_Make.L10.e4.e ((q0, q1, q2, (), ()), ((qb0_0, qb0_1, qb0_2, ()), ()), (), ())) (F.ref03_Make.L10.e4.h ((q0, q1, q2, (), ()), ((qb0_0, qb0_1, qb0_2, ()), ()), (), ()))) m s.1.1 s.1.2.1 s.1.2.2.1 s.2.1.1.1 s.2.1.1.2.1 s.2.1.1.2.2.1
noncomputable def F.ref03_Make.L10.li (X : Type) (n : Nat) : LoopI X := ⟨8, ⟨0, 0, 0⟩, F.ref03_Make.L10.head, [(4, F.ref03_Make.L10.e4)], none, F.ref03_Make.L10.f n n⟩
noncomputable def cx62 (X : Type) (n : Nat) : Cx X := mkCx tab.get [(62, Tryz.f62)] [(109, orcOf [.str] (.one .bool) (fun x => F.ref03_Fits n x.1)), (110, orcOf [.str] (.one (.int .u64)) (fun x => F.ref03_Value n x.1))] [(62, 1, [F.ref03_Make.L1.li X n]), (62, 7, [F.ref03_Make.L7.li X n]), (62, 10, [F.ref03_Make.L10.li X n])] [] [] []
theorem F.ref03_Make.L1.ok (X : Type) (n : Nat) : LoopOK (cx62 X n) 62 Tryz.f62.ntmps (loopNo Tryz.f62 0) (F.ref03_Make.L1.li X n) :=
  ⟨F.ref03_Make.L1.f n, n, fun _ _ => rfl, fun _ _ => rfl, fun m ks s => by kernel_rfl⟩
theorem F.ref03_Make.L7.ok (X : Type) (n : Nat) : LoopOK (cx62 X n) 62 Tryz.f62.ntmps (loopNo Tryz.f62 1) (F.ref03_Make.L7.li X n) :=
  ⟨F.ref03_Make.L7.f n, n, fun _ _ => rfl, fun _ _ => rfl, fun m ks s => by kernel_rfl⟩
theorem F.ref03_Make.L10.ok (X : Type) (n : Nat) : LoopOK (cx62 X n) 62 Tryz.f62.ntmps (loopNo Tryz.f62 2) (F.ref03_Make.L10.li X n) :=
  ⟨F.ref03_Make.L10.f n, n, fun _ _ => rfl, fun _ _ => rfl, fun m ks s => by kernel_rfl⟩
theorem cx62_ok (X : Type) (n : Nat) : CxOK Tryz.prog SW (cx62 X n) := mkCx_ok mixed (tabOK tab_ok) ⟨⟨Tryz.func62, by decide⟩, trivial⟩ ⟨orcOf_ok (ok109 n),
  orcOf_ok (ok110 n), trivial⟩ ⟨okC_mk (fun _ => rfl) (by kernel_rfl) (castP (by kernel_rfl) (show (LoopOK (cx62 X n) 62 Tryz.f62.ntmps (loopNo Tryz.f62 0) (F.ref03_Make.L1.li X n) ∧ True) ∧ (LoopOK (cx62 X n) 62 Tryz.f62.ntmps (loopNo Tryz.f62 1) (F.ref03_Make.L7.li X n) ∧ True) ∧ (LoopOK (cx62 X n) 62 Tryz.f62.ntmps (loopNo Tryz.f62 2) (F.ref03_Make.L10.li X n) ∧ True) ∧ True from ⟨⟨F.ref03_Make.L1.ok X n, trivial⟩, ⟨F.ref03_Make.L7.ok X n, trivial⟩, ⟨F.ref03_Make.L10.ok X n, trivial⟩, trivial⟩)) (castP (by kernel_rfl) (show True from trivial)), trivial⟩ trivial
theorem ok62 (n : Nat) : FnOK Tryz.prog SW 62 [.bool, .str, (.int .i64)] (.many [(.agg [.bool, (.int .u64), (.int .i64)]), .bool]) (fun x => F.ref03_Make n x.1 x.2.1 x.2.2.1) := fnOK_of WOf.st (cx62_ok _ n) (d := 8) (fun x => by kernel_rfl)
def F.ref07_Name.L2.head : Shape := ⟨[(0, .str), (3, (.int .i64))], [], [], [], [], 0, 0, 0⟩
def F.ref07_Name.L2.e0 : Shape := ⟨[(0, .str)], [], [], [], [], 0, 0, 0⟩
def F.ref07_Name.L2.er : Shape := ⟨[(2, .bool)], [], [], [], [], 0, 0, 0⟩
noncomputable def F.ref07_Name.L2.f {X : Type} (n m : Nat) (ks : Ks X) (s : F.ref07_Name.L2.head.den) : Option X := F.ref07_Name.L2 n (fun q0 => ks.ex 0 (F.ref07_Name.L2.e0.e ((q0, ()), (), (), ())) (F.ref07_Name.L2.e0.h ((q0, ()), (), (), ()))) (fun q2 => ks.ret (F.ref07_Name.L2.er.e ((q2, ()), (), (), ())) (F.ref07_Name.L2.er.h ((q2, ()), (), (), ()))) m s.1.1 s.1.2.1
noncomputable def F.ref07_Name.L2.li (X : Type) (n : Nat) : LoopI X := ⟨8, ⟨0, 0, 0⟩, F.ref07_Name.L2.head, [(0, F.ref07_Name.L2.e0)], some F.ref07_Name.L2.er, F.ref07_Name.L2.f n n⟩
noncomputable def cx64 (X : Type) (n : Nat) : Cx X := mkCx tab.get [(64, Tryz.f64)] [] [(64, 2, [F.ref07_Name.L2.li X n])] [] [] []
theorem F.ref07_Name.L2.ok (X : Type) (n : Nat) : LoopOK (cx64 X n) 64 Tryz.f64.ntmps (loopNo Tryz.f64 0) (F.ref07_Name.L2.li X n) :=
  ⟨F.ref07_Name.L2.f n, n, fun _ _ => rfl, fun _ _ => rfl, fun m ks s => by kernel_rfl⟩
theorem cx64_ok (X : Type) (n : Nat) : CxOK Tryz.prog SW (cx64 X n) := mkCx_ok mixed (tabOK tab_ok) ⟨⟨Tryz.func64, by decide⟩, trivial⟩ trivial ⟨okC_mk (fun _ => rfl) (by kernel_rfl) (castP (by kernel_rfl) (show (LoopOK (cx64 X n) 64 Tryz.f64.ntmps (loopNo Tryz.f64 0) (F.ref07_Name.L2.li X n) ∧ True) ∧ True from ⟨⟨F.ref07_Name.L2.ok X n, trivial⟩, trivial⟩)) (castP (by kernel_rfl) (show True from trivial)), trivial⟩ trivial
theorem ok64 (n : Nat) : FnOK Tryz.prog SW 64 [.str] (.one .bool) (fun x => F.ref07_Name n x.1) := fnOK_of WOf.st (cx64_ok _ n) (d := 8) (fun x => by kernel_rfl)
noncomputable def cx190 (X : Type) (n : Nat) : Cx X := mkCx tab.get [(190, Tryz.f190)] [] [] [] [] []
theorem cx190_ok (X : Type) (n : Nat) : CxOK Tryz.prog SW (cx190 X n) := mkCx_ok mixed (tabOK tab_ok) ⟨⟨Tryz.func190, by decide⟩, trivial⟩ trivial ⟨okC_mk (fun _ => rfl) (by kernel_rfl) (castP (by kernel_rfl) (show True from trivial)) (castP (by kernel_rfl) (show True from trivial)), trivial⟩ trivial
theorem ok190 (n : Nat) : FnOK Tryz.prog SW 190 [(.int .i64)] (.one .str) (fun x => F.ref04_Bytes n x.1) := fnOK_of WOf.st (cx190_ok _ n) (d := 8) (fun x => by kernel_rfl)
def F.ref04_Is.L3.head : Shape := ⟨[(1, (.int .u8)), (5, .str), (6, (.int .i64))], [], [], [], [], 0, 0, 0⟩
def F.ref04_Is.L3.e0 : Shape := ⟨[], [], [], [], [], 0, 0, 0⟩
def F.ref04_Is.L3.er : Shape := ⟨[(4, .bool)], [], [], [], [], 0, 0, 0⟩
noncomputable def F.ref04_Is.L3.f {X : Type} (n m : Nat) (ks : Ks X) (s : F.ref04_Is.L3.head.den) : Option X := F.ref04_Is.L3 n (fun (_ : Unit) => ks.ex 0 (F.ref04_Is.L3.e0.e ((), (), (), ())) (F.ref04_Is.L3.e0.h ((), (), (), ()))) (fun q4 => ks.ret (F.ref04_Is.L3.er.e ((q4, ()), (), (), ())) (F.ref04_Is.L3.er.h ((q4, ()), (), (), ()))) m s.1.1 s.1.2.1 s.1.2.2.1
noncomputable def F.ref04_Is.L3.li (X : Type) (n : Nat) : LoopI X := ⟨8, ⟨0, 0, 0⟩, F.ref04_Is.L3.head, [(0, F.ref04_Is.L3.e0)], some F.ref04_Is.L3.er, F.ref04_Is.L3.f n n⟩
noncomputable def cx163 (X : Type) (n : Nat) : Cx X := mkCx tab.get [(163, Tryz.f163)] [(190, orcOf [(.int .i64)] (.one .str) (fun x => F.ref04_Bytes n x.1))] [(163, 3, [F.ref04_Is.L3.li X n])] [] [] []
theorem F.ref04_Is.L3.ok (X : Type) (n : Nat) : LoopOK (cx163 X n) 163 Tryz.f163.ntmps (loopNo Tryz.f163 0) (F.ref04_Is.L3.li X n) :=
  ⟨F.ref04_Is.L3.f n, n, fun _ _ => rfl, fun _ _ => rfl, fun m ks s => by kernel_rfl⟩
theorem cx163_ok (X : Type) (n : Nat) : CxOK Tryz.prog SW (cx163 X n) := mkCx_ok mixed (tabOK tab_ok) ⟨⟨Tryz.func163, by decide⟩, trivial⟩ ⟨orcOf_ok (ok190 n), trivial⟩ ⟨okC_mk (fun _ => rfl) (by kernel_rfl) (castP (by kernel_rfl) (show (LoopOK (cx163 X n) 163 Tryz.f163.ntmps (loopNo Tryz.f163 0) (F.ref04_Is.L3.li X n) ∧ True) ∧ True from ⟨⟨F.ref04_Is.L3.ok X n, trivial⟩, trivial⟩)) (castP (by kernel_rfl) (show True from trivial)), trivial⟩ trivial
theorem ok163 (n : Nat) : FnOK Tryz.prog SW 163 [(.int .i64), (.int .u8)] (.one .bool) (fun x => F.ref04_Is n x.1 x.2.1) := fnOK_of WOf.st (cx163_ok _ n) (d := 8) (fun x => by kernel_rfl)
def F.ref04_Bad.L2.head : Shape := ⟨[(0, (.int .i64)), (1, .str), (5, (.int .i64))], [], [], [], [], 0, 0, 0⟩
def F.ref04_Bad.L2.e0 : Shape := ⟨[], [], [], [], [], 0, 0, 0⟩
def F.ref04_Bad.L2.er : Shape := ⟨[(4, (.int .i64))], [], [], [], [], 0, 0, 0⟩
noncomputable def F.ref04_Bad.L2.f {X : Type} (n m : Nat) (ks : Ks X) (s : F.ref04_Bad.L2.head.den) : Option X := F.ref04_Bad.L2 n (fun (_ : Unit) => ks.ex 0 (F.ref04_Bad.L2.e0.e ((), (), (), ())) (F.ref04_Bad.L2.e0.h ((), (), (), ()))) (fun q4 => ks.ret (F.ref04_Bad.L2.er.e ((q4, ()), (), (), ())) (F.ref04_Bad.L2.er.h ((q4, ()), (), (), ()))) m s.1.1 s.1.2.1 s.1.2.2.1
noncomputable def F.ref04_Bad.L2.li (X : Type) (n : Nat) : LoopI X := ⟨8, ⟨0, 0, 0⟩, F.ref04_Bad.L2.head, [(0, F.ref04_Bad.L2.e0)], some F.ref04_Bad.L2.er, F.ref04_Bad.L2.f n n⟩
noncomputable def cx125 (X : Type) (n : Nat) : Cx X := mkCx tab.get [(125, Tryz.f125)] [(163, orcOf [(.int .i64), (.int .u8)] (.one .bool) (fun x => F.ref04_Is n x.1 x.2.1))] [(125, 2, [F.ref04_Bad.L2.li X n])] [] [] []
theorem F.ref04_Bad.L2.ok (X : Type) (n : Nat) : LoopOK (cx125 X n) 125 Tryz.f125.ntmps (loopNo Tryz.f125 0) (F.ref04_Bad.L2.li X n) :=
  ⟨F.ref04_Bad.L2.f n, n, fun _ _ => rfl, fun _ _ => rfl, fun m ks s => by kernel_rfl⟩
theorem cx125_ok (X : Type) (n : Nat) : CxOK Tryz.prog SW (cx125 X n) := mkCx_ok mixed (tabOK tab_ok) ⟨⟨Tryz.func125, by decide⟩, trivial⟩ ⟨orcOf_ok (ok163 n), trivial⟩ ⟨okC_mk (fun _ => rfl) (by kernel_rfl) (castP (by kernel_rfl) (show (LoopOK (cx125 X n) 125 Tryz.f125.ntmps (loopNo Tryz.f125 0) (F.ref04_Bad.L2.li X n) ∧ True) ∧ True from ⟨⟨F.ref04_Bad.L2.ok X n, trivial⟩, trivial⟩)) (castP (by kernel_rfl) (show True from trivial)), trivial⟩ trivial
theorem ok125 (n : Nat) : FnOK Tryz.prog SW 125 [(.int .i64), .str] (.one (.int .i64)) (fun x => F.ref04_Bad n x.1 x.2.1) := fnOK_of WOf.st (cx125_ok _ n) (d := 8) (fun x => by kernel_rfl)
noncomputable def cx149 (X : Type) (n : Nat) : Cx X := mkCx tab.get [(149, Tryz.f149)] [(125, orcOf [(.int .i64), .str] (.one (.int .i64)) (fun x => F.ref04_Bad n x.1 x.2.1))] [] [] [] []
theorem cx149_ok (X : Type) (n : Nat) : CxOK Tryz.prog SW (cx149 X n) := mkCx_ok mixed (tabOK tab_ok) ⟨⟨Tryz.func149, by decide⟩, trivial⟩ ⟨orcOf_ok (ok125 n), trivial⟩ ⟨okC_mk (fun _ => rfl) (by kernel_rfl) (castP (by kernel_rfl) (show True from trivial)) (castP (by kernel_rfl) (show True from trivial)), trivial⟩ trivial
theorem ok149 (n : Nat) : FnOK Tryz.prog SW 149 [(.int .i64), .str, (.int .i64), (.int .i64)] (.one (.agg [(.int .i64), (.int .i64)])) (fun x => F.ref04_Text n x.1 x.2.1 x.2.2.1 x.2.2.2.1) := fnOK_of WOf.st (cx149_ok _ n) (d := 8) (fun x => by kernel_rfl)
noncomputable def cx111 (X : Type) (n : Nat) : Cx X := mkCx tab.get [(111, Tryz.f111)] [(149, orcOf [(.int .i64), .str, (.int .i64), (.int .i64)] (.one (.agg [(.int .i64), (.int .i64)])) (fun x => F.ref04_Text n x.1 x.2.1 x.2.2.1 x.2.2.2.1))] [] [] [] []
theorem cx111_ok (X : Type) (n : Nat) : CxOK Tryz.prog SW (cx111 X n) := mkCx_ok mixed (tabOK tab_ok) ⟨⟨Tryz.func111, by decide⟩, trivial⟩ ⟨orcOf_ok (ok149 n), trivial⟩ ⟨okC_mk (fun _ => rfl) (by kernel_rfl) (castP (by kernel_rfl) (show True from trivial)) (castP (by kernel_rfl) (show True from trivial)), trivial⟩ trivial
theorem ok111 (n : Nat) : FnOK Tryz.prog SW 111 [(.agg [.str, .str])] (.one .bool) (fun x => F.ref06_Right n x.1) := fnOK_of WOf.st (cx111_ok _ n) (d := 8) (fun x => by kernel_rfl)
def F.ref06_Ahead.L2.head : Shape := ⟨[(0, .str), (1, .str), (5, (.int .i64))], [], [], [], [], 0, 0, 0⟩
def F.ref06_Ahead.L2.e0 : Shape := ⟨[(0, .str), (1, .str)], [], [], [], [], 0, 0, 0⟩
def F.ref06_Ahead.L2.er : Shape := ⟨[(4, .bool)], [], [], [], [], 0, 0, 0⟩
noncomputable def F.ref06_Ahead.L2.f {X : Type} (n m : Nat) (ks : Ks X) (s : F.ref06_Ahead.L2.head.den) : Option X := F.ref06_Ahead.L2 n (fun q0 q1 => ks.ex 0 (F.ref06_Ahead.L2.e0.e ((q0, q1, ()), (), (), ())) (F.ref06_Ahead.L2.e0.h ((q0, q1, ()), (), (), ()))) (fun q4 => ks.ret (F.ref06_Ahead.L2.er.e ((q4, ()), (), (), ())) (F.ref06_Ahead.L2.er.h ((q4, ()), (), (), ()))) m s.1.1 s.1.2.1 s.1.2.2.1
noncomputable def F.ref06_Ahead.L2.li (X : Type) (n : Nat) : LoopI X := ⟨8, ⟨0, 0, 0⟩, F.ref06_Ahead.L2.head, [(0, F.ref06_Ahead.L2.e0)], some F.ref06_Ahead.L2.er, F.ref06_Ahead.L2.f n n⟩
noncomputable def cx112 (X : Type) (n : Nat) : Cx X := mkCx tab.get [(112, Tryz.f112)] [] [(112, 2, [F.ref06_Ahead.L2.li X n])] [] [] []
theorem F.ref06_Ahead.L2.ok (X : Type) (n : Nat) : LoopOK (cx112 X n) 112 Tryz.f112.ntmps (loopNo Tryz.f112 0) (F.ref06_Ahead.L2.li X n) :=
  ⟨F.ref06_Ahead.L2.f n, n, fun _ _ => rfl, fun _ _ => rfl, fun m ks s => by kernel_rfl⟩
theorem cx112_ok (X : Type) (n : Nat) : CxOK Tryz.prog SW (cx112 X n) := mkCx_ok mixed (tabOK tab_ok) ⟨⟨Tryz.func112, by decide⟩, trivial⟩ trivial ⟨okC_mk (fun _ => rfl) (by kernel_rfl) (castP (by kernel_rfl) (show (LoopOK (cx112 X n) 112 Tryz.f112.ntmps (loopNo Tryz.f112 0) (F.ref06_Ahead.L2.li X n) ∧ True) ∧ True from ⟨⟨F.ref06_Ahead.L2.ok X n, trivial⟩, trivial⟩)) (castP (by kernel_rfl) (show True from trivial)), trivial⟩ trivial
theorem ok112 (n : Nat) : FnOK Tryz.prog SW 112 [.str, .str] (.one .bool) (fun x => F.ref06_Ahead n x.1 x.2.1) := fnOK_of WOf.st (cx112_ok _ n) (d := 8) (fun x => by kernel_rfl)
noncomputable def cx66 (X : Type) (n : Nat) : Cx X := mkCx tab.get [(66, Tryz.f66)] [(112, orcOf [.str, .str] (.one .bool) (fun x => F.ref06_Ahead n x.1 x.2.1))] [] [] [] []
theorem cx66_ok (X : Type) (n : Nat) : CxOK Tryz.prog SW (cx66 X n) := mkCx_ok mixed (tabOK tab_ok) ⟨⟨Tryz.func66, by decide⟩, trivial⟩ ⟨orcOf_ok (ok112 n), trivial⟩ ⟨okC_mk (fun _ => rfl) (by kernel_rfl) (castP (by kernel_rfl) (show True from trivial)) (castP (by kernel_rfl) (show True from trivial)), trivial⟩ trivial
theorem ok66 (n : Nat) : FnOK Tryz.prog SW 66 [(.agg [.str, .str]), (.agg [.str, .str])] (.one .bool) (fun x => F.ref06_Less n x.1 x.2.1) := fnOK_of WOf.st (cx66_ok _ n) (d := 8) (fun x => by kernel_rfl)
def F.ref06_Normal.L8.head : Shape := ⟨[(0, (.sl (.agg [.str, .str]) .unk)), (3, (.sl (.agg [.str, .str]) (.own 0))), (4, (.int .i64)), (5, (.sl (.agg [.str, .str]) (.own 1))), (6, .bool), (7, (.int .i64))], [], [true, true], [], [], 0, 0, 0⟩
def F.ref06_Normal.L8.e2 : Shape := ⟨[(0, (.sl (.agg [.str, .str]) .unk)), (4, (.int .i64)), (5, (.sl (.agg [.str, .str]) (.own 0))), (6, .bool)], [], [true], [], [], 0, 0, 0⟩
noncomputable def F.ref06_Normal.L8.f {X : Type} (n m : Nat) (ks : Ks X) (s : F.ref06_Normal.L8.head.den) : Option X := F.ref06_Normal.L8 n (fun q0 q4 q5 q6 qk0 => ks.ex 2 (F.ref06_Normal.L8.e2.e ((q0, q4, q5, q6, ()), (), (qk0, ()), ())) (F.ref06_Normal.L8.e2.h ((q0, q4, q5, q6, ()), (), (qk0, ()), ()))) m s.1.1 s.1.2.1 s.1.2.2.1 s.1.2.2.2.1 s.1.2.2.2.2.1 s.1.2.2.2.2.2.1 s.2.2.1.1 s.2.2.1.2.1
noncomputable def F.ref06_Normal.L8.li (X : Type) (n : Nat) : LoopI X := ⟨8, ⟨0, 0, 0⟩, F.ref06_Normal.L8.head, [(2, F.ref06_Normal.L8.e2)], none, F.ref06_Normal.L8.f n n⟩
def F.ref06_Normal.L3.head : Shape := ⟨[(0, (.sl (.agg [.str, .str]) .unk)), (3, (.sl (.agg [.str, .str]) (.own 0))), (4, (.int .i64))], [], [true], [], [], 0, 0, 0⟩
def F.ref06_Normal.L3.e0 : Shape := ⟨[(3, (.sl (.agg [.str, .str]) (.own 0)))], [], [true], [], [], 0, 0, 0⟩
noncomputable def F.ref06_Normal.L3.f {X : Type} (n m : Nat) (ks : Ks X) (s : F.ref06_Normal.L3.head.den) : Option X := F.ref06_Normal.L3 n (fun q3 qk0 => ks.ex 0 (F.ref06_Normal.L3.e0.e ((q3, ()), (), (qk0, ()), ())) (F.ref06_Normal.L3.e0.h ((q3, ()), (), (qk0, ()), ()))) m s.1.1 s.1.2.1 s.1.2.2.1 s.2.2.1.1
noncomputable def F.ref06_Normal.L3.li (X : Type) (n : Nat) : LoopI X := ⟨8, ⟨0, 0, 0⟩, F.ref06_Normal.L3.head, [(0, F.ref06_Normal.L3.e0)], none, F.ref06_Normal.L3.f n n⟩
noncomputable def cx35 (X : Type) (n : Nat) : Cx X := mkCx tab.get [(35, Tryz.f35)] [(66, orcOf [(.agg [.str, .str]), (.agg [.str, .str])] (.one .bool) (fun x => F.ref06_Less n x.1 x.2.1))] [(35, 3, [F.ref06_Normal.L3.li X n]), (35, 8, [F.ref06_Normal.L8.li X n])] [] [] []
theorem F.ref06_Normal.L8.ok (X : Type) (n : Nat) : LoopOK (cx35 X n) 35 Tryz.f35.ntmps (loopNo Tryz.f35 1) (F.ref06_Normal.L8.li X n) :=
  ⟨F.ref06_Normal.L8.f n, n, fun _ _ => rfl, fun _ _ => rfl, fun m ks s => by kernel_rfl⟩
theorem F.ref06_Normal.L3.ok (X : Type) (n : Nat) : LoopOK (cx35 X n) 35 Tryz.f35.ntmps (loopNo Tryz.f35 0) (F.ref06_Normal.L3.li X n) :=
  ⟨F.ref06_Normal.L3.f n, n, fun _ _ => rfl, fun _ _ => rfl, fun m ks s => by kernel_rfl⟩
theorem cx35_ok (X : Type) (n : Nat) : CxOK Tryz.prog SW (cx35 X n) := mkCx_ok mixed (tabOK tab_ok) ⟨⟨Tryz.func35, by decide⟩, trivial⟩ ⟨orcOf_ok (ok66 n), trivial⟩ ⟨okC_mk (fun _ => rfl) (by kernel_rfl) (castP (by kernel_rfl) (show (LoopOK (cx35 X n) 35 Tryz.f35.ntmps (loopNo Tryz.f35 0) (F.ref06_Normal.L3.li X n) ∧ True) ∧ (LoopOK (cx35 X n) 35 Tryz.f35.ntmps (loopNo Tryz.f35 1) (F.ref06_Normal.L8.li X n) ∧ True) ∧ True from ⟨⟨F.ref06_Normal.L3.ok X n, trivial⟩, ⟨F.ref06_Normal.L8.ok X n, trivial⟩, trivial⟩)) (castP (by kernel_rfl) (show True from trivial)), trivial⟩ trivial
theorem ok35 (n : Nat) : FnOK Tryz.prog SW 35 [(.sl (.agg [.str, .str]) .unk)] (.one (.sl (.agg [.str, .str]) .unk)) (fun x => F.ref06_Normal n x.1) := fnOK_of WOf.st (cx35_ok _ n) (d := 8) (fun x => by kernel_rfl)
noncomputable def cx68 (X : Type) (n : Nat) : Cx X := mkCx tab.get [(68, Tryz.f68)] [] [] [] [] []
theorem cx68_ok (X : Type) (n : Nat) : CxOK Tryz.prog SW (cx68 X n) := mkCx_ok mixed (tabOK tab_ok) ⟨⟨Tryz.func68, by decide⟩, trivial⟩ trivial ⟨okC_mk (fun _ => rfl) (by kernel_rfl) (castP (by kernel_rfl) (show True from trivial)) (castP (by kernel_rfl) (show True from trivial)), trivial⟩ trivial
theorem ok68 (n : Nat) : FnOK Tryz.prog SW 68 [(.agg [.str, .str])] (.one .str) (fun x => F.ref06_One n x.1) := fnOK_of WOf.st (cx68_ok _ n) (d := 8) (fun x => by kernel_rfl)
def F.ref11_Cut.L3.head : Shape := ⟨[(0, .str), (1, (.int .u8)), (2, (.int .i64)), (7, (.ms 1 (.agg [(.int .i64), .str]))), (8, (.int .i64))], [[(.row (.agg [(.int .i64), .str]))], [(.row (.agg [(.int .i64), .str]))]], [], [], [], 2, 0, 0⟩
def F.ref11_Cut.L3.e0 : Shape := ⟨[(7, (.ms 1 (.agg [(.int .i64), .str])))], [[(.row (.agg [(.int .i64), .str]))], [(.row (.agg [(.int .i64), .str]))]], [], [], [], 2, 0, 0⟩
noncomputable def F.ref11_Cut.L3.f {X : Type} (n m : Nat) (ks : Ks X) (s : F.ref11_Cut.L3.head.den) : Option X := F.ref11_Cut.L3 n (fun q7 qb0_0 qb1_0 => ks.ex 0 (F.ref11_Cut.L3.e0.e ((q7, ()), ((qb0_0, ()), (qb1_0, ()), ()), (), ())) (F.ref11_Cut.L3.e0.h ((q7, ()), ((qb0_0, ()), (qb1_0, ()), ()), (), ()))) m s.1.1 s.1.2.1 s.1.2.2.1 s.1.2.2.2.1 s.1.2.2.2.2.1 s.2.1.1.1 s.2.1.2.1.1
noncomputable def F.ref11_Cut.L3.li (X : Type) (n : Nat) : LoopI X := ⟨8, ⟨0, 0, 0⟩, F.ref11_Cut.L3.head, [(0, F.ref11_Cut.L3.e0)], none, F.ref11_Cut.L3.f n n⟩
noncomputable def cx44 (X : Type) (n : Nat) : Cx X := mkCx tab.get [(44, Tryz.f44)] [] [(44, 3, [F.ref11_Cut.L3.li X n])] [] [] [] [] [(82, (.agg [(.int .i64), .str]))]
theorem F.ref11_Cut.L3.ok (X : Type) (n : Nat) : LoopOK (cx44 X n) 44 Tryz.f44.ntmps (loopNo Tryz.f44 0) (F.ref11_Cut.L3.li X n) :=
  ⟨F.ref11_Cut.L3.f n, n, fun _ _ => rfl, fun _ _ => rfl, fun m ks s => by kernel_rfl⟩
theorem cx44_ok (X : Type) (n : Nat) : CxOK Tryz.prog SW (cx44 X n) := mkCx_ok mixed (tabOK tab_ok) ⟨⟨Tryz.func44, by decide⟩, trivial⟩ trivial ⟨okC_mk (fun _ => rfl) (by kernel_rfl) (castP (by kernel_rfl) (show (LoopOK (cx44 X n) 44 Tryz.f44.ntmps (loopNo Tryz.f44 0) (F.ref11_Cut.L3.li X n) ∧ True) ∧ True from ⟨⟨F.ref11_Cut.L3.ok X n, trivial⟩, trivial⟩)) (castP (by kernel_rfl) (show True from trivial)), trivial⟩ trivial
theorem ok44 (n : Nat) : FnOK Tryz.prog SW 44 [.str, (.int .u8), (.int .i64)] (.one (.sl (.agg [(.int .i64), .str]) .unk)) (fun x => F.ref11_Cut n x.1 x.2.1 x.2.2.1) := fnOK_of WOf.st (cx44_ok _ n) (d := 8) (fun x => by kernel_rfl)
noncomputable def cx124 (X : Type) (n : Nat) : Cx X := mkCx tab.get [(124, Tryz.f124)] [] [] [] [] []
theorem cx124_ok (X : Type) (n : Nat) : CxOK Tryz.prog SW (cx124 X n) := mkCx_ok mixed (tabOK tab_ok) ⟨⟨Tryz.func124, by decide⟩, trivial⟩ trivial ⟨okC_mk (fun _ => rfl) (by kernel_rfl) (castP (by kernel_rfl) (show True from trivial)) (castP (by kernel_rfl) (show True from trivial)), trivial⟩ trivial
theorem ok124 (n : Nat) : FnOK Tryz.prog SW 124 [(.int .u8)] (.one .bool) (fun x => F.ref03_digit n x.1) := fnOK_of WOf.st (cx124_ok _ n) (d := 8) (fun x => by kernel_rfl)
def F.ref03_Parse.L8.head : Shape := ⟨[(0, .str), (2, (.const (.ref 0 0))), (3, (.const (.ref 1 0))), (4, .bool), (5, (.int .i64)), (6, .str), (7, (.int .i64)), (8, .bool)], [[.bool, (.int .u64), (.int .i64)], [(.int .i64), (.int .i64)]], [], [], [], 2, 0, 0⟩
def F.ref03_Parse.L8.e0 : Shape := ⟨[(0, .str), (2, (.const (.ref 0 0))), (3, (.const (.ref 1 0))), (4, .bool), (6, .str), (7, (.int .i64)), (8, .bool)], [[.bool, (.int .u64), (.int .i64)], [(.int .i64), (.int .i64)]], [], [], [], 2, 0, 0⟩
def F.ref03_Parse.L8.er : Shape := ⟨[(2, (.const (.ref 0 0))), (3, (.const (.ref 1 0)))], [[.bool, (.int .u64), (.int .i64)], [(.int .i64), (.int .i64)]], [], [], [], 2, 0, 0⟩
noncomputable def F.ref03_Parse.L8.f {X : Type} (n m : Nat) (ks : Ks X) (s : F.ref03_Parse.L8.head.den) : Option X := F.ref03_Parse.L8 n (fun q0 q4 q6 q7 q8 qb0_0 qb0_1 qb0_2 qb1_0 qb1_1 => ks.ex 0 (F.ref03_Parse.L8.e0.e ((q0, (), (), q4, q6, q7, q8, ()), ((qb0_0, qb0_1, qb0_2, ()), (qb1_0, qb1_1, ()), ()), (), ())) (F.ref03_Parse.L8.e0.h ((q0, (), (), q4, q6, q7, q8, ()), ((qb0_0, qb0_1, qb0_2, ()), (qb1_0, qb1_1, ()), ()), (), ()))) (fun qb0_0 qb0_1 qb0_2 qb1_0 qb1_1 => ks.ret (F.ref03_Parse.L8.er.e (((), (), ()), ((qb0_0, qb0_1, qb0_2, ()), (qb1_0, qb1_1, ()), ()), (), ())) (F.ref03_Parse.L8.er.h (((), (), ()), ((qb0_0, qb0_1, qb0_2, ()), (qb1_0, qb1_1, ()), ()), (), ()))) m s.1.1 s.1.2.2.2.1 s.1.2.2.2.2.1 s.1.2.2.2.2.2.1 s.1.2.2.2.2.2.2.1 s.1.2.2.2.2.2.2.2.1 s.2.1.1.1 s.2.1.1.2.1 s.2.1.1.2.2.1 s.2.1.2.1.1 s.2.1.2.1.2.1
noncomputable def F.ref03_Parse.L8.li (X : Type) (n : Nat) : LoopI X := ⟨8, ⟨0, 0, 0⟩, F.ref03_Parse.L8.head, [(0, F.ref03_Parse.L8.e0)], some F.ref03_Parse.L8.er, F.ref03_Parse.L8.f n n⟩
noncomputable def cx78 (X : Type) (n : Nat) : Cx X := mkCx tab.get [(78, Tryz.f78)] [(62, orcOf [.bool, .str, (.int .i64)] (.many [(.agg [.bool, (.int .u64), (.int .i64)]), .bool]) (fun x => F.ref03_Make n x.1 x.2.1 x.2.2.1)), (124, orcOf [(.int .u8)] (.one .bool) (fun x => F.ref03_digit n x.1))] [(78, 8, [F.ref03_Parse.L8.li X n])] [] [] []
theorem F.ref03_Parse.L8.ok (X : Type) (n : Nat) : LoopOK (cx78 X n) 78 Tryz.f78.ntmps (loopNo Tryz.f78 0) (F.ref03_Parse.L8.li X n) :=
  ⟨F.ref03_Parse.L8.f n, n, fun _ _ => rfl, fun _ _ => rfl, fun m ks s => by kernel_rfl⟩
theorem cx78_ok (X : Type) (n : Nat) : CxOK Tryz.prog SW (cx78 X n) := mkCx_ok mixed (tabOK tab_ok) ⟨⟨Tryz.func78, by decide⟩, trivial⟩ ⟨orcOf_ok (ok62 n),
  orcOf_ok (ok124 n), trivial⟩ ⟨okC_mk (fun _ => rfl) (by kernel_rfl) (castP (by kernel_rfl) (show (LoopOK (cx78 X n) 78 Tryz.f78.ntmps (loopNo Tryz.f78 0) (F.ref03_Parse.L8.li X n) ∧ True) ∧ True from ⟨⟨F.ref03_Parse.L8.ok X n, trivial⟩, trivial⟩)) (castP (by kernel_rfl) (show True from trivial)), trivial⟩ trivial
theorem ok78 (n : Nat) : FnOK Tryz.prog SW 78 [.str] (.many [(.agg [.bool, (.int .u64), (.int .i64)]), (.agg [(.int .i64), (.int .i64)])]) (fun x => F.ref03_Parse n x.1) := fnOK_of WOf.st (cx78_ok _ n) (d := 8) (fun x => by kernel_rfl)
def F.ref05_Value.L3.head : Shape := ⟨[(0, .str), (4, (.int .i64)), (5, (.int .i64))], [], [], [], [], 0, 0, 0⟩
def F.ref05_Value.L3.e0 : Shape := ⟨[(4, (.int .i64))], [], [], [], [], 0, 0, 0⟩
def F.ref05_Value.L3.er : Shape := ⟨[(2, (.int .i64)), (3, .bool)], [], [], [], [], 0, 0, 0⟩
noncomputable def F.ref05_Value.L3.f {X : Type} (n m : Nat) (ks : Ks X) (s : F.ref05_Value.L3.head.den) : Option X := F.ref05_Value.L3 n (fun q4 => ks.ex 0 (F.ref05_Value.L3.e0.e ((q4, ()), (), (), ())) (F.ref05_Value.L3.e0.h ((q4, ()), (), (), ()))) (fun q2 q3 => ks.ret (F.ref05_Value.L3.er.e ((q2, q3, ()), (), (), ())) (F.ref05_Value.L3.er.h ((q2, q3, ()), (), (), ()))) m s.1.1 s.1.2.1 s.1.2.2.1
noncomputable def F.ref05_Value.L3.li (X : Type) (n : Nat) : LoopI X := ⟨8, ⟨0, 0, 0⟩, F.ref05_Value.L3.head, [(0, F.ref05_Value.L3.e0)], some F.ref05_Value.L3.er, F.ref05_Value.L3.f n n⟩
noncomputable def cx126 (X : Type) (n : Nat) : Cx X := mkCx tab.get [(126, Tryz.f126)] [] [(126, 3, [F.ref05_Value.L3.li X n])] [] [] []
theorem F.ref05_Value.L3.ok (X : Type) (n : Nat) : LoopOK (cx126 X n) 126 Tryz.f126.ntmps (loopNo Tryz.f126 0) (F.ref05_Value.L3.li X n) :=
  ⟨F.ref05_Value.L3.f n, n, fun _ _ => rfl, fun _ _ => rfl, fun m ks s => by kernel_rfl⟩
theorem cx126_ok (X : Type) (n : Nat) : CxOK Tryz.prog SW (cx126 X n) := mkCx_ok mixed (tabOK tab_ok) ⟨⟨Tryz.func126, by decide⟩, trivial⟩ trivial ⟨okC_mk (fun _ => rfl) (by kernel_rfl) (castP (by kernel_rfl) (show (LoopOK (cx126 X n) 126 Tryz.f126.ntmps (loopNo Tryz.f126 0) (F.ref05_Value.L3.li X n) ∧ True) ∧ True from ⟨⟨F.ref05_Value.L3.ok X n, trivial⟩, trivial⟩)) (castP (by kernel_rfl) (show True from trivial)), trivial⟩ trivial
theorem ok126 (n : Nat) : FnOK Tryz.prog SW 126 [.str] (.many [(.int .i64), .bool]) (fun x => F.ref05_Value n x.1) := fnOK_of WOf.st (cx126_ok _ n) (d := 8) (fun x => by kernel_rfl)
def F.ref05_Rate.L17.head : Shape := ⟨[(3, (.const (.ref 0 0))), (4, .str)], [[(.int .i64), (.int .i64)]], [], [], [], 1, 0, 0⟩
def F.ref05_Rate.L17.e0 : Shape := ⟨[(3, (.const (.ref 0 0))), (4, .str)], [[(.int .i64), (.int .i64)]], [], [], [], 1, 0, 0⟩
noncomputable def F.ref05_Rate.L17.f {X : Type} (n m : Nat) (ks : Ks X) (s : F.ref05_Rate.L17.head.den) : Option X := F.ref05_Rate.L17 n (fun q4 qb0_0 qb0_1 => ks.ex 0 (F.ref05_Rate.L17.e0.e (((), q4, ()), ((qb0_0, qb0_1, ()), ()), (), ())) (F.ref05_Rate.L17.e0.h (((), q4, ()), ((qb0_0, qb0_1, ()), ()), (), ()))) m s.1.2.1 s.2.1.1.1 s.2.1.1.2.1
noncomputable def F.ref05_Rate.L17.li (X : Type) (n : Nat) : LoopI X := ⟨8, ⟨0, 0, 0⟩, F.ref05_Rate.L17.head, [(0, F.ref05_Rate.L17.e0)], none, F.ref05_Rate.L17.f n n⟩
noncomputable def cx79 (X : Type) (n : Nat) : Cx X := mkCx tab.get [(79, Tryz.f79)] [(125, orcOf [(.int .i64), .str] (.one (.int .i64)) (fun x => F.ref04_Bad n x.1 x.2.1)), (126, orcOf [.str] (.many [(.int .i64), .bool]) (fun x => F.ref05_Value n x.1))] [(79, 17, [F.ref05_Rate.L17.li X n])] [] [] []
theorem F.ref05_Rate.L17.ok (X : Type) (n : Nat) : LoopOK (cx79 X n) 79 Tryz.f79.ntmps (loopNo Tryz.f79 0) (F.ref05_Rate.L17.li X n) :=
  ⟨F.ref05_Rate.L17.f n, n, fun _ _ => rfl, fun _ _ => rfl, fun m ks s => by kernel_rfl⟩
theorem cx79_ok (X : Type) (n : Nat) : CxOK Tryz.prog SW (cx79 X n) := mkCx_ok mixed (tabOK tab_ok) ⟨⟨Tryz.func79, by decide⟩, trivial⟩ ⟨orcOf_ok (ok125 n),
  orcOf_ok (ok126 n), trivial⟩ ⟨okC_mk (fun _ => rfl) (by kernel_rfl) (castP (by kernel_rfl) (show (LoopOK (cx79 X n) 79 Tryz.f79.ntmps (loopNo Tryz.f79 0) (F.ref05_Rate.L17.li X n) ∧ True) ∧ True from ⟨⟨F.ref05_Rate.L17.ok X n, trivial⟩, trivial⟩)) (castP (by kernel_rfl) (show True from trivial)), trivial⟩ trivial
theorem ok79 (n : Nat) : FnOK Tryz.prog SW 79 [.str] (.many [(.int .i64), (.agg [(.int .i64), (.int .i64)])]) (fun x => F.ref05_Rate n x.1) := fnOK_of WOf.st (cx79_ok _ n) (d := 8) (fun x => by kernel_rfl)
def F.ref06_Parse.L10.head : Shape := ⟨[(0, .str), (3, (.const (.ref 0 0))), (4, (.sl (.agg [.str, .str]) (.own 0))), (5, (.int .i64)), (6, (.int .i64)), (7, .str), (8, (.const (.ref 1 0))), (9, (.int .i64))], [[(.int .i64), (.int .i64)], [.str, .str]], [true], [], [], 2, 0, 0⟩
def F.ref06_Parse.L10.e2 : Shape := ⟨[(0, .str), (3, (.const (.ref 0 0))), (4, (.sl (.agg [.str, .str]) (.own 0))), (5, (.int .i64)), (6, (.int .i64)), (7, .str), (8, (.const (.ref 1 0)))], [[(.int .i64), (.int .i64)], [.str, .str]], [true], [], [], 2, 0, 0⟩
noncomputable def F.ref06_Parse.L10.f {X : Type} (n m : Nat) (ks : Ks X) (s : F.ref06_Parse.L10.head.den) : Option X := F.ref06_Parse.L10 n (fun q0 q4 q5 q6 q7 qb0_0 qb0_1 qb1_0 qb1_1 qk0 => ks.ex 2 (F.ref06_Parse.L10.e2.e ((q0, (), q4, q5, q6, q7, (), ()), ((qb0_0, qb0_1, ()), (qb1_0, qb1_1, ()), ()), (qk0, ()), ())) (F.ref06_Parse.L10.e2.h ((q0, (), q4, q5, q6, q7, (), ()), ((qb0_0, qb0_1, ()), (qb1_0, qb1_1, ()), ()), (qk0, ()), ()))) m s.1.1 s.1.2.2.1 s.1.2.2.2.1 s.1.2.2.2.2.1 s.1.2.2.2.2.2.1 s.1.2.2.2.2.2.2.2.1 s.2.1.1.1 s.2.1.1.2.1 s.2.1.2.1.1 s.2.1.2.1.2.1 s.2.2.1.1
noncomputable def F.ref06_Parse.L10.li (X : Type) (n : Nat) : LoopI X := ⟨8, ⟨0, 0, 0⟩, F.ref06_Parse.L10.head, [(2, F.ref06_Parse.L10.e2)], none, F.ref06_Parse.L10.f n n⟩
def F.ref06_Parse.L4.head : Shape := ⟨[(0, .str), (3, (.const (.ref 0 0))), (4, (.sl (.agg [.str, .str]) (.own 0))), (5, (.int .i64)), (6, (.int .i64))], [[(.int .i64), (.int .i64)]], [true], [], [], 1, 0, 0⟩
def F.ref06_Parse.L4.e0 : Shape := ⟨[(3, (.const (.ref 0 0))), (4, (.sl (.agg [.str, .str]) (.own 0)))], [[(.int .i64), (.int .i64)]], [true], [], [], 1, 0, 0⟩
def F.ref06_Parse.L4.er : Shape := ⟨[(2, (.sl (.agg [.str, .str]) (.own 0))), (3, (.const (.ref 0 0)))], [[(.int .i64), (.int .i64)]], [true], [], [], 1, 0, 0⟩
noncomputable def F.ref06_Parse.L4.f {X : Type} (n m : Nat) (ks : Ks X) (s : F.ref06_Parse.L4.head.den) : Option X := F.ref06_Parse.L4 n (fun q4 qb0_0 qb0_1 qk0 => ks.ex 0 (F.ref06_Parse.L4.e0.e (((), q4, ()), ((qb0_0, qb0_1, ()), ()), (qk0, ()), ())) (F.ref06_Parse.L4.e0.h (((), q4, ()), ((qb0_0, qb0_1, ()), ()), (qk0, ()), ()))) (fun q2 qb0_0 qb0_1 qk0 => ks.ret (F.ref06_Parse.L4.er.e ((q2, (), ()), ((qb0_0, qb0_1, ()), ()), (qk0, ()), ())) (F.ref06_Parse.L4.er.h ((q2, (), ()), ((qb0_0, qb0_1, ()), ()), (qk0, ()), ()))) m s.1.1 s.1.2.2.1 s.1.2.2.2.1 s.1.2.2.2.2.1 s.2.1.1.1 s.2.1.1.2.1 s.2.2.1.1
noncomputable def F.ref06_Parse.L4.li (X : Type) (n : Nat) : LoopI X := ⟨8, ⟨0, 0, 0⟩, F.ref06_Parse.L4.head, [(0, F.ref06_Parse.L4.e0)], some F.ref06_Parse.L4.er, F.ref06_Parse.L4.f n n⟩
noncomputable def cx80 (X : Type) (n : Nat) : Cx X := mkCx tab.get [(80, Tryz.f80)] [(68, orcOf [(.agg [.str, .str])] (.one .str) (fun x => F.ref06_One n x.1)), (111, orcOf [(.agg [.str, .str])] (.one .bool) (fun x => F.ref06_Right n x.1))] [(80, 4, [F.ref06_Parse.L4.li X n]), (80, 10, [F.ref06_Parse.L10.li X n])] [] [] []
theorem F.ref06_Parse.L10.ok (X : Type) (n : Nat) : LoopOK (cx80 X n) 80 Tryz.f80.ntmps (loopNo Tryz.f80 1) (F.ref06_Parse.L10.li X n) :=
  ⟨F.ref06_Parse.L10.f n, n, fun _ _ => rfl, fun _ _ => rfl, fun m ks s => by kernel_rfl⟩
theorem F.ref06_Parse.L4.ok (X : Type) (n : Nat) : LoopOK (cx80 X n) 80 Tryz.f80.ntmps (loopNo Tryz.f80 0) (F.ref06_Parse.L4.li X n) :=
  ⟨F.ref06_Parse.L4.f n, n, fun _ _ => rfl, fun _ _ => rfl, fun m ks s => by kernel_rfl⟩
theorem cx80_ok (X : Type) (n : Nat) : CxOK Tryz.prog SW (cx80 X n) := mkCx_ok mixed (tabOK tab_ok) ⟨⟨Tryz.func80, by decide⟩, trivial⟩ ⟨orcOf_ok (ok68 n),
  orcOf_ok (ok111 n), trivial⟩ ⟨okC_mk (fun _ => rfl) (by kernel_rfl) (castP (by kernel_rfl) (show (LoopOK (cx80 X n) 80 Tryz.f80.ntmps (loopNo Tryz.f80 0) (F.ref06_Parse.L4.li X n) ∧ True) ∧ (LoopOK (cx80 X n) 80 Tryz.f80.ntmps (loopNo Tryz.f80 1) (F.ref06_Parse.L10.li X n) ∧ True) ∧ True from ⟨⟨F.ref06_Parse.L4.ok X n, trivial⟩, ⟨F.ref06_Parse.L10.ok X n, trivial⟩, trivial⟩)) (castP (by kernel_rfl) (show True from trivial)), trivial⟩ trivial
theorem ok80 (n : Nat) : FnOK Tryz.prog SW 80 [.str] (.many [(.sl (.agg [.str, .str]) .unk), (.agg [(.int .i64), (.int .i64)])]) (fun x => F.ref06_Parse n x.1) := fnOK_of WOf.st (cx80_ok _ n) (d := 8) (fun x => by kernel_rfl)
noncomputable def cx127 (X : Type) (n : Nat) : Cx X := mkCx tab.get [(127, Tryz.f127)] [(125, orcOf [(.int .i64), .str] (.one (.int .i64)) (fun x => F.ref04_Bad n x.1 x.2.1)), (126, orcOf [.str] (.many [(.int .i64), .bool]) (fun x => F.ref05_Value n x.1))] [] [] [] []
theorem cx127_ok (X : Type) (n : Nat) : CxOK Tryz.prog SW (cx127 X n) := mkCx_ok mixed (tabOK tab_ok) ⟨⟨Tryz.func127, by decide⟩, trivial⟩ ⟨orcOf_ok (ok125 n),
  orcOf_ok (ok126 n), trivial⟩ ⟨okC_mk (fun _ => rfl) (by kernel_rfl) (castP (by kernel_rfl) (show True from trivial)) (castP (by kernel_rfl) (show True from trivial)), trivial⟩ trivial
theorem ok127 (n : Nat) : FnOK Tryz.prog SW 127 [.str, (.int .i64), (.int .i64)] (.many [(.int .i64), (.agg [(.int .i64), (.int .i64)])]) (fun x => F.ref05_Parse n x.1 x.2.1 x.2.2.1) := fnOK_of WOf.st (cx127_ok _ n) (d := 8) (fun x => by kernel_rfl)
noncomputable def cx81 (X : Type) (n : Nat) : Cx X := mkCx tab.get [(81, Tryz.f81)] [(127, orcOf [.str, (.int .i64), (.int .i64)] (.many [(.int .i64), (.agg [(.int .i64), (.int .i64)])]) (fun x => F.ref05_Parse n x.1 x.2.1 x.2.2.1))] [] [] [] []
theorem cx81_ok (X : Type) (n : Nat) : CxOK Tryz.prog SW (cx81 X n) := mkCx_ok mixed (tabOK tab_ok) ⟨⟨Tryz.func81, by decide⟩, trivial⟩ ⟨orcOf_ok (ok127 n), trivial⟩ ⟨okC_mk (fun _ => rfl) (by kernel_rfl) (castP (by kernel_rfl) (show True from trivial)) (castP (by kernel_rfl) (show True from trivial)), trivial⟩ trivial
theorem ok81 (n : Nat) : FnOK Tryz.prog SW 81 [.str] (.many [(.int .i64), (.agg [(.int .i64), (.int .i64)])]) (fun x => F.ref05_Time n x.1) := fnOK_of WOf.st (cx81_ok _ n) (d := 8) (fun x => by kernel_rfl)
def F.ref11_Parse.C19.head : Shape := ⟨[(2, (.const (.ref 0 0))), (3, (.const (.ref 1 0))), (4, (.const (.ref 2 0))), (5, (.sl (.agg [(.int .i64), .str]) .unk)), (6, (.const (.ref 3 0))), (8, (.int .i64)), (9, (.int .i64)), (10, (.int .i64)), (11, (.int .i64))], [[.str, (.int .i64), (.sl (.agg [.bool, (.int .u64), (.int .i64)]) (.own 0)), (.int .i64), (.sl (.agg [.str, .str]) (.own 1)), (.int .i64)], [(.int .i64), (.int .i64)], [.str, (.int .i64), (.sl (.agg [.bool, (.int .u64), (.int .i64)]) (.own 2)), (.int .i64), (.sl (.agg [.str, .str]) (.own 3)), (.int .i64)], [.str, (.int .i64), (.sl (.agg [.bool, (.int .u64), (.int .i64)]) (.own 4)), (.int .i64), (.sl (.agg [.str, .str]) .unk), (.int .i64)], [(.int .i64), .str], [(.int .i64), (.int .i64)], [(.int .i64), (.int .i64)]], [true, true, true, true, true], [], [], 7, 0, 0⟩
def F.ref11_Parse.C19.er : Shape := ⟨[(2, (.const (.ref 0 0))), (3, (.const (.ref 1 0)))], [[.str, (.int .i64), (.sl (.agg [.bool, (.int .u64), (.int .i64)]) (.own 0)), (.int .i64), (.sl (.agg [.str, .str]) (.own 1)), (.int .i64)], [(.int .i64), (.int .i64)], [.str, (.int .i64), (.sl (.agg [.bool, (.int .u64), (.int .i64)]) (.own 2)), (.int .i64), (.sl (.agg [.str, .str]) (.own 3)), (.int .i64)], [.str, (.int .i64), (.sl (.agg [.bool, (.int .u64), (.int .i64)]) (.own 4)), (.int .i64), (.sl (.agg [.str, .str]) .unk), (.int .i64)], [(.int .i64), .str], [(.int .i64), (.int .i64)], [(.int .i64), (.int .i64)]], [true, true, false, false, true], [], [], 7, 0, 0⟩
def F.ref11_Parse.C19.en : Shape := ⟨[(2, (.const (.ref 0 0))), (3, (.const (.ref 1 0))), (4, (.const (.ref 2 0))), (5, (.sl (.agg [(.int .i64), .str]) .unk)), (6, (.const (.ref 3 0))), (8, (.int .i64)), (9, (.int .i64))], [[.str, (.int .i64), (.sl (.agg [.bool, (.int .u64), (.int .i64)]) (.own 0)), (.int .i64), (.sl (.agg [.str, .str]) (.own 1)), (.int .i64)], [(.int .i64), (.int .i64)], [.str, (.int .i64), (.sl (.agg [.bool, (.int .u64), (.int .i64)]) (.own 2)), (.int .i64), (.sl (.agg [.str, .str]) (.own 3)), (.int .i64)], [.str, (.int .i64), (.sl (.agg [.bool, (.int .u64), (.int .i64)]) (.own 4)), (.int .i64), (.sl (.agg [.str, .str]) .unk), (.int .i64)], [(.int .i64), .str], [(.int .i64), (.int .i64)], [(.int .i64), (.int .i64)]], [true, true, true, true, true], [], [], 7, 0, 0⟩
noncomputable def F.ref11_Parse.C19.f {X : Type} (n : Nat) (ks : Ks X) (s : F.ref11_Parse.C19.head.den) : Option X := F.ref11_Parse.C19 n (fun qb0_0 qb0_1 qb0_2 qb0_3 qb0_4 qb0_5 qb1_0 qb1_1 qb2_0 qb2_1 qb2_2 qb2_3 qb2_4 qb2_5 qb3_0 qb3_1 qb3_2 qb3_3 qb3_4 qb3_5 qb4_0 qb4_1 qb5_0 qb5_1 qb6_0 qb6_1 qk0 qk1 qk4 => ks.ret (F.ref11_Parse.C19.er.e (((), (), ()), ((qb0_0, qb0_1, qb0_2, qb0_3, qb0_4, qb0_5, ()), (qb1_0, qb1_1, ()), (qb2_0, qb2_1, qb2_2, qb2_3, qb2_4, qb2_5, ()), (qb3_0, qb3_1, qb3_2, qb3_3, qb3_4, qb3_5, ()), (qb4_0, qb4_1, ()), (qb5_0, qb5_1, ()), (qb6_0, qb6_1, ()), ()), (qk0, qk1, qk4, ()), ())) (F.ref11_Parse.C19.er.h (((), (), ()), ((qb0_0, qb0_1, qb0_2, qb0_3, qb0_4, qb0_5, ()), (qb1_0, qb1_1, ()), (qb2_0, qb2_1, qb2_2, qb2_3, qb2_4, qb2_5, ()), (qb3_0, qb3_1, qb3_2, qb3_3, qb3_4, qb3_5, ()), (qb4_0, qb4_1, ()), (qb5_0, qb5_1, ()), (qb6_0, qb6_1, ()), ()), (qk0, qk1, qk4, ()), ()))) (fun q5 q8 q9 qb0_0 qb0_1 qb0_2 qb0_3 qb0_4 qb0_5 qb1_0 qb1_1 qb2_0 qb2_1 qb2_2 qb2_3 qb2_4 qb2_5 qb3_0 qb3_1 qb3_2 qb3_3 qb3_4 qb3_5 qb4_0 qb4_1 qb5_0 qb5_1 qb6_0 qb6_1 qk0 qk1 qk2 qk3 qk4 => ks.nxt (F.ref11_Parse.C19.en.e (((), (), (), q5, (), q8, q9, ()), ((qb0_0, qb0_1, qb0_2, qb0_3, qb0_4, qb0_5, ()), (qb1_0, qb1_1, ()), (qb2_0, qb2_1, qb2_2, qb2_3, qb2_4, qb2_5, ()), (qb3_0, qb3_1, qb3_2, qb3_3, qb3_4, qb3_5, ()), (qb4_0, qb4_1, ()), (qb5_0, qb5_1, ()), (qb6_0, qb6_1, ()), ()), (qk0, qk1, qk2, qk3, qk4, ()), ())) (F.ref11_Parse.C19.en.h (((), (), (), q5, (), q8, q9, ()), ((qb0_0, qb0_1, qb0_2, qb0_3, qb0_4, qb0_5, ()), (qb1_0, qb1_1, ()), (qb2_0, qb2_1, qb2_2, qb2_3, qb2_4, qb2_5, ()), (qb3_0, qb3_1, qb3_2, qb3_3, qb3_4, qb3_5, ()), (qb4_0, qb4_1, ()), (qb5_0, qb5_1, ()), (qb6_0, qb6_1, ()), ()), (qk0, qk1, qk2, qk3, qk4, ()), ()))) s.1.2.2.2.1 s.1.2.2.2.2.2.1 s.1.2.2.2.2.2.2.1 s.1.2.2.2.2.2.2.2.1 s.1.2.2.2.2.2.2.2.2.1 s.2.1.1.1 s.2.1.1.2.1 s.2.1.1.2.2.1 s.2.1.1.2.2.2.1 s.2.1.1.2.2.2.2.1 s.2.1.1.2.2.2.2.2.1 s.2.1.2.1.1 s.2.1.2.1.2.1 s.2.1.2.2.1.1 s.2.1.2.2.1.2.1 s.2.1.2.2.1.2.2.1 s.2.1.2.2.1.2.2.2.1 s.2.1.2.2.1.2.2.2.2.1 s.2.1.2.2.1.2.2.2.2.2.1 s.2.1.2.2.2.1.1 s.2.1.2.2.2.1.2.1 s.2.1.2.2.2.1.2.2.1 s.2.1.2.2.2.1.2.2.2.1 s.2.1.2.2.2.1.2.2.2.2.1 s.2.1.2.2.2.1.2.2.2.2.2.1 s.2.1.2.2.2.2.1.1 s.2.1.2.2.2.2.1.2.1 s.2.1.2.2.2.2.2.1.1 s.2.1.2.2.2.2.2.1.2.1 s.2.1.2.2.2.2.2.2.1.1 s.2.1.2.2.2.2.2.2.1.2.1 s.2.2.1.1 s.2.2.1.2.1 s.2.2.1.2.2.1 s.2.2.1.2.2.2.1 s.2.2.1.2.2.2.2.1
noncomputable def F.ref11_Parse.C19.ci (X : Type) (n : Nat) : CutI X := ⟨8, ⟨0, 0, 0⟩, F.ref11_Parse.C19.head, some F.ref11_Parse.C19.en, [], some F.ref11_Parse.C19.er, F.ref11_Parse.C19.f n⟩
def F.ref11_Parse.L16.head : Shape := ⟨[(2, (.const (.ref 0 0))), (3, (.const (.ref 1 0))), (4, (.const (.ref 2 0))), (5, (.sl (.agg [(.int .i64), .str]) .unk)), (6, (.const (.ref 3 0))), (8, (.int .i64)), (9, (.int .i64))], [[.str, (.int .i64), (.sl (.agg [.bool, (.int .u64), (.int .i64)]) (.own 0)), (.int .i64), (.sl (.agg [.str, .str]) (.own 1)), (.int .i64)], [(.int .i64), (.int .i64)], [.str, (.int .i64), (.sl (.agg [.bool, (.int .u64), (.int .i64)]) (.own 2)), (.int .i64), (.sl (.agg [.str, .str]) (.own 3)), (.int .i64)], [.str, (.int .i64), (.sl (.agg [.bool, (.int .u64), (.int .i64)]) (.own 4)), (.int .i64), (.sl (.agg [.str, .str]) .unk), (.int .i64)], [(.int .i64), .str], [(.int .i64), (.int .i64)], [(.int .i64), (.int .i64)]], [true, true, true, true, true], [], [], 7, 0, 0⟩
def F.ref11_Parse.L16.e0 : Shape := ⟨[(2, (.const (.ref 0 0))), (3, (.const (.ref 1 0))), (6, (.const (.ref 3 0)))], [[.str, (.int .i64), (.sl (.agg [.bool, (.int .u64), (.int .i64)]) (.own 0)), (.int .i64), (.sl (.agg [.str, .str]) (.own 1)), (.int .i64)], [(.int .i64), (.int .i64)], [.str, (.int .i64), (.sl (.agg [.bool, (.int .u64), (.int .i64)]) (.own 2)), (.int .i64), (.sl (.agg [.str, .str]) (.own 3)), (.int .i64)], [.str, (.int .i64), (.sl (.agg [.bool, (.int .u64), (.int .i64)]) (.own 4)), (.int .i64), (.sl (.agg [.str, .str]) .unk), (.int .i64)], [(.int .i64), .str], [(.int .i64), (.int .i64)], [(.int .i64), (.int .i64)]], [true, true, true, true, true], [], [], 7, 0, 0⟩
def F.ref11_Parse.L16.er : Shape := ⟨[(2, (.const (.ref 0 0))), (3, (.const (.ref 1 0)))], [[.str, (.int .i64), (.sl (.agg [.bool, (.int .u64), (.int .i64)]) (.own 0)), (.int .i64), (.sl (.agg [.str, .str]) (.own 1)), (.int .i64)], [(.int .i64), (.int .i64)], [.str, (.int .i64), (.sl (.agg [.bool, (.int .u64), (.int .i64)]) (.own 2)), (.int .i64), (.sl (.agg [.str, .str]) (.own 3)), (.int .i64)], [.str, (.int .i64), (.sl (.agg [.bool, (.int .u64), (.int .i64)]) (.own 4)), (.int .i64), (.sl (.agg [.str, .str]) .unk), (.int .i64)], [(.int .i64), .str], [(.int .i64), (.int .i64)], [(.int .i64), (.int .i64)]], [true, true, false, false, true], [], [], 7, 0, 0⟩
noncomputable def F.ref11_Parse.L16.f {X : Type} (n m : Nat) (ks : Ks X) (s : F.ref11_Parse.L16.head.den) : Option X := F.ref11_Parse.L16 n (fun qb0_0 qb0_1 qb0_2 qb0_3 qb0_4 qb0_5 qb1_0 qb1_1 qb2_0 qb2_1 qb2_2 qb2_3 qb2_4 qb2_5 qb3_0 qb3_1 qb3_2 qb3_3 qb3_4 qb3_5 qb4_0 qb4_1 qb5_0 qb5_1 qb6_0 qb6_1 qk0 qk1 qk2 qk3 qk4 => ks.ex 0 (F.ref11_Parse.L16.e0.e (((), (), (), ()), ((qb0_0, qb0_1, qb0_2, qb0_3, qb0_4, qb0_5, ()), (qb1_0, qb1_1, ()), (qb2_0, qb2_1, qb2_2, qb2_3, qb2_4, qb2_5, ()), (qb3_0, qb3_1, qb3_2, qb3_3, qb3_4, qb3_5, ()), (qb4_0, qb4_1, ()), (qb5_0, qb5_1, ()), (qb6_0, qb6_1, ()), ()), (qk0, qk1, qk2, qk3, qk4, ()), ())) (F.ref11_Parse.L16.e0.h (((), (), (), ()), ((qb0_0, qb0_1, qb0_2, qb0_3, qb0_4, qb0_5, ()), (qb1_0, qb1_1, ()), (qb2_0, qb2_1, qb2_2, qb2_3, qb2_4, qb2_5, ()), (qb3_0, qb3_1, qb3_2, qb3_3, qb3_4, qb3_5, ()), (qb4_0, qb4_1, ()), (qb5_0, qb5_1, ()), (qb6_0, qb6_1, ()), ()), (qk0, qk1, qk2, qk3, qk4, ()), ()))) (fun qb0_0 qb0_1 qb0_2 qb0_3 qb0_4 qb0_5 qb1_0 qb1_1 qb2_0 qb2_1 qb2_2 qb2_3 qb2_4 qb2_5 qb3_0 qb3_1 qb3_2 qb3_3 qb3_4 qb3_5 qb4_0 qb4_1 qb5_0 qb5_1 qb6_0 qb6_1 qk0 qk1 qk4 => ks.ret (F.ref11_Parse.L16.er.e (((), (), ()), ((qb0_0, qb0_1, qb0_2, qb0_3, qb0_4, qb0_5, ()), (qb1_0, qb1_1, ()), (qb2_0, qb2_1, qb2_2, qb2_3, qb2_4, qb2_5, ()), (qb3_0, qb3_1, qb3_2, qb3_3, qb3_4, qb3_5, ()), (qb4_0, qb4_1, ()), (qb5_0, qb5_1, ()), (qb6_0, qb6_1, ()), ()), (qk0, qk1, qk4, ()), ())) (F.ref11_Parse.L16.er.h (((), (), ()), ((qb0_0, qb0_1, qb0_2, qb0_3, qb0_4, qb0_5, ()), (qb1_0, qb1_1, ()), (qb2_0, qb2_1, qb2_2, qb2_3, qb2_4, qb2_5, ()), (qb3_0, qb3_1, qb3_2, qb3_3, qb3_4, qb3_5, ()), (qb4_0, qb4_1, ()), (qb5_0, qb5_1, ()), (qb6_0, qb6_1, ()), ()), (qk0, qk1, qk4, ()), ()))) m s.1.2.2.2.1 s.1.2.2.2.2.2.1 s.1.2.2.2.2.2.2.1 s.2.1.1.1 s.2.1.1.2.1 s.2.1.1.2.2.1 s.2.1.1.2.2.2.1 s.2.1.1.2.2.2.2.1 s.2.1.1.2.2.2.2.2.1 s.2.1.2.1.1 s.2.1.2.1.2.1 s.2.1.2.2.1.1 s.2.1.2.2.1.2.1 s.2.1.2.2.1.2.2.1 s.2.1.2.2.1.2.2.2.1 s.2.1.2.2.1.2.2.2.2.1 s.2.1.2.2.1.2.2.2.2.2.1 s.2.1.2.2.2.1.1 s.2.1.2.2.2.1.2.1 s.2.1.2.2.2.1.2.2.1 s.2.1.2.2.2.1.2.2.2.1 s.2.1.2.2.2.1.2.2.2.2.1 s.2.1.2.2.2.1.2.2.2.2.2.1 s.2.1.2.2.2.2.1.1 s.2.1.2.2.2.2.1.2.1 s.2.1.2.2.2.2.2.1.1 s.2.1.2.2.2.2.2.1.2.1 s.2.1.2.2.2.2.2.2.1.1 s.2.1.2.2.2.2.2.2.1.2.1 s.2.2.1.1 s.2.2.1.2.1 s.2.2.1.2.2.1 s.2.2.1.2.2.2.1 s.2.2.1.2.2.2.2.1
noncomputable def F.ref11_Parse.L16.li (X : Type) (n : Nat) : LoopI X := ⟨8, ⟨0, 0, 0⟩, F.ref11_Parse.L16.head, [(0, F.ref11_Parse.L16.e0)], some F.ref11_Parse.L16.er, F.ref11_Parse.L16.f n n⟩
def F.ref11_Parse.C7.head : Shape := ⟨[(0, .str), (2, (.const (.ref 0 0))), (3, (.const (.ref 1 0))), (4, (.const (.ref 2 0))), (5, (.sl (.agg [(.int .i64), .str]) .unk)), (6, (.const (.ref 3 0))), (7, (.const (.ref 6 0)))], [[.str, (.int .i64), (.sl (.agg [.bool, (.int .u64), (.int .i64)]) (.own 0)), (.int .i64), (.sl (.agg [.str, .str]) (.own 1)), (.int .i64)], [(.int .i64), (.int .i64)], [.str, (.int .i64), (.sl (.agg [.bool, (.int .u64), (.int .i64)]) (.own 2)), (.int .i64), (.sl (.agg [.str, .str]) (.own 3)), (.int .i64)], [.str, (.int .i64), (.sl (.agg [.bool, (.int .u64), (.int .i64)]) (.own 4)), (.int .i64), (.sl (.agg [.str, .str]) (.own 5)), (.int .i64)], [(.int .i64), .str], [(.int .i64), (.int .i64)], [(.int .i64), (.int .i64)]], [true, true, true, true, true, true], [], [], 7, 0, 0⟩
def F.ref11_Parse.C7.er : Shape := ⟨[(2, (.const (.ref 0 0))), (3, (.const (.ref 1 0)))], [[.str, (.int .i64), (.sl (.agg [.bool, (.int .u64), (.int .i64)]) (.own 0)), (.int .i64), (.sl (.agg [.str, .str]) .unk), (.int .i64)], [(.int .i64), (.int .i64)]], [true], [], [], 2, 0, 0⟩
noncomputable def F.ref11_Parse.C7.f {X : Type} (n : Nat) (ks : Ks X) (s : F.ref11_Parse.C7.head.den) : Option X := F.ref11_Parse.C7 n (fun qb0_0 qb0_1 qb0_2 qb0_3 qb0_4 qb0_5 qb1_0 qb1_1 qk0 => ks.ret (F.ref11_Parse.C7.er.e (((), (), ()), ((qb0_0, qb0_1, qb0_2, qb0_3, qb0_4, qb0_5, ()), (qb1_0, qb1_1, ()), ()), (qk0, ()), ())) (F.ref11_Parse.C7.er.h (((), (), ()), ((qb0_0, qb0_1, qb0_2, qb0_3, qb0_4, qb0_5, ()), (qb1_0, qb1_1, ()), ()), (qk0, ()), ()))) s.1.1 s.1.2.2.2.2.1 s.2.1.1.1 s.2.1.1.2.1 s.2.1.1.2.2.1 s.2.1.1.2.2.2.1 s.2.1.1.2.2.2.2.1 s.2.1.1.2.2.2.2.2.1 s.2.1.2.1.1 s.2.1.2.1.2.1 s.2.1.2.2.1.1 s.2.1.2.2.1.2.1 s.2.1.2.2.1.2.2.1 s.2.1.2.2.1.2.2.2.1 s.2.1.2.2.1.2.2.2.2.1 s.2.1.2.2.1.2.2.2.2.2.1 s.2.1.2.2.2.1.1 s.2.1.2.2.2.1.2.1 s.2.1.2.2.2.1.2.2.1 s.2.1.2.2.2.1.2.2.2.1 s.2.1.2.2.2.1.2.2.2.2.1 s.2.1.2.2.2.1.2.2.2.2.2.1 s.2.1.2.2.2.2.1.1 s.2.1.2.2.2.2.1.2.1 s.2.1.2.2.2.2.2.1.1 s.2.1.2.2.2.2.2.1.2.1 s.2.1.2.2.2.2.2.2.1.1 s.2.1.2.2.2.2.2.2.1.2.1 s.2.2.1.1 s.2.2.1.2.1 s.2.2.1.2.2.1 s.2.2.1.2.2.2.1 s.2.2.1.2.2.2.2.1 s.2.2.1.2.2.2.2.2.1
noncomputable def F.ref11_Parse.C7.ci (X : Type) (n : Nat) : CutI X := ⟨8, ⟨0, 0, 0⟩, F.ref11_Parse.C7.head, none, [], some F.ref11_Parse.C7.er, F.ref11_Parse.C7.f n⟩
def F.ref11_Parse.L8_ref11_First.head : Shape := ⟨[(1, (.const (.ref 3 0))), (4, (.const (.ref 5 0))), (5, (.sl (.agg [(.int .i64), .str]) .unk)), (6, (.int .i64))], [[.str, (.int .i64), (.sl (.agg [.bool, (.int .u64), (.int .i64)]) (.own 0)), (.int .i64), (.sl (.agg [.str, .str]) (.own 1)), (.int .i64)], [(.int .i64), (.int .i64)], [.str, (.int .i64), (.sl (.agg [.bool, (.int .u64), (.int .i64)]) (.own 2)), (.int .i64), (.sl (.agg [.str, .str]) (.own 3)), (.int .i64)], [.str, (.int .i64), (.sl (.agg [.bool, (.int .u64), (.int .i64)]) (.own 4)), (.int .i64), (.sl (.agg [.str, .str]) (.own 5)), (.int .i64)], [(.int .i64), .str], [(.int .i64), (.int .i64)]], [true, true, true, true, true, true], [], [], 6, 0, 0⟩
def F.ref11_Parse.L8_ref11_First.e0 : Shape := ⟨[(4, (.const (.ref 5 0)))], [[.str, (.int .i64), (.sl (.agg [.bool, (.int .u64), (.int .i64)]) (.own 0)), (.int .i64), (.sl (.agg [.str, .str]) (.own 1)), (.int .i64)], [(.int .i64), (.int .i64)], [.str, (.int .i64), (.sl (.agg [.bool, (.int .u64), (.int .i64)]) (.own 2)), (.int .i64), (.sl (.agg [.str, .str]) (.own 3)), (.int .i64)], [.str, (.int .i64), (.sl (.agg [.bool, (.int .u64), (.int .i64)]) (.own 4)), (.int .i64), (.sl (.agg [.str, .str]) (.own 5)), (.int .i64)], [(.int .i64), .str], [(.int .i64), (.int .i64)]], [true, true, true, true, true, true], [], [], 6, 0, 0⟩
def F.ref11_Parse.L8_ref11_First.er : Shape := ⟨[(4, (.const (.ref 5 0)))], [[.str, (.int .i64), (.sl (.agg [.bool, (.int .u64), (.int .i64)]) (.own 0)), (.int .i64), (.sl (.agg [.str, .str]) (.own 1)), (.int .i64)], [(.int .i64), (.int .i64)], [.str, (.int .i64), (.sl (.agg [.bool, (.int .u64), (.int .i64)]) (.own 2)), (.int .i64), (.sl (.agg [.str, .str]) (.own 3)), (.int .i64)], [.str, (.int .i64), (.sl (.agg [.bool, (.int .u64), (.int .i64)]) (.own 4)), (.int .i64), (.sl (.agg [.str, .str]) (.own 5)), (.int .i64)], [(.int .i64), .str], [(.int .i64), (.int .i64)]], [true, true, true, true, true, true], [], [], 6, 0, 0⟩
noncomputable def F.ref11_Parse.L8_ref11_First.f {X : Type} (n m : Nat) (ks : Ks X) (s : F.ref11_Parse.L8_ref11_First.head.den) : Option X := F.ref11_Parse.L8_ref11_First n (fun qb0_0 qb0_1 qb0_2 qb0_3 qb0_4 qb0_5 qb1_0 qb1_1 qb2_0 qb2_1 qb2_2 qb2_3 qb2_4 qb2_5 qb3_0 qb3_1 qb3_2 qb3_3 qb3_4 qb3_5 qb4_0 qb4_1 qb5_0 qb5_1 qk0 qk1 qk2 qk3 qk4 qk5 => ks.ex 0 (F.ref11_Parse.L8_ref11_First.e0.e (((), ()), ((qb0_0, qb0_1, qb0_2, qb0_3, qb0_4, qb0_5, ()), (qb1_0, qb1_1, ()), (qb2_0, qb2_1, qb2_2, qb2_3, qb2_4, qb2_5, ()), (qb3_0, qb3_1, qb3_2, qb3_3, qb3_4, qb3_5, ()), (qb4_0, qb4_1, ()), (qb5_0, qb5_1, ()), ()), (qk0, qk1, qk2, qk3, qk4, qk5, ()), ())) (F.ref11_Parse.L8_ref11_First.e0.h (((), ()), ((qb0_0, qb0_1, qb0_2, qb0_3, qb0_4, qb0_5, ()), (qb1_0, qb1_1, ()), (qb2_0, qb2_1, qb2_2, qb2_3, qb2_4, qb2_5, ()), (qb3_0, qb3_1, qb3_2, qb3_3, qb3_4, qb3_5, ()), (qb4_0, qb4_1, ()), (qb5_0, qb5_1, ()), ()), (qk0, qk1, qk2, qk3, qk4, qk5, ()), ()))) (fun qb0_0 qb0_1 qb0_2 qb0_3 qb0_4 qb0_5 qb1_0 qb1_1 qb2_0 qb2_1 qb2_2 qb2_3 qb2_4 qb2_5 qb3_0 qb3_1 qb3_2 qb3_3 qb3_4 qb3_5 qb4_0 qb4_1 qb5_0 qb5_1 qk0 qk1 qk2 qk3 qk4 qk5 => ks.ret (F.ref11_Parse.L8_ref11_First.er.e (((), ()), ((qb0_0, qb0_1, qb0_2, qb0_3, qb0_4, qb0_5, ()), (qb1_0, qb1_1, ()), (qb2_0, qb2_1, qb2_2, qb2_3, qb2_4, qb2_5, ()), (qb3_0, qb3_1, qb3_2, qb3_3, qb3_4, qb3_5, ()), (qb4_0, qb4_1, ()), (qb5_0, qb5_1, ()), ()), (qk0, qk1, qk2, qk3, qk4, qk5, ()), ())) (F.ref11_Parse.L8_ref11_First.er.h (((), ()), ((qb0_0, qb0_1, qb0_2, qb0_3, qb0_4, qb0_5, ()), (qb1_0, qb1_1, ()), (qb2_0, qb2_1, qb2_2, qb2_3, qb2_4, qb2_5, ()), (qb3_0, qb3_1, qb3_2, qb3_3, qb3_4, qb3_5, ()), (qb4_0, qb4_1, ()), (qb5_0, qb5_1, ()), ()), (qk0, qk1, qk2, qk3, qk4, qk5, ()), ()))) m s.1.2.2.1 s.1.2.2.2.1 s.2.1.1.1 s.2.1.1.2.1 s.2.1.1.2.2.1 s.2.1.1.2.2.2.1 s.2.1.1.2.2.2.2.1 s.2.1.1.2.2.2.2.2.1 s.2.1.2.1.1 s.2.1.2.1.2.1 s.2.1.2.2.1.1 s.2.1.2.2.1.2.1 s.2.1.2.2.1.2.2.1 s.2.1.2.2.1.2.2.2.1 s.2.1.2.2.1.2.2.2.2.1 s.2.1.2.2.1.2.2.2.2.2.1 s.2.1.2.2.2.1.1 s.2.1.2.2.2.1.2.1 s.2.1.2.2.2.1.2.2.1 s.2.1.2.2.2.1.2.2.2.1 s.2.1.2.2.2.1.2.2.2.2.1 s.2.1.2.2.2.1.2.2.2.2.2.1 s.2.1.2.2.2.2.1.1 s.2.1.2.2.2.2.1.2.1 s.2.1.2.2.2.2.2.1.1 s.2.1.2.2.2.2.2.1.2.1 s.2.2.1.1 s.2.2.1.2.1 s.2.2.1.2.2.1 s.2.2.1.2.2.2.1 s.2.2.1.2.2.2.2.1 s.2.2.1.2.2.2.2.2.1
noncomputable def F.ref11_Parse.L8_ref11_First.li (X : Type) (n : Nat) : LoopI X := ⟨7, ⟨4, 0, 0⟩, F.ref11_Parse.L8_ref11_First.head, [(0, F.ref11_Parse.L8_ref11_First.e0)], some F.ref11_Parse.L8_ref11_First.er, F.ref11_Parse.L8_ref11_First.f n n⟩
noncomputable def cx19 (X : Type) (n : Nat) : Cx X := mkCx tab.get [(19, Tryz.f19), (45, Tryz.f45), (46, Tryz.f46)] [(13, orcOf [.str] (.one (.int .i64)) (fun x => F.ref11_Kind n x.1)), (35, orcOf [(.sl (.agg [.str, .str]) .unk)] (.one (.sl (.agg [.str, .str]) .unk)) (fun x => F.ref06_Normal n x.1)), (44, orcOf [.str, (.int .u8), (.int .i64)] (.one (.sl (.agg [(.int .i64), .str]) .unk)) (fun x => F.ref11_Cut n x.1 x.2.1 x.2.2.1)), (64, orcOf [.str] (.one .bool) (fun x => F.ref07_Name n x.1)), (78, orcOf [.str] (.many [(.agg [.bool, (.int .u64), (.int .i64)]), (.agg [(.int .i64), (.int .i64)])]) (fun x => F.ref03_Parse n x.1)), (79, orcOf [.str] (.many [(.int .i64), (.agg [(.int .i64), (.int .i64)])]) (fun x => F.ref05_Rate n x.1)), (80, orcOf [.str] (.many [(.sl (.agg [.str, .str]) .unk), (.agg [(.int .i64), (.int .i64)])]) (fun x => F.ref06_Parse n x.1)), (81, orcOf [.str] (.many [(.int .i64), (.agg [(.int .i64), (.int .i64)])]) (fun x => F.ref05_Time n x.1))] [(19, 16, [F.ref11_Parse.L16.li X n]), (45, 8, [F.ref11_Parse.L8_ref11_First.li X n])] [] [(19, 8, [(1, 2)]), (19, 13, [(4, 6)]), (19, 22, [(6, 8)])] [] [(19, 7, [F.ref11_Parse.C7.ci X n]), (19, 19, [F.ref11_Parse.C19.ci X n])]
theorem F.ref11_Parse.C19.ok (X : Type) (n : Nat) : CutOK (cx19 X n) 19 Tryz.f19.ntmps (cutNo Tryz.f19 24) (F.ref11_Parse.C19.ci X n) :=
  fun ks s => by kernel_rfl
theorem F.ref11_Parse.C7.ok (X : Type) (n : Nat) : CutOK (cx19 X n) 19 Tryz.f19.ntmps (cutNo Tryz.f19 7) (F.ref11_Parse.C7.ci X n) :=
  fun ks s => by kernel_rfl
theorem F.ref11_Parse.L16.ok (X : Type) (n : Nat) : LoopOK (cx19 X n) 19 Tryz.f19.ntmps (loopNo Tryz.f19 0) (F.ref11_Parse.L16.li X n) :=
  ⟨F.ref11_Parse.L16.f n, n, fun _ _ => rfl, fun _ _ => rfl, fun m ks s => by kernel_rfl⟩
theorem F.ref11_Parse.L8_ref11_First.ok (X : Type) (n : Nat) : LoopOK (cx19 X n) 45 Tryz.f45.ntmps (loopNo Tryz.f45 0) (F.ref11_Parse.L8_ref11_First.li X n) :=
  ⟨F.ref11_Parse.L8_ref11_First.f n, n, fun _ _ => rfl, fun _ _ => rfl, fun m ks s => by kernel_rfl⟩
theorem cx19_ok (X : Type) (n : Nat) : CxOK Tryz.prog SW (cx19 X n) := mkCx_ok mixed (tabOK tab_ok) ⟨⟨Tryz.func19, by decide⟩,
  ⟨Tryz.func45, by decide⟩,
  ⟨Tryz.func46, by decide⟩, trivial⟩ ⟨orcOf_ok (ok13 n),
  orcOf_ok (ok35 n),
  orcOf_ok (ok44 n),
  orcOf_ok (ok64 n),
  orcOf_ok (ok78 n),
  orcOf_ok (ok79 n),
  orcOf_ok (ok80 n),
  orcOf_ok (ok81 n), trivial⟩ ⟨okC_mkc (castP (by kernel_rfl) (show (True) ∧ (True) ∧ (True) ∧ (True) ∧ (True) ∧ (True) ∧ (True) ∧ (CutOK (cx19 X n) 19 Tryz.f19.ntmps (cutNo Tryz.f19 7) (F.ref11_Parse.C7.ci X n) ∧ True) ∧ (True) ∧ (True) ∧ (True) ∧ (True) ∧ (True) ∧ (True) ∧ (True) ∧ (True) ∧ (True) ∧ (True) ∧ (True) ∧ (True) ∧ (True) ∧ (True) ∧ (True) ∧ (True) ∧ (CutOK (cx19 X n) 19 Tryz.f19.ntmps (cutNo Tryz.f19 24) (F.ref11_Parse.C19.ci X n) ∧ True) ∧ (True) ∧ (True) ∧ (True) ∧ (True) ∧ (True) ∧ (True) ∧ True from ⟨trivial, trivial, trivial, trivial, trivial, trivial, trivial, ⟨F.ref11_Parse.C7.ok X n, trivial⟩, trivial, trivial, trivial, trivial, trivial, trivial, trivial, trivial, trivial, trivial, trivial, trivial, trivial, trivial, trivial, trivial, ⟨F.ref11_Parse.C19.ok X n, trivial⟩, trivial, trivial, trivial, trivial, trivial, trivial, trivial⟩)) (by kernel_rfl) (castP (by kernel_rfl) (show (LoopOK (cx19 X n) 19 Tryz.f19.ntmps (loopNo Tryz.f19 0) (F.ref11_Parse.L16.li X n) ∧ True) ∧ True from ⟨⟨F.ref11_Parse.L16.ok X n, trivial⟩, trivial⟩)) (castP (by kernel_rfl) (show True from trivial)),
  okC_mk (fun _ => rfl) (by kernel_rfl) (castP (by kernel_rfl) (show (LoopOK (cx19 X n) 45 Tryz.f45.ntmps (loopNo Tryz.f45 0) (F.ref11_Parse.L8_ref11_First.li X n) ∧ True) ∧ True from ⟨⟨F.ref11_Parse.L8_ref11_First.ok X n, trivial⟩, trivial⟩)) (castP (by kernel_rfl) (show True from trivial)),
  okC_mk (fun _ => rfl) (by kernel_rfl) (castP (by kernel_rfl) (show True from trivial)) (castP (by kernel_rfl) (show True from trivial)), trivial⟩ trivial
theorem ok19 (n : Nat) : FnOK Tryz.prog SW 19 [.str] (.many [(.agg [.str, (.int .i64), (.sl (.agg [.bool, (.int .u64), (.int .i64)]) .unk), (.int .i64), (.sl (.agg [.str, .str]) .unk), (.int .i64)]), (.agg [(.int .i64), (.int .i64)])]) (fun x => F.ref11_Parse n x.1) := fnOK_of WOf.st (cx19_ok _ n) (d := 8) (fun x => by kernel_rfl)
noncomputable def cx5 (X : Type) (n : Nat) : Cx X := mkCx tab.get [(5, Tryz.f5)] [(9, orcOf [] (.one .bool) (fun x => F.law11_awake n )), (18, orcOf [.str] (.many [(.agg [.str, (.int .i64), (.sl (.agg [.bool, (.int .u64), (.int .i64)]) .unk), (.int .i64), (.sl (.agg [.str, .str]) .unk), (.int .i64)]), (.agg [(.int .i64), (.int .i64)])]) (fun x => F.dog_Parse n x.1)), (19, orcOf [.str] (.many [(.agg [.str, (.int .i64), (.sl (.agg [.bool, (.int .u64), (.int .i64)]) .unk), (.int .i64), (.sl (.agg [.str, .str]) .unk), (.int .i64)]), (.agg [(.int .i64), (.int .i64)])]) (fun x => F.ref11_Parse n x.1)), (20, orcOf [(.agg [.str, (.int .i64), (.sl (.agg [.bool, (.int .u64), (.int .i64)]) .unk), (.int .i64), (.sl (.agg [.str, .str]) .unk), (.int .i64)]), (.agg [.str, (.int .i64), (.sl (.agg [.bool, (.int .u64), (.int .i64)]) .unk), (.int .i64), (.sl (.agg [.str, .str]) .unk), (.int .i64)])] (.one .bool) (fun x => F.ref07_Equal n x.1 x.2.1))] [] [] [] []
theorem cx5_ok (X : Type) (n : Nat) : CxOK Tryz.prog SW (cx5 X n) := mkCx_ok mixed (tabOK tab_ok) ⟨⟨Tryz.func5, by decide⟩, trivial⟩ ⟨orcOf_ok (ok9 n),
  orcOf_ok (ok18 n),
  orcOf_ok (ok19 n),
  orcOf_ok (ok20 n), trivial⟩ ⟨okC_mk (fun _ => rfl) (by kernel_rfl) (castP (by kernel_rfl) (show True from trivial)) (castP (by kernel_rfl) (show True from trivial)), trivial⟩ trivial
theorem ok5 (n : Nat) : FnOK Tryz.prog SW 5 [.str] (.one .bool) (fun x => F.law11_DogParses n x.1) := fnOK_of WOf.st (cx5_ok _ n) (d := 8) (fun x => by kernel_rfl)
end Go.AM
set_option linter.unusedVariables false
set_option linter.unusedSimpArgs false
namespace Go.AM
def isDig (b : UInt8) : Bool := decide (48 ≤ b.toNat) && decide (b.toNat ≤ 57)
def dv (b : UInt8) : Nat := b.toNat - 48
def valF (a : Nat) (l : List UInt8) : Nat := l.foldl (fun a b => a * 10 + dv b) a
theorem valF_nil (a : Nat) : valF a [] = a := rfl
theorem valF_cons (a : Nat) (b : UInt8) (l : List UInt8) : valF a (b :: l) = valF (a * 10 + dv b) l := by unfold valF; rw [List.foldl_cons]
def val (l : List UInt8) : Nat := valF 0 l
def Digs (l : List UInt8) : Prop := l.all isDig = true
theorem isDig_iff {b : UInt8} : isDig b = true ↔ 48 ≤ b.toNat ∧ b.toNat ≤ 57 := by simp [isDig]
theorem digs_cons {b : UInt8} {l : List UInt8} : Digs (b :: l) ↔ isDig b = true ∧ Digs l := by simp [Digs]
theorem digs_append {l m : List UInt8} : Digs (l ++ m) ↔ Digs l ∧ Digs m := by simp [Digs]
theorem digs_rep (k : Nat) : Digs (List.replicate k 48) := by
  unfold Digs
  rw [List.all_eq_true]
  intro x hx
  rw [List.eq_of_mem_replicate hx]
  rfl
theorem digs_take {l : List UInt8} (k : Nat) (h : Digs l) : Digs (l.take k) := by
  unfold Digs at h ⊢
  rw [List.all_eq_true] at h ⊢
  exact fun x hx => h x (List.mem_of_mem_take hx)
theorem dv_lt {b : UInt8} (h : isDig b = true) : dv b < 10 := by
  have := isDig_iff.1 h
  unfold dv
  omega
theorem u8_ext {a b : UInt8} (h : a.toNat = b.toNat) : a = b := UInt8.toNat_inj.1 h
theorem dv_inj {a b : UInt8} (ha : isDig a = true) (hb : isDig b = true) (h : dv a = dv b) : a = b := by
  have h1 := isDig_iff.1 ha
  have h2 := isDig_iff.1 hb
  unfold dv at h
  exact u8_ext (by omega)
theorem valF_eq (a : Nat) (l : List UInt8) : valF a l = a * 10 ^ l.length + val l := by
  unfold val
  induction l generalizing a with
  | nil => rw [valF_nil, valF_nil]; simp
  | cons b l ih =>
    simp only [valF_cons, List.length_cons]
    rw [ih (a * 10 + dv b), ih (0 * 10 + dv b), Nat.pow_succ, Nat.add_mul, Nat.zero_mul, Nat.zero_add, Nat.mul_assoc, Nat.mul_comm 10, Nat.add_assoc]
theorem val_nil : val [] = 0 := rfl
theorem val_cons (b : UInt8) (l : List UInt8) : val (b :: l) = dv b * 10 ^ l.length + val l := by
  show valF (0 * 10 + dv b) l = _
  rw [valF_eq, Nat.zero_mul, Nat.zero_add]
theorem val_append (l m : List UInt8) : val (l ++ m) = val l * 10 ^ m.length + val m := by
  induction l with
  | nil => simp [val_nil]
  | cons b l ih => rw [List.cons_append, val_cons, val_cons, ih, List.length_append, Nat.pow_add, Nat.add_mul, Nat.mul_assoc, Nat.add_assoc]
theorem val_snoc (l : List UInt8) (b : UInt8) : val (l ++ [b]) = val l * 10 + dv b := by rw [val_append, val_cons]; simp [val_nil]
theorem val_lt {l : List UInt8} (h : Digs l) : val l < 10 ^ l.length := by
  induction l with
  | nil => simp [val_nil]
  | cons b l ih =>
    obtain ⟨h1, h2⟩ := digs_cons.1 h
    have := ih h2
    have hd := dv_lt h1
    rw [val_cons, List.length_cons, Nat.pow_succ, Nat.mul_comm (10 ^ l.length)]
    have h3 : dv b * 10 ^ l.length ≤ 9 * 10 ^ l.length := Nat.mul_le_mul_right _ (by omega)
    omega
theorem dv_48 : dv 48 = 0 := rfl
theorem val_rep (k : Nat) : val (List.replicate k 48) = 0 := by
  induction k with
  | zero => rfl
  | succ k ih => rw [List.replicate_succ, val_cons, ih, dv_48]; simp
theorem val_zeros_left (k : Nat) (l : List UInt8) : val (List.replicate k 48 ++ l) = val l := by rw [val_append, val_rep]; simp
theorem val_zeros_right (k : Nat) (l : List UInt8) : val (l ++ List.replicate k 48) = val l * 10 ^ k := by rw [val_append, val_rep]; simp
theorem val_eq_zero {l : List UInt8} (hd : Digs l) (h : val l = 0) : l = List.replicate l.length 48 := by
  induction l with
  | nil => rfl
  | cons b l ih =>
    obtain ⟨h1, h2⟩ := digs_cons.1 hd
    rw [val_cons] at h
    have hp : 0 < 10 ^ l.length := Nat.pow_pos (by omega)
    have h3 : dv b = 0 := by
      cases hb : dv b with
      | zero => rfl
      | succ k => rw [hb, Nat.succ_mul] at h; omega
    rw [List.length_cons, List.replicate_succ, ← ih h2 (by omega)]
    rw [dv_inj (a := b) (b := 48) h1 rfl h3]
theorem val_inj {l m : List UInt8} (hl : Digs l) (hm : Digs m) (hlen : l.length = m.length) (h : val l = val m) : l = m := by
  induction l generalizing m with
  | nil => cases m with
    | nil => rfl
    | cons => simp at hlen
  | cons b l ih => cases m with
    | nil => simp at hlen
    | cons c m =>
      obtain ⟨h1, h2⟩ := digs_cons.1 hl
      obtain ⟨h3, h4⟩ := digs_cons.1 hm
      have hlen : l.length = m.length := by simpa using hlen
      rw [val_cons, val_cons, hlen] at h
      have b1 := val_lt h2
      have b2 := val_lt h4
      rw [hlen] at b1
      have hp : 0 < 10 ^ m.length := Nat.pow_pos (by omega)
      have e : dv b = dv c := by
        have q1 := congrArg (· / 10 ^ m.length) h
        simp only [Nat.mul_comm (dv b), Nat.mul_comm (dv c), Nat.mul_add_div hp, Nat.div_eq_of_lt b1, Nat.div_eq_of_lt b2] at q1
        omega
      rw [e] at h
      rw [dv_inj h1 h3 e, ih h2 h4 hlen (by omega)]
theorem dig_of (k : Nat) (h : k < 10) : (UInt8.ofNat (48 + k)).toNat = 48 + k := by simp [UInt8.toNat_ofNat']; omega
theorem isDig_of (k : Nat) (h : k < 10) : isDig (UInt8.ofNat (48 + k)) = true := by rw [isDig_iff, dig_of k h]; omega
theorem dv_of (k : Nat) (h : k < 10) : dv (UInt8.ofNat (48 + k)) = k := by unfold dv; rw [dig_of k h]; omega
theorem dd_small {u : Nat} (h : u < 10) : Lib.decDigits u = [UInt8.ofNat (48 + u)] := Lib.decDigits_one h
theorem dd_big {u : Nat} (h : ¬ u < 10) : Lib.decDigits u = Lib.decDigits (u / 10) ++ [UInt8.ofNat (48 + u % 10)] := by rw [Lib.decDigits, dif_neg h]
theorem dd_digs (u : Nat) : Digs (Lib.decDigits u) := by
  induction u using Nat.strongRecOn with
  | _ u ih =>
    by_cases h : u < 10
    · rw [dd_small h, digs_cons]; exact ⟨isDig_of u h, rfl⟩
    · rw [dd_big h, digs_append, digs_cons]
      exact ⟨ih _ (by omega), isDig_of _ (by omega), rfl⟩
theorem dd_val (u : Nat) : val (Lib.decDigits u) = u := by
  induction u using Nat.strongRecOn with
  | _ u ih =>
    by_cases h : u < 10
    · rw [dd_small h, val_cons, dv_of u h]; simp [val_nil]
    · rw [dd_big h, val_snoc, ih _ (by omega), dv_of _ (by omega)]; omega
theorem dd_ne (u : Nat) : Lib.decDigits u ≠ [] := by
  by_cases h : u < 10
  · rw [dd_small h]; simp
  · rw [dd_big h]; simp
theorem dd_length (u : Nat) : (Lib.decDigits u).length = Lib.nDigits u := Lib.decDigits_length u
theorem dd_length_le {u k : Nat} (hk : 0 < k) (h : u < 10 ^ k) : (Lib.decDigits u).length ≤ k := by
  rw [dd_length]
  induction k generalizing u with
  | zero => omega
  | succ k ih =>
    by_cases h1 : u < 10
    · rw [Lib.nDigits_small h1]; omega
    · rw [Lib.nDigits_big h1]
      cases k with
      | zero => simp at h; omega
      | succ k =>
        have := ih (u := u / 10) (by omega) (by rw [Nat.pow_succ] at h; omega)
        omega
theorem dd_length_ge {u k : Nat} (h : 10 ^ k ≤ u) : k < (Lib.decDigits u).length := by
  rw [dd_length]
  have := Lib.lt_pow_nDigits u
  exact (Nat.pow_lt_pow_iff_right (by omega)).1 (Nat.lt_of_le_of_lt h this)
def Norm (l : List UInt8) : Prop := l ≠ [] ∧ (l.head? = some 48 → l.length = 1)
theorem dd_head (u : Nat) : Norm (Lib.decDigits u) := by
  refine ⟨dd_ne u, ?_⟩
  induction u using Nat.strongRecOn with
  | _ u ih =>
    by_cases h : u < 10
    · rw [dd_small h]; simp
    · rw [dd_big h]
      intro hh
      have hn := dd_ne (u / 10)
      rw [List.head?_append, Option.or_of_isSome (by cases e : Lib.decDigits (u / 10) with | nil => exact absurd e hn | cons => rfl)] at hh
      have h1 := ih (u / 10) (by omega) hh
      have hv := dd_val (u / 10)
      cases e : Lib.decDigits (u / 10) with
      | nil => exact absurd e hn
      | cons b r =>
        rw [e] at h1 hh hv
        have hr : r = [] := by simpa using h1
        subst hr
        have hb : b = 48 := by simpa using hh
        subst hb
        rw [val_cons, dv_48] at hv
        simp [val_nil] at hv
        omega
theorem dd_inv {l : List UInt8} (hd : Digs l) (hn : Norm l) : Lib.decDigits (val l) = l := by
  have hv := dd_val (val l)
  have h1 := dd_digs (val l)
  have h2 := dd_head (val l)
  have hlen : (Lib.decDigits (val l)).length = l.length := by
    cases l with
    | nil => exact absurd rfl hn.1
    | cons b r =>
      have hle : (Lib.decDigits (val (b :: r))).length ≤ (b :: r).length := dd_length_le (by simp) (val_lt hd)
      by_cases hb : b = 48
      · have : r = [] := by simpa using hn.2 (by simp [hb])
        subst this
        have := List.length_pos_iff.2 (dd_ne (val [b]))
        simp at hle ⊢
        omega
      · have h3 : 10 ^ r.length ≤ val (b :: r) := by
          rw [val_cons]
          have : 1 ≤ dv b := by
            cases e : dv b with
            | zero => exact absurd (dv_inj (digs_cons.1 hd).1 (b := 48) rfl e) hb
            | succ k => omega
          have := Nat.mul_le_mul_right (10 ^ r.length) this
          omega
        have := dd_length_ge h3
        simp at hle ⊢
        omega
  exact val_inj h1 hd hlen hv
theorem pu10 (acc : Nat) (l : List UInt8) (hd : Digs l) (ha : acc < 18446744073709551616) : Lib.parseUint10 acc l = if valF acc l < 18446744073709551616 then .ok (valF acc l) else .range := by
  induction l generalizing acc with
  | nil => rw [valF_nil, if_pos ha]; rfl
  | cons b l ih =>
    obtain ⟨h1, h2⟩ := digs_cons.1 hd
    have hb := isDig_iff.1 h1
    have hmono : ∀ x, x ≤ valF x l := fun x => by
      rw [valF_eq]
      have : 0 < 10 ^ l.length := Nat.pow_pos (by omega)
      have := Nat.le_mul_of_pos_right x this
      omega
    have hm := hmono (acc * 10 + dv b)
    simp only [Lib.parseUint10, hb, and_self, if_true]
    rw [valF_cons]
    generalize hV : valF (acc * 10 + dv b) l = V at hm ⊢
    unfold dv at hm
    by_cases h3 : 1844674407370955162 ≤ acc
    · rw [if_pos h3, if_neg (by omega)]
    · rw [if_neg h3]
      by_cases h4 : 18446744073709551616 ≤ acc * 10 + (b.toNat - 48)
      · rw [if_pos h4, if_neg (by omega)]
      · rw [if_neg h4, ih _ h2 (by omega)]
        have : valF (acc * 10 + (b.toNat - 48)) l = V := hV
        rw [this]
theorem atoi_digs {l : List UInt8} (hd : Digs l) (hn : l ≠ []) : Lib.atoiAll l = if val l < 9223372036854775808 then .ok (val l : Int) else .range := by
  cases l with
  | nil => exact absurd rfl hn
  | cons b r =>
    have hb := isDig_iff.1 (digs_cons.1 hd).1
    simp only [Lib.atoiAll]
    rw [if_neg (by omega)]
    unfold Lib.parseMag
    rw [if_neg (by simp), pu10 0 _ hd (by omega)]
    have e : valF 0 (b :: r) = val (b :: r) := rfl
    rw [e]
    by_cases h1 : val (b :: r) < 18446744073709551616
    · rw [if_pos h1]
      simp only []
      by_cases h2 : val (b :: r) < 9223372036854775808
      · rw [if_pos h2, if_neg (by omega), if_neg (by omega), if_neg (by omega)]
      · rw [if_neg h2, if_pos (by omega)]
    · rw [if_neg h1, if_neg (by omega)]
def trz : List UInt8 → List UInt8
  | [] => []
  | b :: l => if trz l = [] then (if b = 48 then [] else [b]) else b :: trz l
theorem trimR_rep (l : List UInt8) (c : UInt8) : ∃ k, l = Lib.trimRightB l c ++ List.replicate k c ∧ (∀ x, (Lib.trimRightB l c).getLast? = some x → x ≠ c) := by
  have h := List.takeWhile_append_dropWhile (p := fun b : UInt8 => b == c) (l := l.reverse)
  refine ⟨(l.reverse.takeWhile (· == c)).length, ?_, ?_⟩
  · unfold Lib.trimRightB
    have h2 := congrArg List.reverse h
    rw [List.reverse_append, List.reverse_reverse] at h2
    have h3 : (l.reverse.takeWhile (· == c)).reverse = List.replicate (l.reverse.takeWhile (· == c)).length c := by
      rw [List.eq_replicate_iff]
      refine ⟨by simp, fun b hb => ?_⟩
      have := List.all_eq_true.1 (List.all_takeWhile (p := fun b : UInt8 => b == c) (l := l.reverse)) b (List.mem_reverse.1 hb)
      simpa using this
    rw [h3] at h2
    exact h2.symm
  · intro x hx
    unfold Lib.trimRightB at hx
    rw [List.getLast?_reverse] at hx
    have := List.head?_dropWhile_not (p := fun b : UInt8 => b == c) (l := l.reverse)
    rw [hx] at this
    simpa using this
theorem trz_rep (l : List UInt8) : ∃ k, l = trz l ++ List.replicate k 48 ∧ (∀ x, (trz l).getLast? = some x → x ≠ 48) := by
  induction l with
  | nil => exact ⟨0, rfl, by simp [trz]⟩
  | cons b l ih =>
    obtain ⟨k, h1, h2⟩ := ih
    unfold trz
    by_cases h : trz l = []
    · rw [if_pos h]
      rw [h, List.nil_append] at h1
      by_cases hb : b = 48
      · rw [if_pos hb]
        exact ⟨k + 1, by rw [List.replicate_succ, ← h1, hb]; rfl, by simp⟩
      · rw [if_neg hb]
        exact ⟨k, by rw [← h1]; rfl, by simp [hb]⟩
    · rw [if_neg h]
      refine ⟨k, by rw [List.cons_append, ← h1], ?_⟩
      intro x hx
      rw [List.getLast?_cons] at hx
      cases e : (trz l).getLast? with
      | none => simp at e; exact absurd e h
      | some y =>
        rw [e] at hx
        have hy := h2 y e
        simp at hx
        rw [← hx]; exact hy
theorem rep_uniq {a b : List UInt8} {c : UInt8} {i j : Nat} (h : a ++ List.replicate i c = b ++ List.replicate j c) (ha : ∀ x, a.getLast? = some x → x ≠ c) (hb : ∀ x, b.getLast? = some x → x ≠ c) : a = b := by
  induction i generalizing j with
  | zero =>
    cases j with
    | zero => simpa using h
    | succ j =>
      rw [List.replicate_succ', ← List.append_assoc] at h
      simp only [List.replicate_zero, List.append_nil] at h
      exact absurd rfl (ha c (by rw [h]; simp))
  | succ i ih =>
    cases j with
    | zero =>
      rw [List.replicate_succ', ← List.append_assoc] at h
      simp only [List.replicate_zero, List.append_nil] at h
      exact absurd rfl (hb c (by rw [← h]; simp))
    | succ j =>
      rw [List.replicate_succ', List.replicate_succ', ← List.append_assoc, ← List.append_assoc] at h
      exact ih (List.append_inj_left' h rfl)
theorem trimR_trz (l : List UInt8) : Lib.trimRightB l 48 = trz l := by
  obtain ⟨i, h1, h2⟩ := trimR_rep l 48
  obtain ⟨j, h3, h4⟩ := trz_rep l
  exact rep_uniq (h1.symm.trans h3) h2 h4
theorem trz_zeros (l : List UInt8) (k : Nat) : trz (l ++ List.replicate k 48) = trz l := by
  obtain ⟨i, h1, h2⟩ := trz_rep (l ++ List.replicate k 48)
  obtain ⟨j, h3, h4⟩ := trz_rep l
  refine rep_uniq (i := i) (j := j + k) (c := 48) ?_ h2 h4
  rw [← h1]
  conv => lhs; rw [h3]
  rw [List.append_assoc, List.replicate_append_replicate]
theorem trz_self {l : List UInt8} (h : ∀ x, l.getLast? = some x → x ≠ 48) : trz l = l := by
  obtain ⟨j, h3, h4⟩ := trz_rep l
  exact (rep_uniq (i := 0) (j := j) (c := 48) (by rw [← h3]; simp) h h4).symm
theorem trz_le (l : List UInt8) : (trz l).length ≤ l.length := by
  obtain ⟨k, h1, _⟩ := trz_rep l
  have := congrArg List.length h1
  simp at this
  omega
theorem trz_digs {l : List UInt8} (h : Digs l) : Digs (trz l) := by
  obtain ⟨k, h1, _⟩ := trz_rep l
  rw [h1, digs_append] at h
  exact h.1
theorem trz_pad (l : List UInt8) : l = trz l ++ List.replicate (l.length - (trz l).length) 48 := by
  obtain ⟨k, h1, _⟩ := trz_rep l
  have := congrArg List.length h1
  simp at this
  rw [show l.length - (trz l).length = k from by omega]
  exact h1
theorem trz_last {l : List UInt8} {x : UInt8} (h : (trz l).getLast? = some x) : x ≠ 48 := by
  obtain ⟨k, _, h2⟩ := trz_rep l
  exact h2 x h
theorem trz_nil {l : List UInt8} (hd : Digs l) : trz l = [] ↔ val l = 0 := by
  constructor
  · intro h
    have := trz_pad l
    rw [h, List.nil_append] at this
    rw [this, val_rep]
  · intro h
    have := val_eq_zero hd h
    obtain ⟨k, h1, h2⟩ := trz_rep l
    rw [this] at h1 ⊢
    have := trz_zeros [] l.length
    simpa [trz] using this
theorem bl_cons (b c : UInt8) (l m : List UInt8) : Op.bytesLess (b :: l) (c :: m) = (decide (b.toNat < c.toNat) || (decide (b.toNat = c.toNat) && Op.bytesLess l m)) := by
  show (decide (b < c) || ((b == c) && Op.bytesLess l m)) = _
  congr 1
  congr 1
  by_cases h : b = c
  · simp [h]
  · have : ¬ b.toNat = c.toNat := fun hh => h (u8_ext hh)
    simp [h, this]
theorem less_val {l m : List UInt8} (hl : Digs l) (hm : Digs m) (hlen : l.length = m.length) : Op.bytesLess l m = decide (val l < val m) := by
  induction l generalizing m with
  | nil => cases m with
    | nil => rfl
    | cons => simp at hlen
  | cons b l ih => cases m with
    | nil => simp at hlen
    | cons c m =>
      obtain ⟨h1, h2⟩ := digs_cons.1 hl
      obtain ⟨h3, h4⟩ := digs_cons.1 hm
      have hlen : l.length = m.length := by simpa using hlen
      have b1 := val_lt h2
      have b2 := val_lt h4
      rw [hlen] at b1
      have d1 := isDig_iff.1 h1
      have d2 := isDig_iff.1 h3
      rw [bl_cons, val_cons, val_cons, hlen]
      by_cases hn : b.toNat < c.toNat
      · have : (dv b + 1) * 10 ^ m.length ≤ dv c * 10 ^ m.length := Nat.mul_le_mul_right _ (by unfold dv; omega)
        rw [Nat.add_mul] at this
        have h5 : dv b * 10 ^ m.length + val l < dv c * 10 ^ m.length + val m := by omega
        simp [hn, h5]
      · by_cases hn' : c.toNat < b.toNat
        · have : (dv c + 1) * 10 ^ m.length ≤ dv b * 10 ^ m.length := Nat.mul_le_mul_right _ (by unfold dv; omega)
          rw [Nat.add_mul] at this
          have h5 : ¬ dv b * 10 ^ m.length + val l < dv c * 10 ^ m.length + val m := by omega
          have h6 : ¬ b.toNat = c.toNat := by omega
          simp [hn, h5, h6]
        · rw [ih h2 h4 hlen]
          have : b = c := u8_ext (by omega)
          subst this
          simp
end Go.AM
set_option linter.unusedVariables false
set_option linter.unusedSimpArgs false
namespace Go.AM
abbrev DecD := Bool × Int × Int × Unit
abbrev DecR := DecD × Int × Unit
def two64 : Nat := 18446744073709551616
theorem two64_eq : two64 = 18446744073709551616 := rfl
def normR (neg : Bool) (c0 : Nat) (E : Int) : DecR :=
  if E < -18 then ((false, 0, 0, ()), 10, ()) else if c0 * 10 ^ (E - 18).toNat < two64 then ((neg, ((c0 * 10 ^ (E - 18).toNat : Nat) : Int), (if E ≤ 18 then E else 18), ()), 0, ()) else ((false, 0, 0, ()), 10, ())
def zeroD : DecR := ((false, 0, 0, ()), 0, ())
def valR (neg : Bool) (d : List UInt8) (e : Int) : DecR :=
  if val d = 0 then zeroD else normR neg (val (trz d)) (e + ((d.length - (trz d).length : Nat) : Int))
theorem val_trz (d : List UInt8) : val d = val (trz d) * 10 ^ (d.length - (trz d).length) := by
  have := congrArg val (trz_pad d)
  rw [val_zeros_right] at this
  exact this
theorem core_trz {d : List UInt8} (hd : Digs d) (h : val d ≠ 0) : val (trz d) % 10 ≠ 0 := by
  have hne : trz d ≠ [] := fun hh => h ((trz_nil hd).1 hh)
  obtain ⟨x, hx⟩ : ∃ x, (trz d).getLast? = some x := by
    cases e : (trz d).getLast? with
    | none => simp at e; exact absurd e hne
    | some x => exact ⟨x, rfl⟩
  have hx48 := trz_last hx
  obtain ⟨ys, hys⟩ := List.getLast?_eq_some_iff.1 hx
  have hdig := trz_digs hd
  rw [hys] at hdig ⊢
  obtain ⟨_, h2⟩ := digs_append.1 hdig
  obtain ⟨h3, _⟩ := digs_cons.1 h2
  rw [val_snoc]
  have := dv_lt h3
  have h0 : dv x ≠ 0 := fun h0 => hx48 (dv_inj h3 (b := 48) rfl h0)
  omega
theorem core_unique {a b i j : Nat} (ha : a % 10 ≠ 0) (hb : b % 10 ≠ 0) (h : a * 10 ^ i = b * 10 ^ j) : a = b ∧ i = j := by
  induction i generalizing j with
  | zero =>
    cases j with
    | zero => simpa using h
    | succ j => rw [Nat.pow_zero, Nat.mul_one, Nat.pow_succ, ← Nat.mul_assoc] at h; omega
  | succ i ih =>
    cases j with
    | zero => rw [Nat.pow_zero, Nat.mul_one, Nat.pow_succ, ← Nat.mul_assoc] at h; omega
    | succ j =>
      rw [Nat.pow_succ, Nat.pow_succ, ← Nat.mul_assoc, ← Nat.mul_assoc] at h
      obtain ⟨h1, h2⟩ := ih (Nat.eq_of_mul_eq_mul_right (by omega) h)
      exact ⟨h1, by omega⟩
theorem valR_core {d : List UInt8} (hd : Digs d) {c0 z : Nat} (h0 : c0 % 10 ≠ 0) (hv : val d = c0 * 10 ^ z) (neg : Bool) (e : Int) : valR neg d e = normR neg c0 (e + z) := by
  have hne : val d ≠ 0 := by
    rw [hv]
    have := Nat.mul_pos (show 0 < c0 by omega) (Nat.pow_pos (n := z) (show 0 < 10 by omega))
    omega
  unfold valR
  rw [if_neg hne]
  obtain ⟨h1, h2⟩ := core_unique (core_trz hd hne) h0 ((val_trz d).symm.trans hv)
  rw [h1, h2]
theorem ten_split (c : Nat) (h : 0 < c) : ∃ c0 z, c = c0 * 10 ^ z ∧ c0 % 10 ≠ 0 := by
  induction c using Nat.strongRecOn with
  | _ c ih =>
    by_cases h1 : c % 10 = 0
    · obtain ⟨c0, z, h2, h3⟩ := ih (c / 10) (by omega) (by omega)
      exact ⟨c0, z + 1, by rw [Nat.pow_succ, ← Nat.mul_assoc, ← h2]; omega, h3⟩
    · exact ⟨c, 0, by simp, h1⟩
theorem valR_zeros_right (neg : Bool) {d : List UInt8} (hd : Digs d) (k : Nat) (e : Int) : valR neg (d ++ List.replicate k 48) e = valR neg d (e + k) := by
  have hD : Digs (d ++ List.replicate k 48) := digs_append.2 ⟨hd, digs_rep _⟩
  by_cases h : val d = 0
  · have : val (d ++ List.replicate k 48) = 0 := by rw [val_zeros_right, h]; simp
    unfold valR
    rw [if_pos h, if_pos this]
  · obtain ⟨c0, z, h1, h2⟩ := ten_split (val d) (by omega)
    rw [valR_core hd h2 h1, valR_core hD h2 (z := z + k) (by rw [val_zeros_right, h1, Nat.pow_add, Nat.mul_assoc])]
    congr 1
    omega
theorem times_eq (n : Nat) (c d : Nat) (hc : c < two64) (hd : d < two64) : F.dec_times n (c : Int) (d : Int) = some ((((c * 10 + d) % two64 : Nat) : Int), decide (c * 10 + d < two64), ()) := by
  unfold F.dec_times O.mul64
  rw [two64_eq] at *
  rw [bif_pos (by omega), some_bind']
  unfold O.add64
  rw [show (c : Int).toNat = c from rfl, show (10 : Int).toNat = 10 from rfl]
  dsimp only
  rw [bif_pos (by omega), some_bind']
  simp only [Int.toNat_natCast, show (0 : Int).toNat = 0 from rfl, Nat.add_zero]
  by_cases h : c * 10 < 18446744073709551616
  · have e1 : ((((c * 10 / 18446744073709551616 : Nat) : Int)) == 0) = true := by simp; omega
    rw [e1, cond_true]
    have e2 : c * 10 % 18446744073709551616 = c * 10 := Nat.mod_eq_of_lt h
    rw [e2]
    congr 2
    congr 1
    by_cases h2 : c * 10 + d < 18446744073709551616
    · have : (c * 10 + d) / 18446744073709551616 = 0 := Nat.div_eq_of_lt h2
      simp [h2, this]
    · have : ¬ (c * 10 + d) / 18446744073709551616 = 0 := by omega
      have e : ((((c * 10 + d) / 18446744073709551616 : Nat) : Int) == 0) = false := by simp; omega
      rw [e]; simp [h2]
  · have e1 : ((((c * 10 / 18446744073709551616 : Nat) : Int)) == 0) = false := by simp; omega
    rw [e1, cond_false]
    have : ¬ c * 10 + d < 18446744073709551616 := by omega
    simp only [this, decide_false]
    congr 2
    omega
theorem strip_norm (n : Nat) (X : Type) (k0 : Bool → Int → Int → Bool → Int → Int → Option X) (neg b : Bool) (x y : Int) (c0 : Nat) (h0 : c0 % 10 ≠ 0) : ∀ (z m : Nat) (e : Int), c0 * 10 ^ z < two64 → -9223372036854775808 ≤ e → e + z ≤ 9223372036854775807 → z < m →
    ∃ j, j ≤ z ∧ F.dec_Normal.L3 n k0 m neg ((c0 * 10 ^ z : Nat) : Int) e b x y = k0 neg ((c0 * 10 ^ j : Nat) : Int) (e + z - j) b x y ∧ (j = 0 ∨ 18 ≤ e + z - j) ∧ (e + z - j ≤ 18 ∨ j = z) := by
  intro z
  induction z with
  | zero =>
    intro m e hc he1 he2 hm
    obtain ⟨m, rfl⟩ : ∃ q, m = q + 1 := ⟨m - 1, by omega⟩
    refine ⟨0, Nat.le_refl _, ?_, Or.inl rfl, Or.inr rfl⟩
    show F.dec_Normal.L3.step n _ k0 _ _ _ _ _ _ = _
    unfold F.dec_Normal.L3.step
    have e1 : ((((c0 * 10 ^ 0 : Nat) : Int).tmod 10) == 0) = false := by
      rw [Nat.pow_zero, Nat.mul_one]
      have : ¬ ((c0 : Int).tmod 10) = 0 := by
        rw [show ((c0 : Int).tmod 10) = ((c0 % 10 : Nat) : Int) from rfl]; omega
      simpa using this
    rw [e1, cond_false]
    congr 1
    omega
  | succ z ih =>
    intro m e hc he1 he2 hm
    obtain ⟨m, rfl⟩ : ∃ q, m = q + 1 := ⟨m - 1, by omega⟩
    have hstep : F.dec_Normal.L3 n k0 (m + 1) neg ((c0 * 10 ^ (z + 1) : Nat) : Int) e b x y = F.dec_Normal.L3.step n (F.dec_Normal.L3 n k0 m) k0 neg ((c0 * 10 ^ (z + 1) : Nat) : Int) e b x y := rfl
    have hmul : c0 * 10 ^ (z + 1) = c0 * 10 ^ z * 10 := by rw [Nat.pow_succ, Nat.mul_assoc]
    have e1 : ((((c0 * 10 ^ (z + 1) : Nat) : Int).tmod 10) == 0) = true := by
      have : ((c0 * 10 ^ (z + 1) : Nat) : Int).tmod 10 = 0 := by
        rw [show (((c0 * 10 ^ (z + 1) : Nat) : Int).tmod 10) = ((c0 * 10 ^ (z + 1) % 10 : Nat) : Int) from rfl]; omega
      simpa using this
    have e2 : ((c0 * 10 ^ (z + 1) : Nat) : Int).tdiv 10 = ((c0 * 10 ^ z : Nat) : Int) := by
      rw [show (((c0 * 10 ^ (z + 1) : Nat) : Int).tdiv 10) = ((c0 * 10 ^ (z + 1) / 10 : Nat) : Int) from rfl]; omega
    rw [hstep]
    unfold F.dec_Normal.L3.step
    rw [e1, cond_true]
    by_cases h18 : e < 18
    · rw [bif_pos h18, e2, IntWalk.u64_in _ (by rw [two64_eq] at hc; omega), wrap_in (by omega)]
      obtain ⟨j, j1, j2, j3, j4⟩ := ih m (e + 1) (by omega) (by omega) (by omega) (by omega)
      refine ⟨j, by omega, ?_, ?_, ?_⟩
      · rw [j2]
        congr 1
        omega
      · rcases j3 with j3 | j3
        · exact Or.inl j3
        · exact Or.inr (by omega)
      · rcases j4 with j4 | j4
        · exact Or.inl (by omega)
        · exact Or.inl (by omega)
    · rw [bif_neg h18]
      refine ⟨z + 1, Nat.le_refl _, ?_, Or.inr (by omega), Or.inr rfl⟩
      congr 1
      omega
theorem grow_norm (n : Nat) (X : Type) (k2 : Bool → Int → Int → Bool → Int → Int → Option X) (K : Int → Bool → Int → Int → Option X) (neg b : Bool) (x y : Int) : ∀ (m c d : Nat), 0 < c → c < two64 → two64 ≤ c * 10 ^ m → 18 + (d : Int) ≤ 9223372036854775807 →
    F.dec_Normal.L5 n k2 (fun q _ _ _ u v w => K q u v w) (m + 1) neg (c : Int) (18 + (d : Int)) b x y = if c * 10 ^ d < two64 then k2 neg ((c * 10 ^ d : Nat) : Int) 18 b x y else K 10 false 0 0 := by
  intro m
  induction m with
  | zero => intro c d h1 h2 h3; rw [Nat.pow_zero, Nat.mul_one] at h3; omega
  | succ m ih =>
    intro c d h1 h2 h3 h4
    have hstep : F.dec_Normal.L5 n k2 (fun q _ _ _ u v w => K q u v w) (m + 1 + 1) neg (c : Int) (18 + (d : Int)) b x y = F.dec_Normal.L5.step n (F.dec_Normal.L5 n k2 (fun q _ _ _ u v w => K q u v w) (m + 1)) k2 (fun q _ _ _ u v w => K q u v w) neg (c : Int) (18 + (d : Int)) b x y := rfl
    rw [hstep]
    unfold F.dec_Normal.L5.step
    cases d with
    | zero =>
      rw [bif_neg (by omega), Nat.pow_zero, Nat.mul_one, if_pos h2]
      rfl
    | succ d =>
      rw [bif_pos (by omega), show (0 : Int) = ((0 : Nat) : Int) from rfl, times_eq n c 0 h2 (by decide), some_bind']
      have hp : c * 10 ≤ c * 10 ^ (d + 1) := by
        rw [Nat.pow_succ, ← Nat.mul_assoc]
        have : 0 < 10 ^ d := Nat.pow_pos (by omega)
        have := Nat.le_mul_of_pos_right c this
        omega
      by_cases hf : c * 10 + 0 < two64
      · simp only [hf, decide_true, Bool.not_true, cond_false]
        rw [wrap_in (by omega), show (18 + ((d + 1 : Nat) : Int) - 1) = 18 + (d : Int) from by omega, Nat.mod_eq_of_lt hf]
        have := ih (c * 10 + 0) d (by omega) hf (by rw [Nat.pow_succ] at h3; rw [Nat.add_zero, Nat.mul_assoc, Nat.mul_comm 10]; exact h3) (by omega)
        rw [show ((0 : Nat) : Int) = (0 : Int) from rfl] at *
        rw [this, Nat.add_zero, Nat.mul_assoc, Nat.mul_comm 10, ← Nat.pow_succ]
      · have : ¬ c * 10 ^ (d + 1) < two64 := by omega
        simp only [hf, decide_false, Bool.not_false, cond_true]
        rw [if_neg this]
theorem normal_core (n : Nat) (hn : 100 ≤ n) (neg : Bool) (c0 z : Nat) (h0 : c0 % 10 ≠ 0) (hc : c0 * 10 ^ z < two64) (e : Int) (he : -9223372036854775808 ≤ e ∧ e ≤ 9223372036854775807) :
    F.dec_Normal n (neg, ((c0 * 10 ^ z : Nat) : Int), e, ()) = some (normR neg c0 (e + z)) := by
  have hz : z ≤ 20 := by
    refine Classical.byContradiction fun hh => ?_
    have h1 : 10 ^ 20 ≤ 10 ^ z := Nat.pow_le_pow_right (by omega) (by omega)
    have h2 := Nat.le_mul_of_pos_left (10 ^ z) (show 0 < c0 by omega)
    rw [two64_eq] at hc
    omega
  have hpos : 0 < c0 * 10 ^ z := Nat.mul_pos (by omega) (Nat.pow_pos (by omega))
  unfold F.dec_Normal
  have e0 : (((c0 * 10 ^ z : Nat) : Int) == 0) = false := by
    have : ¬ ((c0 * 10 ^ z : Nat) : Int) = 0 := by omega
    simpa using this
  simp only [e0, cond_false]
  by_cases hbig : 9223372036854775807 < e + z
  ·
    have h18 : ¬ e < 18 := by omega
    obtain ⟨m, rfl⟩ : ∃ q, n = q + 1 := ⟨n - 1, by omega⟩
    have hs : ∀ (k0 : Bool → Int → Int → Bool → Int → Int → Option DecR), F.dec_Normal.L3 (m + 1) k0 (m + 1) neg ((c0 * 10 ^ z : Nat) : Int) e false 0 0 = k0 neg ((c0 * 10 ^ z : Nat) : Int) e false 0 0 := by
      intro k0
      show F.dec_Normal.L3.step (m + 1) (F.dec_Normal.L3 (m + 1) k0 m) k0 _ _ _ _ _ _ = _
      unfold F.dec_Normal.L3.step
      rw [bif_neg h18]
      cases (((c0 * 10 ^ z : Nat) : Int).tmod 10 == 0) <;> rfl
    rw [hs]
    obtain ⟨d, hd⟩ : ∃ d : Nat, e = 18 + (d : Int) := ⟨(e - 18).toNat, by omega⟩
    have hfuel : two64 ≤ c0 * 10 ^ z * 10 ^ m := by
      have h1 : 10 ^ 20 ≤ 10 ^ m := Nat.pow_le_pow_right (by omega) (by omega)
      have h2 := Nat.le_mul_of_pos_left (10 ^ m) hpos
      rw [two64_eq]
      omega
    rw [hd, grow_norm (m + 1) _ _ (fun q u v w => some ((u, v, w, ()), q, ())) neg false 0 0 m _ d hpos hc hfuel (by omega)]
    have hnot : ∀ w, 20 ≤ w → ¬ c0 * 10 ^ w < two64 := by
      intro w hw
      have h1 : 10 ^ 20 ≤ 10 ^ w := Nat.pow_le_pow_right (by omega) hw
      have h2 := Nat.le_mul_of_pos_left (10 ^ w) (show 0 < c0 by omega)
      rw [two64_eq]
      omega
    unfold normR
    rw [if_neg (show ¬ 18 + (d : Int) + z < -18 by omega), if_neg (by rw [Nat.mul_assoc, ← Nat.pow_add]; exact hnot _ (by omega)), if_neg (hnot _ (by omega))]
  · obtain ⟨j, j1, j2, j3, j4⟩ := strip_norm n DecR (fun e1_b0_0 e1_b0_1 e1_b0_2 e1_b1_0 e1_b1_1 e1_b1_2 =>
        F.dec_Normal.L5 n
          (fun e3_b0_0 e3_b0_1 e3_b0_2 e3_b1_0 e3_b1_1 e3_b1_2 =>
            bif decide (e3_b0_2 < (-18 : Int)) then
              some (((false, (0 : Int), (0 : Int), ()), (10 : Int), ()))
            else
              some (((e3_b0_0, e3_b0_1, e3_b0_2, ()), (0 : Int), ())))
          (fun e4_3 e4_b0_0 e4_b0_1 e4_b0_2 e4_b1_0 e4_b1_1 e4_b1_2 =>
            some (((e4_b1_0, e4_b1_1, e4_b1_2, ()), e4_3, ()))) n e1_b0_0 e1_b0_1 e1_b0_2 e1_b1_0 e1_b1_1 e1_b1_2) neg false 0 0 c0 h0 z n e hc he.1 (by omega) (by omega)
    refine j2.trans ?_
    have hcj : c0 * 10 ^ j < two64 := by
      have h1 : 10 ^ j ≤ 10 ^ z := Nat.pow_le_pow_right (by omega) j1
      have := Nat.mul_le_mul_left c0 h1
      omega
    have hposj : 0 < c0 * 10 ^ j := Nat.mul_pos (by omega) (Nat.pow_pos (by omega))
    obtain ⟨m, rfl⟩ : ∃ q, n = q + 1 := ⟨n - 1, by omega⟩
    by_cases hE : 18 ≤ e + z - j
    · obtain ⟨d, hd⟩ : ∃ d : Nat, e + z - j = 18 + (d : Int) := ⟨(e + z - j - 18).toNat, by omega⟩
      have hfuel : two64 ≤ c0 * 10 ^ j * 10 ^ m := by
        have h1 : 10 ^ 20 ≤ 10 ^ m := Nat.pow_le_pow_right (by omega) (by omega)
        have h2 := Nat.le_mul_of_pos_left (10 ^ m) hposj
        rw [two64_eq]
        omega
      show F.dec_Normal.L5 (m + 1) _ _ (m + 1) neg _ (e + z - j) false 0 0 = _
      rw [hd, grow_norm (m + 1) _ _ (fun q u v w => some ((u, v, w, ()), q, ())) neg false 0 0 m _ d hposj hcj hfuel (by omega)]
      unfold normR
      rw [if_neg (show ¬ e + z < -18 by omega), Nat.mul_assoc, ← Nat.pow_add, show j + d = (e + z - 18).toNat from by omega]
      by_cases hf : c0 * 10 ^ (e + z - 18).toNat < two64
      · rw [if_pos hf, if_pos hf, bif_neg (by omega)]
        congr 3
        by_cases hh : e + z ≤ 18
        · rw [if_pos hh, show e + (z : Int) = 18 from by omega]
        · rw [if_neg hh]
      · rw [if_neg hf, if_neg hf]
    · have hj0 : j = 0 := by omega
      subst hj0
      have hlow : ∀ (k2 : Bool → Int → Int → Bool → Int → Int → Option DecR) (kr : Int → Bool → Int → Int → Bool → Int → Int → Option DecR) (c : Int) (E : Int), ¬ E > 18 → F.dec_Normal.L5 (m + 1) k2 kr (m + 1) neg c E false 0 0 = k2 neg c E false 0 0 := by
        intro k2 kr c E hE
        show F.dec_Normal.L5.step (m + 1) (F.dec_Normal.L5 (m + 1) k2 kr m) k2 kr neg c E false 0 0 = _
        unfold F.dec_Normal.L5.step
        rw [bif_neg hE]
      rw [hlow _ _ _ _ (by omega)]
      unfold normR
      rw [Nat.pow_zero, Nat.mul_one, show (e + (z : Int) - 18).toNat = 0 from by omega, Nat.pow_zero, Nat.mul_one, show (e + (z : Int) - ((0 : Nat) : Int)) = e + z from by omega]
      by_cases h18 : e + z < -18
      · rw [bif_pos h18, if_pos h18]
      · rw [bif_neg h18, if_neg h18, if_pos (by rw [Nat.pow_zero, Nat.mul_one] at hcj; exact hcj), if_pos (by omega)]
theorem normal_eq (n : Nat) (hn : 100 ≤ n) (neg : Bool) (c : Nat) (hc : c < two64) (e : Int) (he : -9223372036854775808 ≤ e ∧ e ≤ 9223372036854775807) : F.dec_Normal n (neg, (c : Int), e, ()) = some (valR neg (Lib.decDigits c) e) := by
  by_cases h : c = 0
  · subst h
    unfold valR
    rw [if_pos (dd_val 0)]
    rfl
  · obtain ⟨c0, z, h1, h2⟩ := ten_split c (by omega)
    rw [valR_core (dd_digs c) h2 (by rw [dd_val]; exact h1)]
    rw [h1] at hc ⊢
    exact normal_core n hn neg c0 z h2 hc e he
end Go.AM
set_option linter.unusedVariables false
set_option linter.unusedSimpArgs false
namespace Go.AM
def lz (d : List UInt8) : List UInt8 := d.dropWhile (· == 48)
theorem lz_rep (d : List UInt8) : d = List.replicate (d.length - (lz d).length) 48 ++ lz d := by
  induction d with
  | nil => rfl
  | cons b d ih =>
    unfold lz at ih ⊢
    by_cases h : b = 48
    · subst h
      have e : ((48 : UInt8) :: d).dropWhile (· == 48) = d.dropWhile (· == 48) := by simp [List.dropWhile_cons]
      have hl : (d.dropWhile (· == 48)).length ≤ d.length := (List.dropWhile_sublist _).length_le
      rw [e, List.length_cons, show d.length + 1 - (d.dropWhile (· == 48)).length = (d.length - (d.dropWhile (· == 48)).length) + 1 from by omega, List.replicate_succ, List.cons_append, ← ih]
    · have e : (b :: d).dropWhile (· == 48) = b :: d := by simp [List.dropWhile_cons, h]
      rw [e]
      simp
theorem lz_head {d : List UInt8} {x : UInt8} (h : (lz d).head? = some x) : x ≠ 48 := by
  have := List.head?_dropWhile_not (p := fun b : UInt8 => b == 48) (l := d)
  unfold lz at h
  rw [h] at this
  simpa using this
theorem lz_val (d : List UInt8) : val (lz d) = val d := by
  conv => rhs; rw [lz_rep d]
  rw [val_zeros_left]
theorem lz_digs {d : List UInt8} (h : Digs d) : Digs (lz d) := by
  rw [lz_rep d, digs_append] at h
  exact h.2
theorem lz_le (d : List UInt8) : (lz d).length ≤ d.length := (List.dropWhile_sublist _).length_le
theorem u8_48 (x : UInt8) : ((x.toNat : Int) == 48) = decide (x = 48) := by
  by_cases h : x = 48
  · subst h; rfl
  · have : ¬ (x.toNat : Int) = 48 := fun hh => h (u8_ext (by simp; omega))
    rw [beq_eq_false_iff_ne.2 this, decide_eq_false h]
theorem last_rep (a : List UInt8) (j : Nat) : idx (a ++ List.replicate (j + 1) (48 : UInt8)) (((a ++ List.replicate (j + 1) (48 : UInt8)).length : Int) - 1) = some 48 ∧ sub (a ++ List.replicate (j + 1) (48 : UInt8)) 0 (((a ++ List.replicate (j + 1) (48 : UInt8)).length : Int) - 1) = some (a ++ List.replicate j 48) := by
  rw [List.replicate_succ', ← List.append_assoc]
  have hlen : (a ++ List.replicate j (48 : UInt8) ++ [48]).length = a.length + j + 1 := by simp; omega
  refine ⟨?_, ?_⟩
  · rw [idx_pred (by omega), ← List.getLast?_eq_getElem?]; simp
  · have := sub_nat (a ++ List.replicate j (48 : UInt8) ++ [48]) 0 (a.length + j) (by omega) (by rw [hlen]; omega)
    rw [hlen, show (((a.length + j + 1 : Nat) : Int) - 1) = ((a.length + j : Nat) : Int) from by omega]
    refine this.trans ?_
    rw [List.drop_zero, List.take_append_of_le_length (by simp), List.take_of_length_le (by simp)]
theorem last_not {a : List UInt8} (ha : a ≠ []) (hl : ∀ x, a.getLast? = some x → x ≠ 48) : ∃ x, idx a ((a.length : Int) - 1) = some x ∧ x ≠ 48 := by
  have hp : 0 < a.length := List.length_pos_iff.2 ha
  rw [idx_pred hp, ← List.getLast?_eq_getElem?]
  cases e : a.getLast? with
  | none => simp at e; exact absurd e ha
  | some x => exact ⟨x, rfl, hl x e⟩
theorem val_ge {d : List UInt8} (hd : Digs d) (hne : d ≠ []) (hh : ∀ x, d.head? = some x → x ≠ 48) : 10 ^ (d.length - 1) ≤ val d := by
  cases d with
  | nil => exact absurd rfl hne
  | cons b d =>
    obtain ⟨h1, h2⟩ := digs_cons.1 hd
    have h0 : dv b ≠ 0 := fun h0 => hh b rfl (dv_inj h1 (b := 48) rfl h0)
    rw [val_cons]
    have := Nat.le_mul_of_pos_left (10 ^ d.length) (show 0 < dv b by omega)
    simp
    omega
end Go.AM
set_option linter.unusedVariables false
set_option linter.unusedSimpArgs false
namespace Go.AM
abbrev FaultR := Int × Int × Unit
abbrev ParseR := DecD × FaultR × Unit
theorem hasPrefix_one (n : Nat) (s : List UInt8) (c : UInt8) : F.strings_HasPrefix n s [c] = some (decide (s.head? = some c)) := by
  unfold F.strings_HasPrefix F.stringslite_HasPrefix
  cases s with
  | nil => rfl
  | cons b s =>
    have e : sub (b :: s) (0 : Int) ((([c] : List UInt8).length : Nat) : Int) = some [b] := sub_nat (b :: s) 0 1 (by omega) (by simp)
    rw [bif_pos (by simp; omega), e, some_bind', some_bind']
    by_cases h : b = c
    · subst h; simp
    · simp [h]
def tw (s : List UInt8) : List UInt8 := s.takeWhile isDig
theorem tw_digs (s : List UInt8) : Digs (tw s) := List.all_takeWhile
theorem tw_split (s : List UInt8) : s = tw s ++ s.drop (tw s).length := by
  induction s with
  | nil => rfl
  | cons b s ih =>
    unfold tw at ih ⊢
    by_cases h : isDig b = true
    · simp only [List.takeWhile_cons, h, if_true, List.length_cons, List.drop_succ_cons, List.cons_append]
      rw [← ih]
    · simp [List.takeWhile_cons, h]
theorem tw_le (s : List UInt8) : (tw s).length ≤ s.length := (List.takeWhile_sublist _).length_le
theorem digits_loop (n : Nat) (X : Type) (k0 : Int → (List UInt8) → Int → Int → Int → Option X) (v3 b0 b1 : Int) (s : List UInt8) (hs : s.length < 4611686018427387904) : ∀ (r : List UInt8) (k m : Nat), s.drop k = r → k ≤ s.length → r.length < m →
    F.dec_look.L2_dec_look_1 n k0 m v3 s b0 b1 (k : Int) = k0 v3 s b0 b1 ((k + (tw r).length : Nat) : Int) := by
  intro r
  induction r with
  | nil =>
    intro k m hk hkl hm
    have := drop_nil' hk
    obtain ⟨m, rfl⟩ : ∃ q, m = q + 1 := ⟨m - 1, by omega⟩
    show F.dec_look.L2_dec_look_1.step n _ k0 _ _ _ _ _ = _
    unfold F.dec_look.L2_dec_look_1.step
    rw [bif_neg (by omega)]
    rfl
  | cons x r ih =>
    intro k m hk hkl hm
    obtain ⟨h1, h2, h3⟩ := drop_cons hk
    obtain ⟨m, rfl⟩ : ∃ q, m = q + 1 := ⟨m - 1, by omega⟩
    show F.dec_look.L2_dec_look_1.step n (F.dec_look.L2_dec_look_1 n k0 m) k0 _ _ _ _ _ = _
    unfold F.dec_look.L2_dec_look_1.step
    rw [bif_pos (by omega), idx_nat, h2, some_bind', some_bind']
    unfold tw at ih ⊢
    by_cases hd : isDig x = true
    · have hx := isDig_iff.1 hd
      rw [bif_pos (by omega), bif_pos (by omega), wrap_succ (by omega), ih (k + 1) m h3 (by omega) (by simp at hm; omega)]
      simp only [List.takeWhile_cons, hd, if_true, List.length_cons]
      congr 2
      omega
    · simp only [List.takeWhile_cons, hd, if_false]
      by_cases h48 : 48 ≤ x.toNat
      · have : ¬ x.toNat ≤ 57 := fun h => hd (isDig_iff.2 ⟨h48, h⟩)
        rw [bif_pos (by omega), bif_neg (by omega)]
        rfl
      · rw [bif_neg (by omega)]
        rfl
def p0 (s : List UInt8) : Nat := if s.head? = some 45 then 1 else 0
def p1q (q : Nat) (s : List UInt8) : Nat := q + (tw (s.drop q)).length
def p3q (q : Nat) (s : List UInt8) : Nat := p1q q s + 1 + (tw (s.drop (p1q q s + 1))).length
theorem p0_le (s : List UInt8) : p0 s ≤ s.length := by
  unfold p0
  cases s with
  | nil => simp
  | cons b s => split <;> simp
theorem p1_le {q : Nat} {s : List UInt8} (hq : q ≤ s.length) : p1q q s ≤ s.length := by
  have h2 := tw_le (s.drop q)
  simp at h2
  unfold p1q
  omega
theorem drop_lt {s : List UInt8} {k : Nat} {x : UInt8} (h : (s.drop k).head? = some x) : k < s.length := by
  cases e : s.drop k with
  | nil => rw [e] at h; simp at h
  | cons b r =>
    have := congrArg List.length e
    simp at this
    omega
theorem p3_le {q : Nat} {s : List UInt8} (h : (s.drop (p1q q s)).head? = some 46) : p3q q s ≤ s.length := by
  have h1 := drop_lt h
  have h2 := tw_le (s.drop (p1q q s + 1))
  simp at h2
  unfold p3q
  omega
def endR (right : Prop) [Decidable right] (at' : Nat) (len : Nat) : FaultR :=
  if right ∧ at' = len then (0, 0, ()) else if at' = len then (11, (at' : Int), ()) else (14, (at' : Int), ())
def lookQ (q : Nat) (s : List UInt8) : FaultR :=
  if q < p1q q s ∧ (s.drop (p1q q s)).head? = some 46 then endR (p1q q s + 1 < p3q q s) (p3q q s) s.length else endR (q < p1q q s) (p1q q s) s.length
def lookR (s : List UInt8) : FaultR := lookQ (p0 s) s
theorem end_eq (a b : Nat) (at' len : Nat) : (bif decide ((at' : Int) > (a : Int)) then
      bif (at' : Int) == (len : Int) then some (((0 : Int), (0 : Int), ())) else bif (at' : Int) == (len : Int) then some (((11 : Int), (at' : Int), ())) else some (((14 : Int), (at' : Int), ()))
    else bif (at' : Int) == (len : Int) then some (((11 : Int), (at' : Int), ())) else some (((14 : Int), (at' : Int), ()))) = some (endR (a < at') at' len) := by
  unfold endR
  by_cases h1 : at' = len
  · have e : ((at' : Int) == (len : Int)) = true := by simp [h1]
    rw [e]
    by_cases h2 : a < at'
    · rw [bif_pos (by omega), if_pos ⟨h2, h1⟩]; rfl
    · rw [bif_neg (by omega), if_neg (fun h => h2 h.1), if_pos h1]; rfl
  · have e : ((at' : Int) == (len : Int)) = false := by
      have : ¬ (at' : Int) = (len : Int) := by omega
      simpa using this
    rw [e, if_neg (fun h => h1 h.2), if_neg h1]
    simp only [cond_false]
    cases decide ((at' : Int) > (a : Int)) <;> rfl
theorem look_tail (n : Nat) (s : List UInt8) (hs : s.length < 4000000000000000000) (hn : s.length < n) (q : Nat) (hq : q ≤ s.length) :
    F.dec_look.L2_dec_look_1 n
        (fun e4_3 e4_b0_0 e4_b1_0 e4_b1_1 e4_b2_0 =>
          bif decide (e4_b2_0 > e4_3) then
            (sub e4_b0_0 e4_b2_0 (e4_b0_0.length : Int)).bind fun x5 =>
              (F.strings_HasPrefix n x5 ([46])).bind fun y6 =>
                bif y6 then
                  F.dec_look.L2_dec_look_1 n
                    (fun e7_3 e7_b0_0 e7_b1_0 e7_b1_1 e7_b2_0 =>
                      bif decide (e7_b2_0 > e7_3) then
                        bif e7_b2_0 == (e7_b0_0.length : Int) then
                          some (((0 : Int), (0 : Int), ()))
                        else
                        bif e7_b2_0 == (e7_b0_0.length : Int) then
                          some (((11 : Int), e7_b2_0, ()))
                        else
                          some (((14 : Int), e7_b2_0, ()))
                      else
                      bif e7_b2_0 == (e7_b0_0.length : Int) then
                        some (((11 : Int), e7_b2_0, ()))
                      else
                        some (((14 : Int), e7_b2_0, ()))) n (IntKind.wrap .i64 (e4_b2_0 + (1 : Int))) e4_b0_0 e4_b1_0 e4_b1_1 (IntKind.wrap .i64 (e4_b2_0 + (1 : Int)))
                else
                bif decide (e4_b2_0 > e4_3) then
                  bif e4_b2_0 == (e4_b0_0.length : Int) then
                    some (((0 : Int), (0 : Int), ()))
                  else
                  bif e4_b2_0 == (e4_b0_0.length : Int) then
                    some (((11 : Int), e4_b2_0, ()))
                  else
                    some (((14 : Int), e4_b2_0, ()))
                else
                bif e4_b2_0 == (e4_b0_0.length : Int) then
                  some (((11 : Int), e4_b2_0, ()))
                else
                  some (((14 : Int), e4_b2_0, ()))
          else
          bif decide (e4_b2_0 > e4_3) then
            bif e4_b2_0 == (e4_b0_0.length : Int) then
              some (((0 : Int), (0 : Int), ()))
            else
            bif e4_b2_0 == (e4_b0_0.length : Int) then
              some (((11 : Int), e4_b2_0, ()))
            else
              some (((14 : Int), e4_b2_0, ()))
          else
          bif e4_b2_0 == (e4_b0_0.length : Int) then
            some (((11 : Int), e4_b2_0, ()))
          else
            some (((14 : Int), e4_b2_0, ()))) n (q : Int) s (0 : Int) (0 : Int) (q : Int)
    = some (lookQ q s) := by
  rw [digits_loop n _ _ _ _ _ s (by omega) (s.drop q) q n rfl hq (by simp; omega)]
  have hkl : p1q q s ≤ s.length := p1_le hq
  show (bif decide (((p1q q s : Nat) : Int) > (q : Int)) then _ else _) = _
  unfold lookQ
  have hk3 : p3q q s = p1q q s + 1 + (tw (s.drop (p1q q s + 1))).length := rfl
  have hsh : q + (tw (s.drop q)).length = p1q q s := rfl
  simp only [hsh]
  generalize p3q q s = k3 at hk3 ⊢
  clear hsh
  generalize p1q q s = k at hkl hk3 ⊢
  subst hk3
  have hE := end_eq q 0 k s.length
  rw [hE]
  by_cases h1 : q < k
  · rw [bif_pos (by omega)]
    have hsub : sub s (k : Int) (s.length : Int) = some (s.drop k) := by
      have := sub_nat s k s.length hkl (Nat.le_refl _)
      rw [List.take_length] at this
      exact this
    rw [hsub, some_bind', hasPrefix_one, some_bind']
    by_cases h2 : (s.drop k).head? = some 46
    · have hlt : k < s.length := by
        cases e : s.drop k with
        | nil => rw [e] at h2; simp at h2
        | cons b r =>
          have := congrArg List.length e
          simp at this
          omega
      rw [decide_eq_true h2, cond_true, if_pos ⟨h1, h2⟩, wrap_succ (by omega), digits_loop n _ _ _ _ _ s (by omega) (s.drop (k + 1)) (k + 1) n rfl (by omega) (by simp; omega)]
      exact end_eq (k + 1) 0 _ s.length
    · rw [decide_eq_false h2, cond_false, if_neg (fun h => h2 h.2)]
  · rw [bif_neg (by omega), if_neg (fun h => h1 h.1)]
theorem look_eq (n : Nat) (s : List UInt8) (hs : s.length < 4000000000000000000) (hn : s.length < n) : F.dec_look n s = some (lookR s) := by
  unfold F.dec_look
  rw [hasPrefix_one, some_bind']
  by_cases h : s.head? = some 45
  · have hp : p0 s = 1 := by unfold p0; rw [if_pos h]
    rw [decide_eq_true h, cond_true]
    have hq : 1 ≤ s.length := by have := p0_le s; omega
    have := look_tail n s hs hn 1 hq
    refine this.trans ?_
    unfold lookR
    rw [hp]
  · have hp : p0 s = 0 := by unfold p0; rw [if_neg h]
    rw [decide_eq_false h, cond_false]
    have := look_tail n s hs hn 0 (by omega)
    refine this.trans ?_
    unfold lookR
    rw [hp]
end Go.AM
set_option linter.unusedVariables false
set_option linter.unusedSimpArgs false
namespace Go.AM
def outR (r : DecR) : ParseR := if r.2.1 = 0 then (r.1, (0, 0, ()), ()) else ((false, 0, 0, ()), (r.2.1, 0, ()), ())
def badR (f : FaultR) : ParseR := ((false, 0, 0, ()), f, ())
def aheadD (s : List UInt8) : List UInt8 := tw (s.drop (p0 s))
def behindD (s : List UInt8) : List UInt8 := if (s.drop (p1q (p0 s) s)).head? = some 46 then tw (s.drop (p1q (p0 s) s + 1)) else []
def negD (s : List UInt8) : Bool := decide (s.head? = some 45)
def parseR (s : List UInt8) : ParseR :=
  if (lookR s).1 = 0 then outR (valR (negD s) (aheadD s ++ behindD s) (-((behindD s).length : Int))) else badR (lookR s)
theorem valR_code (neg : Bool) (d : List UInt8) (e : Int) : (valR neg d e).2.1 = 0 ∨ (valR neg d e).2.1 = 10 ∧ (valR neg d e).1 = (false, 0, 0, ()) := by
  unfold valR zeroD normR
  by_cases h : val d = 0
  · rw [if_pos h]; exact Or.inl rfl
  · rw [if_neg h]
    split
    · exact Or.inr ⟨rfl, rfl⟩
    · split
      · exact Or.inl rfl
      · exact Or.inr ⟨rfl, rfl⟩
theorem valR_same {d d' : List UInt8} (hd : Digs d) (hd' : Digs d') (h : val d = val d') (neg : Bool) (e : Int) : valR neg d e = valR neg d' e := by
  by_cases h0 : val d = 0
  · unfold valR
    rw [if_pos h0, if_pos (h ▸ h0)]
  · obtain ⟨c0, z, h1, h2⟩ := ten_split (val d) (by omega)
    rw [valR_core hd h2 h1, valR_core hd' h2 (h ▸ h1)]
theorem valR_big {d : List UInt8} (hd : Digs d) (h : two64 ≤ val d) (ht : trz d = d) (neg : Bool) (e : Int) : valR neg d e = ((false, 0, 0, ()), 10, ()) := by
  have h0 : val d ≠ 0 := by rw [two64_eq] at h; omega
  have hc := core_trz hd h0
  rw [ht] at hc
  rw [valR_core hd hc (z := 0) (by simp)]
  unfold normR
  split
  · rfl
  · rw [if_neg]
    have := Nat.le_mul_of_pos_right (val d) (Nat.pow_pos (n := (e + ((0 : Nat) : Int) - 18).toNat) (show 0 < 10 by omega))
    omega
end Go.AM
set_option linter.unusedVariables false
set_option linter.unusedSimpArgs false
namespace Go.AM
theorem coef_loop (n : Nat) (X : Type) (k0 : Bool → Int → Int → Int → Int → Int → Int → Bool → Int → Int → Option X) (s : List UInt8) (hs : s.length < 4611686018427387904) (b : Bool) (x1 x2 x3 x4 x5 x6 : Int) (neg : Bool) (E : Int) : ∀ (r : List UInt8) (k m : Nat), s.drop k = r → k ≤ s.length → r.length < m → Digs r → val (s.take k) < two64 →
    F.dec_Parse.L14 n k0 m s (s.length : Int) (k : Int) b x1 x2 x3 x4 x5 x6 neg (val (s.take k) : Int) E = if val s < two64 then k0 b x1 x2 x3 x4 x5 x6 neg (val s) E else k0 b x1 x2 x3 x4 x5 x6 neg 1 (-19) := by
  intro r
  induction r with
  | nil =>
    intro k m hk hkl hm hd hv
    have hk := drop_nil' hk
    obtain ⟨m, rfl⟩ : ∃ q, m = q + 1 := ⟨m - 1, by omega⟩
    show F.dec_Parse.L14.step n _ k0 _ _ _ _ _ _ _ _ _ _ _ _ _ = _
    unfold F.dec_Parse.L14.step
    rw [List.take_of_length_le hk] at hv ⊢
    rw [bif_neg (by omega), if_pos hv]
  | cons x r ih =>
    intro k m hk hkl hm hd hv
    obtain ⟨h1, h2, h3⟩ := drop_cons hk
    obtain ⟨d1, d2⟩ := digs_cons.1 hd
    have hx := isDig_iff.1 d1
    obtain ⟨m, rfl⟩ : ∃ q, m = q + 1 := ⟨m - 1, by omega⟩
    show F.dec_Parse.L14.step n (F.dec_Parse.L14 n k0 m) k0 _ _ _ _ _ _ _ _ _ _ _ _ _ = _
    unfold F.dec_Parse.L14.step
    have htk : s.take (k + 1) = s.take k ++ [x] := by rw [List.take_add_one, h2]; rfl
    have hvk : val (s.take (k + 1)) = val (s.take k) * 10 + dv x := by rw [htk, val_snoc]
    have hsv : val (s.take (k + 1)) ≤ val s := by
      have e : s = s.take (k + 1) ++ s.drop (k + 1) := (List.take_append_drop _ _).symm
      have h5 : val s = val (s.take (k + 1)) * 10 ^ (s.drop (k + 1)).length + val (s.drop (k + 1)) := by
        conv => lhs; rw [e]
        rw [val_append]
      have := Nat.le_mul_of_pos_right (val (s.take (k + 1))) (Nat.pow_pos (n := (s.drop (k + 1)).length) (show 0 < 10 by omega))
      omega
    have hdl := dv_lt d1
    have hdx : IntKind.wrap .u64 (IntKind.wrap .u8 ((x.toNat : Int) - 48)) = (dv x : Int) := by
      have h8 : IntKind.wrap .u8 ((x.toNat : Int) - 48) = (x.toNat : Int) - 48 := IntWalk.u8_in _ (by omega)
      rw [h8, IntWalk.u64_in _ (by omega)]; unfold dv; omega
    rw [bif_pos (by omega), idx_nat, h2, some_bind', hdx, times_eq n _ _ hv (by rw [two64_eq]; omega), some_bind', ← hvk, wrap_succ (by omega)]
    by_cases hf : val (s.take (k + 1)) < two64
    · simp only [hf, decide_true, Bool.not_true, cond_false, Nat.mod_eq_of_lt hf]
      exact ih (k + 1) m h3 (by omega) (by simp at hm; omega) d2 hf
    · simp only [hf, decide_false, Bool.not_false, cond_true]
      rw [if_neg (by omega)]
theorem cutPrefix_one (n : Nat) (s : List UInt8) : F.strings_CutPrefix n s [45] = some (s.drop (p0 s), negD s, ()) := by
  unfold F.strings_CutPrefix F.stringslite_CutPrefix
  have hp : F.stringslite_HasPrefix n s [45] = some (decide (s.head? = some 45)) := by
    have := hasPrefix_one n s 45
    unfold F.strings_HasPrefix at this
    cases e : F.stringslite_HasPrefix n s [45] with
    | none => rw [e] at this; cases this
    | some b => rw [e] at this; exact this
  rw [hp, some_bind']
  unfold p0 negD
  by_cases h : s.head? = some 45
  · have hl : 1 ≤ s.length := by cases s with | nil => simp at h | cons => simp
    have hsub : sub s ((([45] : List UInt8).length : Nat) : Int) (s.length : Int) = some (s.drop 1) := by
      have := sub_nat s 1 s.length hl (Nat.le_refl _)
      rw [List.take_length] at this
      exact this
    rw [decide_eq_true h, Bool.not_true, cond_false, hsub, if_pos h]
    rfl
  · rw [decide_eq_false h, Bool.not_false, cond_true, if_neg h]
    rfl
theorem idxByte_app {a t : List UInt8} (ha : Digs a) : Lib.indexByte (a ++ 46 :: t) 46 = (a.length : Int) := by
  induction a with
  | nil => simp [Lib.indexByte]
  | cons b a ih =>
    obtain ⟨h1, h2⟩ := digs_cons.1 ha
    have hb : ¬ b = 46 := fun h => by subst h; simp [isDig] at h1
    have := ih h2
    simp only [List.cons_append, Lib.indexByte, beq_iff_eq, hb, if_false, this]
    have hne : ¬ (a.length : Int) = -1 := by omega
    simp [hne]
theorem idxByte_no {a : List UInt8} (ha : Digs a) : Lib.indexByte a 46 = -1 := by
  induction a with
  | nil => rfl
  | cons b a ih =>
    obtain ⟨h1, h2⟩ := digs_cons.1 ha
    have hb : ¬ b = 46 := fun h => by subst h; simp [isDig] at h1
    simp [Lib.indexByte, hb, ih h2]
theorem look_ok {s : List UInt8} (h : (lookR s).1 = 0) : lookR s = (0, 0, ()) ∧ aheadD s ≠ [] ∧
    ((s.drop (p0 s) = aheadD s ∧ behindD s = []) ∨ (s.drop (p0 s) = aheadD s ++ 46 :: behindD s ∧ behindD s ≠ [])) := by
  unfold lookR lookQ at h ⊢
  have split := tw_split (s.drop (p0 s))
  rw [List.drop_drop] at split
  have hle := p1_le (p0_le s)
  by_cases hp : p0 s < p1q (p0 s) s ∧ (s.drop (p1q (p0 s) s)).head? = some 46
  · rw [if_pos hp] at h ⊢
    unfold endR at h ⊢
    by_cases h3 : p1q (p0 s) s + 1 < p3q (p0 s) s ∧ p3q (p0 s) s = s.length
    · rw [if_pos h3]
      refine ⟨rfl, ?_, Or.inr ?_⟩
      · intro hh
        have : (tw (s.drop (p0 s))).length = 0 := by unfold aheadD at hh; rw [hh]; rfl
        have := hp.1
        unfold p1q at this
        omega
      · have hb : behindD s = tw (s.drop (p1q (p0 s) s + 1)) := by unfold behindD; rw [if_pos hp.2]
        have h2 := tw_split (s.drop (p1q (p0 s) s + 1))
        rw [List.drop_drop] at h2
        have h4 : s.drop (p1q (p0 s) s + 1 + (tw (s.drop (p1q (p0 s) s + 1))).length) = [] := List.drop_eq_nil_of_le (by
          have h5 := h3.2
          unfold p3q at h5
          omega)
        rw [h4, List.append_nil] at h2
        have h5 : s.drop (p1q (p0 s) s) = 46 :: s.drop (p1q (p0 s) s + 1) := by
          cases e : s.drop (p1q (p0 s) s) with
          | nil => rw [e] at hp; simp at hp
          | cons c r =>
            rw [e] at hp
            have hc : c = 46 := by simpa using hp.2
            subst hc
            obtain ⟨_, _, g3⟩ := drop_cons e
            rw [g3]
        refine ⟨?_, ?_⟩
        · rw [split]
          have : s.drop (p0 s + (tw (s.drop (p0 s))).length) = s.drop (p1q (p0 s) s) := rfl
          rw [this, h5, hb, ← h2]
          rfl
        · rw [hb]
          intro hh
          have h6 := h3.1
          unfold p3q at h6
          rw [hh] at h6
          simp at h6
    · rw [if_neg h3] at h
      split at h <;> cases h
  · rw [if_neg hp] at h ⊢
    unfold endR at h ⊢
    by_cases h3 : p0 s < p1q (p0 s) s ∧ p1q (p0 s) s = s.length
    · rw [if_pos h3]
      have hd : s.drop (p1q (p0 s) s) = [] := List.drop_eq_nil_of_le (by omega)
      refine ⟨rfl, ?_, Or.inl ⟨?_, ?_⟩⟩
      · intro hh
        have : (tw (s.drop (p0 s))).length = 0 := by unfold aheadD at hh; rw [hh]; rfl
        have := h3.1
        unfold p1q at this
        omega
      · have : s.drop (p0 s + (tw (s.drop (p0 s))).length) = s.drop (p1q (p0 s) s) := rfl
        rw [this, hd, List.append_nil] at split
        exact split
      · unfold behindD
        rw [hd]
        simp
    · rw [if_neg h3] at h
      split at h <;> cases h
theorem behind_digs (s : List UInt8) : Digs (behindD s) := by
  unfold behindD
  split
  · exact tw_digs _
  · rfl
theorem cut_point (n : Nat) {s : List UInt8} (hs : s.length ≤ 10000) (h : (lookR s).1 = 0) : ∃ f, F.strings_Cut n (s.drop (p0 s)) [46] = some (aheadD s, behindD s, f, ()) := by
  obtain ⟨_, _, h3⟩ := look_ok h
  unfold F.strings_Cut F.stringslite_Cut O.index1
  rcases h3 with ⟨a, b⟩ | ⟨a, b⟩
  · have hi : Lib.indexByte (aheadD s) 46 = -1 := idxByte_no (tw_digs _)
    rw [a, b]
    simp only [some_bind']
    rw [hi]
    exact ⟨false, rfl⟩
  · have hl : (aheadD s ++ 46 :: behindD s).length ≤ 10000 := by rw [← a]; simp; omega
    have hl2 : (aheadD s).length + ((behindD s).length + 1) ≤ 10000 := by simpa using hl
    have hi : Lib.indexByte (aheadD s ++ 46 :: behindD s) 46 = ((aheadD s).length : Int) := idxByte_app (tw_digs _)
    rw [a]
    simp only [some_bind']
    rw [hi]
    have s1 : sub (aheadD s ++ 46 :: behindD s) 0 ((aheadD s).length : Int) = some (aheadD s) := by
      have := sub_nat (aheadD s ++ 46 :: behindD s) 0 (aheadD s).length (by omega) (by simp)
      rw [List.drop_zero, List.take_left'] at this
      · exact this
      · rfl
    have hdr : (aheadD s ++ 46 :: behindD s).drop ((aheadD s).length + 1) = behindD s := by
      rw [List.drop_append, List.drop_eq_nil_of_le (by omega), List.nil_append, show (aheadD s).length + 1 - (aheadD s).length = 1 from by omega]
      rfl
    have s2 : sub (aheadD s ++ 46 :: behindD s) (((aheadD s).length + 1 : Nat) : Int) ((aheadD s ++ 46 :: behindD s).length : Int) = some (behindD s) := by
      have := sub_nat (aheadD s ++ 46 :: behindD s) ((aheadD s).length + 1) (aheadD s ++ 46 :: behindD s).length (by simp) (Nat.le_refl _)
      rw [List.take_length, hdr] at this
      exact this
    have hw : IntKind.wrap .i64 (((aheadD s).length : Int) + ((([46] : List UInt8).length : Nat) : Int)) = (((aheadD s).length + 1 : Nat) : Int) := wrap_succ (by omega)
    rw [bif_pos (by omega), s1, some_bind', hw, s2]
    exact ⟨true, rfl⟩
theorem trimR_eq (n : Nat) {s : List UInt8} (h : s.length ≤ 10000) : O.trimR n s [48] = some (trz s) := by
  unfold O.trimR
  have hb : (Nat.blt (48 : UInt8).toNat 128 && Nat.ble s.length big47) = true := by
    rw [Bool.and_eq_true, Nat.ble_eq]
    exact ⟨rfl, by unfold big47; omega⟩
  simp only [hb, cond_true, trimR_trz]
theorem trimL_eq (n : Nat) {s : List UInt8} (h : s.length ≤ 10000) : O.trimL n s [48] = some (lz s) := by
  unfold O.trimL
  have hb : (Nat.blt (48 : UInt8).toNat 128 && Nat.ble s.length big47) = true := by
    rw [Bool.and_eq_true, Nat.ble_eq]
    exact ⟨rfl, by unfold big47; omega⟩
  simp only [hb, cond_true]
  rfl
theorem trz_trz (d : List UInt8) : trz (trz d) = trz d := trz_self (fun x hx => trz_last hx)
theorem valR_lz (neg : Bool) {d : List UInt8} (hd : Digs d) (e : Int) : valR neg (lz d) e = valR neg d e := valR_same (lz_digs hd) hd (lz_val d) neg e
theorem coef_out (n : Nat) (hn : 200000 ≤ n) (neg : Bool) (d : List UInt8) (hd : Digs d) (hl : d.length ≤ 10000) (E : Int) (hE : -100000 ≤ E ∧ E ≤ 100000) (ht : trz d = d) (x1 x2 x3 x4 x5 x6 : Int) :
    F.dec_Parse.L14 n
                        (fun e9_b0_0 e9_b0_1 e9_b0_2 e9_b1_0 e9_b1_1 e9_b2_0 e9_b2_1 e9_b3_0 e9_b3_1 e9_b3_2 =>
                          (F.dec_Normal n (e9_b3_0, e9_b3_1, e9_b3_2, ())).bind fun y10 =>
                            bif !(y10.2.1 == (0 : Int)) then
                              some (((false, (0 : Int), (0 : Int), ()), (y10.2.1, (0 : Int), ()), ()))
                            else
                              some (((y10.1.1, y10.1.2.1, y10.1.2.2.1, ()), ((0 : Int), (0 : Int), ()), ()))) n d (d.length : Int) (0 : Int) false x1 x2 x3 x4 x5 x6 neg (0 : Int) E
    = some (outR (valR neg d E)) := by
  refine (coef_loop n _ _ d (by omega) false x1 x2 x3 x4 x5 x6 neg E d 0 n rfl (by omega) (by omega) hd (by rw [List.take_zero, val_nil, two64_eq]; omega)).trans ?_
  have out : ∀ r : DecR, (r.2.1 = 0 ∨ r.2.1 = 10 ∧ r.1 = (false, 0, 0, ())) → ((some r).bind fun y10 =>
                            bif !(y10.2.1 == (0 : Int)) then
                              some (((false, (0 : Int), (0 : Int), ()), (y10.2.1, (0 : Int), ()), ()))
                            else
                              some (((y10.1.1, y10.1.2.1, y10.1.2.2.1, ()), ((0 : Int), (0 : Int), ()), ()))) = some (outR r) := by
    intro r hr
    rw [some_bind']
    unfold outR
    rcases hr with h | ⟨h1, h2⟩
    · rw [h, if_pos rfl]; rfl
    · rw [h1, if_neg (by decide)]; rfl
  by_cases hv : val d < two64
  · rw [if_pos hv, normal_eq n (by omega) neg _ hv E (by omega), valR_same (dd_digs _) hd (dd_val _)]
    exact out _ (valR_code neg d E)
  · have h19 := normal_eq n (by omega) neg 1 (by decide) (-19) (by omega)
    have hb := valR_big hd (by omega) ht neg E
    rw [if_neg hv, show (1 : Int) = ((1 : Nat) : Int) from rfl, h19, hb]
    have e1 : valR neg (Lib.decDigits 1) (-19) = ((false, 0, 0, ()), 10, ()) := by
      rw [valR_core (dd_digs 1) (c0 := 1) (z := 0) (by decide) (by rw [dd_val])]
      unfold normR
      rw [if_pos (by omega)]
    rw [e1]
    exact out _ (Or.inr ⟨rfl, rfl⟩)
theorem decparse_eq (n : Nat) (hn : 200000 ≤ n) (s : List UInt8) (hs : s.length ≤ 10000) : F.dec_Parse n s = some (parseR s) := by
  unfold F.dec_Parse
  rw [look_eq n s (by omega) (by omega), some_bind']
  by_cases h : (lookR s).1 = 0
  · obtain ⟨h1, h2, h3⟩ := look_ok h
    obtain ⟨f, hcut⟩ := cut_point n hs h
    have e0 : (!((0 : Int) == 0 && (0 : Int) == 0)) = false := rfl
    rw [h1]
    simp only [e0, cond_false]
    rw [cutPrefix_one, some_bind']
    simp only [hcut, some_bind']
    have ha : Digs (aheadD s) := tw_digs _
    have hb := behind_digs s
    have hlen : (aheadD s).length + (behindD s).length ≤ 10000 := by
      have hd : (s.drop (p0 s)).length ≤ 10000 := by simp; omega
      rcases h3 with ⟨a, b⟩ | ⟨a, b⟩
      · rw [b]; rw [a] at hd; simpa using hd
      · rw [a] at hd; simp at hd; omega
    unfold parseR
    rw [if_pos h]
    generalize aheadD s = a at *
    generalize behindD s = b at *
    have htb := trz_le b
    rw [trimR_eq n (by omega), some_bind', bif_pos (by rw [strMax_eq]; omega), trimL_eq n (by simp; omega), some_bind']
    have hab : Digs (a ++ trz b) := digs_append.2 ⟨ha, trz_digs hb⟩
    have hall := lz_le (a ++ trz b)
    have hallL : (lz (a ++ trz b)).length ≤ a.length + (trz b).length := by simpa using hall
    have hts := trz_le (lz (a ++ trz b))
    rw [trimR_eq n (by omega), some_bind']
    have hval : valR (negD s) (lz (a ++ trz b)) (-((trz b).length : Int)) = valR (negD s) (a ++ b) (-(b.length : Int)) := by
      rw [valR_lz _ hab]
      have hpad := trz_pad b
      conv => rhs; rw [hpad]
      rw [← List.append_assoc, valR_zeros_right _ hab]
      congr 1
      simp
      omega
    have hD := lz_digs hab
    have hw : IntKind.wrap .i64 (0 - ((trz b).length : Int)) = -((trz b).length : Int) := by rw [wrap_in (by omega)]; omega
    rw [hw]
    by_cases hz : (trz b).length = 0
    · have ez : (-((trz b).length : Int) == 0) = true := by simp [hz]
      rw [ez, cond_true]
      by_cases hsh : (trz (lz (a ++ trz b))).length < (lz (a ++ trz b)).length
      · have hw2 : IntKind.wrap .i64 (((lz (a ++ trz b)).length : Int) - ((trz (lz (a ++ trz b))).length : Int)) = (((lz (a ++ trz b)).length - (trz (lz (a ++ trz b))).length : Nat) : Int) := by rw [wrap_in (by omega)]; omega
        rw [bif_pos (by omega), hw2]
        have := coef_out n hn (negD s) _ (trz_digs hD) (by omega) (((lz (a ++ trz b)).length - (trz (lz (a ++ trz b))).length : Nat) : Int) (by omega) (trz_trz _) 0 0 0 0 0 0
        refine this.trans ?_
        congr 2
        rw [← hval, hz]
        have hpad := trz_pad (lz (a ++ trz b))
        conv => rhs; rw [hpad]
        rw [valR_zeros_right _ (trz_digs hD)]
        congr 1
        omega
      · have hq : trz (lz (a ++ trz b)) = lz (a ++ trz b) := by
          have hpad := trz_pad (lz (a ++ trz b))
          rw [show (lz (a ++ trz b)).length - (trz (lz (a ++ trz b))).length = 0 from by omega, List.replicate_zero, List.append_nil] at hpad
          exact hpad.symm
        rw [bif_neg (by omega)]
        have := coef_out n hn (negD s) _ hD (by omega) (-((trz b).length : Int)) (by omega) hq 0 0 0 0 0 0
        refine this.trans ?_
        rw [hval]
    · have ez : (-((trz b).length : Int) == 0) = false := by
        have : ¬ (-((trz b).length : Int)) = 0 := by omega
        simpa using this
      rw [ez, cond_false]
      have hq : trz (lz (a ++ trz b)) = lz (a ++ trz b) := by
        refine trz_self fun x hx => ?_
        have hrep := lz_rep (a ++ trz b)
        have hlast : (a ++ trz b).getLast? = some x := by
          rw [hrep, List.getLast?_append, hx]; rfl
        rw [List.getLast?_append] at hlast
        cases e : (trz b).getLast? with
        | none => simp at e; rw [e] at hz; simp at hz
        | some y =>
          rw [e] at hlast
          have hy : y = x := by simpa using hlast
          rw [← hy]
          exact trz_last e
      have := coef_out n hn (negD s) _ hD (by omega) (-((trz b).length : Int)) (by omega) hq 0 0 0 0 0 0
      refine this.trans ?_
      rw [hval]
  · have e : ((lookR s).1 == 0) = false := by simpa using h
    unfold parseR
    rw [if_neg h, e]
    rfl
end Go.AM
set_option linter.unusedVariables false
set_option linter.unusedSimpArgs false
namespace Go.AM
def checkR (neg : Bool) (c : Nat) (e : Int) : Int :=
  if c ≠ 0 ∧ (e < -18 ∨ e > 18) then 10 else if (valR neg (Lib.decDigits c) e).2.1 = 0 ∧ (valR neg (Lib.decDigits c) e).1 = (neg, (c : Int), e, ()) then 0 else 21
theorem decD_beq (a b : DecD) : ((a.1 == b.1) && ((a.2.1 == b.2.1) && (a.2.2.1 == b.2.2.1))) = decide (a = b) := by
  obtain ⟨a1, a2, a3, _⟩ := a
  obtain ⟨b1, b2, b3, _⟩ := b
  by_cases h : (((a1, a2, a3, ()) : DecD) = (b1, b2, b3, ()))
  · have : a1 = b1 ∧ a2 = b2 ∧ a3 = b3 := by simpa using h
    rw [decide_eq_true h]
    simp [this]
  · rw [decide_eq_false h]
    have : ¬ (a1 = b1 ∧ a2 = b2 ∧ a3 = b3) := fun hh => h (by simp [hh])
    simp only [Bool.and_eq_false_iff, beq_eq_false_iff_ne]
    by_cases g1 : a1 = b1
    · by_cases g2 : a2 = b2
      · exact Or.inr (Or.inr fun g3 => this ⟨g1, g2, g3⟩)
      · exact Or.inr (Or.inl g2)
    · exact Or.inl g1
theorem check_tail (neg : Bool) (c : Nat) (e : Int) (r : DecR) (hr : r = valR neg (Lib.decDigits c) e) :
    (bif !(r.2.1 == (0 : Int)) then some ((21 : Int)) else bif !((r.1.1 == neg) && ((r.1.2.1 == (c : Int)) && (r.1.2.2.1 == e))) then some ((21 : Int)) else some ((0 : Int)))
     = some (if (valR neg (Lib.decDigits c) e).2.1 = 0 ∧ (valR neg (Lib.decDigits c) e).1 = (neg, (c : Int), e, ()) then 0 else 21) := by
  subst hr
  have hb := decD_beq (valR neg (Lib.decDigits c) e).1 (neg, (c : Int), e, ())
  simp only at hb
  rw [hb]
  by_cases h1 : (valR neg (Lib.decDigits c) e).2.1 = 0
  · have e1 : ((valR neg (Lib.decDigits c) e).2.1 == 0) = true := by simp [h1]
    rw [e1]
    by_cases h2 : (valR neg (Lib.decDigits c) e).1 = (neg, (c : Int), e, ())
    · rw [decide_eq_true h2, if_pos ⟨h1, h2⟩]; rfl
    · rw [decide_eq_false h2, if_neg (fun h => h2 h.2)]; rfl
  · have e1 : ((valR neg (Lib.decDigits c) e).2.1 == 0) = false := by simpa using h1
    rw [e1, if_neg (fun h => h1 h.1)]; rfl
theorem check_eq (n : Nat) (hn : 100 ≤ n) (neg : Bool) (c : Nat) (hc : c < two64) (e : Int) (he : -9223372036854775808 ≤ e ∧ e ≤ 9223372036854775807) : F.dec_Check n (neg, (c : Int), e, ()) = some (checkR neg c e) := by
  unfold F.dec_Check checkR
  simp only [normal_eq n hn neg c hc e he, some_bind']
  have T := check_tail neg c e _ rfl
  by_cases h0 : c = 0
  · have e0 : (((c : Int)) == 0) = true := by simp [h0]
    rw [e0, if_neg (fun h => h.1 h0)]
    exact T
  · have e0 : (((c : Int)) == 0) = false := by simpa using h0
    rw [e0]
    simp only [Bool.not_false, cond_true]
    by_cases h1 : e < -18
    · rw [bif_pos h1, if_pos ⟨h0, Or.inl h1⟩]
    · rw [bif_neg h1]
      by_cases h2 : e > 18
      · rw [bif_pos h2, if_pos ⟨h0, Or.inr h2⟩]
      · rw [bif_neg h2, if_neg (by omega)]
        exact T
theorem dd_len64 {c : Nat} (hc : c < two64) : (Lib.decDigits c).length ≤ 20 := by rw [dd_length]; exact Lib.nDigits_le20 c hc
theorem check_zero {neg : Bool} {c : Nat} {e : Int} (h : checkR neg c e = 0) : valR neg (Lib.decDigits c) e = ((neg, (c : Int), e, ()), 0, ()) ∧ -18 ≤ e ∧ e ≤ 18 := by
  unfold checkR at h
  by_cases h1 : c ≠ 0 ∧ (e < -18 ∨ e > 18)
  · rw [if_pos h1] at h; cases h
  rw [if_neg h1] at h
  by_cases h2 : (valR neg (Lib.decDigits c) e).2.1 = 0 ∧ (valR neg (Lib.decDigits c) e).1 = (neg, (c : Int), e, ())
  · have h3 : valR neg (Lib.decDigits c) e = ((neg, (c : Int), e, ()), 0, ()) := by
      obtain ⟨a, b⟩ := h2
      generalize valR neg (Lib.decDigits c) e = r at a b ⊢
      obtain ⟨r1, r2, _⟩ := r
      simp only at a b
      rw [a, b]
    refine ⟨h3, ?_⟩
    by_cases h0 : c = 0
    · subst h0
      unfold valR at h3
      rw [if_pos (dd_val 0)] at h3
      have : (0 : Int) = e := congrArg (fun r : DecR => r.1.2.2.1) h3
      omega
    · omega
  · rw [if_neg h2] at h; cases h
def sgn (neg : Bool) : List UInt8 := if neg then [45] else []
def wideW (c : Nat) (e : Int) : List UInt8 := List.replicate (1 - e - (Lib.decDigits c).length).toNat 48 ++ Lib.decDigits c
def textD (neg : Bool) (c : Nat) (e : Int) : List UInt8 :=
  if 0 ≤ e then sgn neg ++ (Lib.decDigits c ++ List.replicate e.toNat 48)
  else sgn neg ++ ((wideW c e).take ((wideW c e).length - e.natAbs) ++ [46] ++ (wideW c e).drop ((wideW c e).length - e.natAbs))
theorem repeatL_one (k : Nat) : Lib.repeatL [48] k = List.replicate k 48 := by
  induction k with
  | zero => rfl
  | succ k ih => rw [Lib.repeatL, ih]; rfl
theorem repeat_eq (n : Nat) {k : Int} (h : 0 ≤ k ∧ k ≤ 100000) : O.repeat' n [48] k = some (List.replicate k.toNat 48) := by
  unfold O.repeat'
  have hb : (decide (0 ≤ k) && Nat.ble k.toNat big47 && Nat.ble (([48] : List UInt8).length * k.toNat) big47) = true := by
    rw [Bool.and_eq_true, Bool.and_eq_true, Nat.ble_eq, Nat.ble_eq]
    unfold big47
    simp only [List.length_cons, List.length_nil]
    refine ⟨⟨by simp; omega, by omega⟩, by omega⟩
  rw [hb, cond_true, repeatL_one]
theorem wideW_len (c : Nat) (hc : c < two64) (e : Int) (he : -18 ≤ e ∧ e < 0) : e.natAbs < (wideW c e).length ∧ (wideW c e).length ≤ 40 ∧ Digs (wideW c e) := by
  have := dd_len64 hc
  unfold wideW
  refine ⟨?_, ?_, digs_append.2 ⟨digs_rep _, dd_digs c⟩⟩
  · simp; omega
  · simp; omega
theorem text_dec (n : Nat) (hn : 200000 ≤ n) (neg : Bool) (c : Nat) (hc : c < two64) (e : Int) (he : -9223372036854775808 ≤ e ∧ e ≤ 9223372036854775807) : F.dec_Text n (neg, (c : Int), e, ()) = some (if checkR neg c e = 0 then (textD neg c e, 0, ()) else ([], checkR neg c e, ())) := by
  unfold F.dec_Text
  simp only [check_eq n (by omega) neg c hc e he, some_bind']
  by_cases h : checkR neg c e = 0
  · obtain ⟨h1, h2, h3⟩ := check_zero h
    have hl := dd_len64 hc
    rw [h, if_pos rfl]
    have e0 : (!((0 : Int) == 0)) = false := rfl
    rw [e0, cond_false]
    have hf : O.futoa n (c : Int) 10 = some (Lib.decDigits c) := by
      unfold O.futoa
      have : (decide ((0 : Int) ≤ (c : Int)) && decide ((c : Int) < 18446744073709551616) && decide ((10 : Int) = 10)) = true := by
        rw [two64_eq] at hc
        simp; omega
      rw [this]; rfl
    rw [hf, some_bind']
    unfold textD
    by_cases hE : 0 ≤ e
    · rw [bif_pos hE, if_pos hE, repeat_eq n (by omega), some_bind', bif_pos (by rw [strMax_eq]; simp; omega)]
      cases neg
      · rfl
      · rw [cond_true, bif_pos (by rw [strMax_eq]; simp; omega)]
        rfl
    · obtain ⟨w1, w2, w3⟩ := wideW_len c hc e (by omega)
      have hmax : (if (IntKind.wrap .i64 ((IntKind.wrap .i64 ((1 : Int) - e)) - ((Lib.decDigits c).length : Int))) > (0 : Int) then (IntKind.wrap .i64 ((IntKind.wrap .i64 ((1 : Int) - e)) - ((Lib.decDigits c).length : Int))) else (0 : Int)) = (((1 - e - (Lib.decDigits c).length).toNat : Nat) : Int) := by
        rw [wrap_in (x := (1 : Int) - e) (by omega), wrap_in (by omega)]
        split <;> omega
      have hwl : (List.replicate (1 - e - (Lib.decDigits c).length).toNat (48 : UInt8)).length + (Lib.decDigits c).length = (wideW c e).length := by unfold wideW; simp
      rw [bif_neg (by omega), if_neg hE, hmax, repeat_eq n (by omega), some_bind', Int.toNat_natCast, bif_pos (by rw [strMax_eq]; omega)]
      have hww : List.replicate (1 - e - (Lib.decDigits c).length).toNat (48 : UInt8) ++ Lib.decDigits c = wideW c e := rfl
      rw [hww]
      generalize wideW c e = w at w1 w2 w3
      have hat : IntKind.wrap .i64 ((w.length : Int) + e) = ((w.length - e.natAbs : Nat) : Int) := by rw [wrap_in (by omega)]; omega
      rw [hat]
      have s1 : sub w 0 ((w.length - e.natAbs : Nat) : Int) = some (w.take (w.length - e.natAbs)) := by
        have := sub_nat w 0 (w.length - e.natAbs) (by omega) (by omega)
        rw [List.drop_zero] at this
        exact this
      have s2 : sub w ((w.length - e.natAbs : Nat) : Int) (w.length : Int) = some (w.drop (w.length - e.natAbs)) := by
        have := sub_nat w (w.length - e.natAbs) w.length (by omega) (Nat.le_refl _)
        rw [List.take_length] at this
        exact this
      rw [s1, some_bind', bif_pos (by rw [strMax_eq]; simp; omega), s2, some_bind', bif_pos (by rw [strMax_eq]; simp; omega)]
      cases neg
      · rfl
      · rw [cond_true, bif_pos (by rw [strMax_eq]; simp; omega)]
        rfl
  · have e0 : (checkR neg c e == 0) = false := by simpa using h
    rw [e0, if_neg h]
    rfl
theorem text_len (neg : Bool) (c : Nat) (hc : c < two64) (e : Int) (he : -18 ≤ e ∧ e ≤ 18) : (textD neg c e).length ≤ 39 ∧ (0 ≤ e ∨ e < 0) := by
  have hl := dd_len64 hc
  have hs : (sgn neg).length ≤ 1 := by cases neg <;> decide
  refine ⟨?_, by omega⟩
  unfold textD
  by_cases h : 0 ≤ e
  · rw [if_pos h]; simp; omega
  · rw [if_neg h]
    obtain ⟨w1, w2, w3⟩ := wideW_len c hc e (by omega)
    have : (wideW c e).length ≤ 20 ∨ (wideW c e).length = (1 - e).toNat := by unfold wideW; simp; omega
    simp
    omega
end Go.AM
set_option linter.unusedVariables false
set_option linter.unusedSimpArgs false
namespace Go.AM
theorem bif_some {α : Type} (b : Bool) (u v : α) : (bif b then some u else some v) = some (bif b then u else v) := by cases b <;> rfl
def btw (x lo hi : Int) : Bool := decide (lo ≤ x) && decide (x ≤ hi)
def wordI (x : Int) : Bool := btw x 65 90 || (btw x 97 122 || (x == 95 || (x == 46 || (x == 45 || btw x 48 57))))
def cls (c : Int) (b : UInt8) : Bool :=
  bif c == 3 then btw b.toNat 33 126 && (!((b.toNat : Int) == 44) && !((b.toNat : Int) == 124))
  else bif c == 2 then ((b.toNat : Int) == 47) || wordI b.toNat
  else bif c == 1 then wordI b.toNat
  else (c == 4) && btw b.toNat 48 57
def may (c : Int) : Bool := decide (1 ≤ c) && decide (c ≤ 4)
theorem cls4 (b : UInt8) : cls 4 b = isDig b := by
  unfold cls isDig btw
  simp
  congr 1 <;> simp only [decide_eq_decide] <;> omega
theorem may_cls (n : Nat) (c : Int) : F.class_may n c = some (may c) := by
  unfold F.class_may may
  by_cases h : 1 ≤ c
  · rw [bif_pos (by omega)]; simp [h]
  · rw [bif_neg (by omega)]; simp [h]
theorem between_eq (n : Nat) (x lo hi : Int) : F.class_between n x lo hi = some (btw x lo hi) := by
  unfold F.class_between btw
  by_cases h : lo ≤ x
  · rw [bif_pos (by omega)]; simp [h]
  · rw [bif_neg (by omega)]; simp [h]
theorem is_eq (n : Nat) (c : Int) (b : UInt8) : F.class_Is n c (b.toNat) = some (cls c b) := by
  unfold F.class_Is cls wordI
  simp only [between_eq, some_bind', bif_some]
  congr 1
  cases c == 3 <;> cases c == 2 <;> cases c == 1 <;> cases c == 4 <;> generalize hx : (b.toNat : Int) = x <;> clear hx <;>
    (cases btw x 33 126 <;> cases x == 44 <;> cases btw x 65 90 <;> cases btw x 97 122 <;> cases x == 95 <;> cases x == 46 <;> cases x == 45 <;> cases x == 47 <;> rfl)
def badK (p : UInt8 → Bool) : Nat → List UInt8 → Int
  | _, [] => -1
  | k, b :: l => if p b then badK p (k + 1) l else (k : Int)
theorem badK_ge (p : UInt8 → Bool) (k : Nat) (l : List UInt8) : 0 ≤ badK p k l ↔ ¬ l.all p = true := by
  induction l generalizing k with
  | nil => simp [badK]
  | cons b l ih =>
    unfold badK
    by_cases h : p b = true
    · rw [if_pos h, ih]; simp [h]
    · rw [if_neg h]; simp [h]
theorem badK_neg (p : UInt8 → Bool) (k : Nat) (l : List UInt8) (h : l.all p = true) : badK p k l = -1 := by
  induction l generalizing k with
  | nil => rfl
  | cons b l ih =>
    simp only [List.all_cons, Bool.and_eq_true] at h
    unfold badK
    rw [if_pos h.1, ih _ h.2]
theorem badK_hi (p : UInt8 → Bool) (k : Nat) (l : List UInt8) : badK p k l < k + l.length ∨ badK p k l = -1 := by
  induction l generalizing k with
  | nil => exact Or.inr rfl
  | cons b l ih =>
    unfold badK
    by_cases hb : p b = true
    · rw [if_pos hb]; have := ih (k + 1); simp; omega
    · rw [if_neg hb]; simp; omega
theorem bad_cls_loop (n : Nat) (X : Type) (k0 : Unit → Option X) (kr : Int → Int → Option X) (c : Int) (s : List UInt8) (hs : s.length < 4611686018427387904) : ∀ (r : List UInt8) (k m : Nat), s.drop k = r → r.length < m →
    F.class_Bad.L4 n k0 kr m c s (s.length : Int) (k : Int) = if 0 ≤ badK (cls c) k r then kr (badK (cls c) k r) 0 else k0 () := by
  intro r
  induction r with
  | nil =>
    intro k m hk hm
    have := drop_nil' hk
    cases m with
    | zero => simp at hm
    | succ m =>
      show F.class_Bad.L4.step n _ k0 kr c s _ k = _
      unfold F.class_Bad.L4.step
      rw [bif_neg (by omega)]
      rfl
  | cons x r ih =>
    intro k m hk hm
    obtain ⟨h1, h2, h3⟩ := drop_cons hk
    cases m with
    | zero => simp at hm
    | succ m =>
      show F.class_Bad.L4.step n (F.class_Bad.L4 n k0 kr m) k0 kr c s _ k = _
      unfold F.class_Bad.L4.step
      rw [bif_pos (by omega), idx_nat, h2, some_bind', is_eq, some_bind']
      unfold badK
      by_cases hx : cls c x = true
      · rw [hx, if_pos rfl, wrap_succ (by omega), ih (k + 1) m h3 (by simp at hm; omega)]
        rfl
      · have hx : cls c x = false := by simpa using hx
        rw [hx]
        have : ¬ (false = true) := by simp
        rw [if_neg this, if_pos (by omega)]
        rfl
theorem bad_cls (n : Nat) (c : Int) (s : List UInt8) (hs : s.length < 4611686018427387904) (hn : s.length < n) : F.class_Bad n c s = some (bif may c then (badK (cls c) 0 s, 0, ()) else (0, 1, ())) := by
  unfold F.class_Bad
  rw [may_cls, some_bind']
  cases hm : may c
  · rfl
  · simp only [Bool.not_true, cond_false]
    refine (bad_cls_loop n _ _ _ c s hs s 0 n rfl hn).trans ?_
    by_cases h : 0 ≤ badK (cls c) 0 s
    · rw [if_pos h]; rfl
    · rw [if_neg h]
      have : s.all (cls c) = true := Classical.byContradiction fun hh => h ((badK_ge _ _ _).2 hh)
      rw [badK_neg _ _ _ this]; rfl
def textF (c : Int) (s : List UInt8) (lo hi : Int) : Int × Int × Unit :=
  if may c = false ∨ lo < 0 ∨ hi < lo then (1, 0, ()) else if (s.length : Int) < lo then (13, (s.length : Int), ()) else if (s.length : Int) > hi then (12, hi, ())
  else if 0 ≤ badK (cls c) 0 s then (14, badK (cls c) 0 s, ()) else (0, 0, ())
theorem text_cls (n : Nat) (c : Int) (s : List UInt8) (lo hi : Int) (hs : s.length < 4611686018427387904) (hn : s.length < n) : F.class_Text n c s lo hi = some (textF c s lo hi) := by
  unfold F.class_Text textF
  rw [bad_cls n c s hs hn, some_bind']
  cases hm : may c
  · rw [if_pos (Or.inl rfl)]; rfl
  · simp only [cond_true]
    have e : (!((0 : Int) == 0)) = false := rfl
    rw [e, cond_false]
    by_cases h1 : lo < 0
    · rw [bif_pos h1, if_pos (Or.inr (Or.inl h1))]
    · rw [bif_neg h1]
      by_cases h2 : hi < lo
      · rw [bif_pos h2, if_pos (Or.inr (Or.inr h2))]
      · rw [bif_neg h2, if_neg (by simp [h1, h2])]
        by_cases h3 : (s.length : Int) < lo
        · rw [bif_pos h3, if_pos h3]
        · rw [bif_neg h3, if_neg h3]
          by_cases h4 : (s.length : Int) > hi
          · rw [bif_pos h4, if_pos h4]
          · rw [bif_neg h4, if_neg h4]
            by_cases h5 : 0 ≤ badK (cls c) 0 s
            · rw [bif_pos (by omega), if_pos h5]
            · rw [bif_neg (by omega), if_neg h5]
def bytesOf (c : Int) : List UInt8 :=
  bif c == 1 then [65, 66, 67, 68, 69, 70, 71, 72, 73, 74, 75, 76, 77, 78, 79, 80, 81, 82, 83, 84, 85, 86, 87, 88, 89, 90, 97, 98, 99, 100, 101, 102, 103, 104, 105, 106, 107, 108, 109, 110, 111, 112, 113, 114, 115, 116, 117, 118, 119, 120, 121, 122, 48, 49, 50, 51, 52, 53, 54, 55, 56, 57, 95, 46, 45]
  else bif c == 2 then [65, 66, 67, 68, 69, 70, 71, 72, 73, 74, 75, 76, 77, 78, 79, 80, 81, 82, 83, 84, 85, 86, 87, 88, 89, 90, 97, 98, 99, 100, 101, 102, 103, 104, 105, 106, 107, 108, 109, 110, 111, 112, 113, 114, 115, 116, 117, 118, 119, 120, 121, 122, 48, 49, 50, 51, 52, 53, 54, 55, 56, 57, 95, 46, 45, 47]
  else bif c == 3 then [65, 66, 67, 68, 69, 70, 71, 72, 73, 74, 75, 76, 77, 78, 79, 80, 81, 82, 83, 84, 85, 86, 87, 88, 89, 90, 97, 98, 99, 100, 101, 102, 103, 104, 105, 106, 107, 108, 109, 110, 111, 112, 113, 114, 115, 116, 117, 118, 119, 120, 121, 122, 48, 49, 50, 51, 52, 53, 54, 55, 56, 57, 95, 46, 45, 47, 33, 34, 35, 36, 37, 38, 39, 40, 41, 42, 43, 58, 59, 60, 61, 62, 63, 64, 91, 92, 93, 94, 96, 123, 125, 126]
  else bif c == 4 then [48, 49, 50, 51, 52, 53, 54, 55, 56, 57] else []
theorem bytes_ref (n : Nat) (c : Int) : F.ref04_Bytes n c = some (bytesOf c) := by
  unfold F.ref04_Bytes bytesOf
  rw [bif_pos (by decide), bif_pos (by decide), bif_pos (by decide), bif_pos (by decide)]
  cases c == 1 <;> cases c == 2 <;> cases c == 3 <;> cases c == 4 <;> rfl
theorem is_ref_loop (n : Nat) (X : Type) (k0 : Unit → Option X) (kr : Bool → Option X) (x : UInt8) (s : List UInt8) (hs : s.length < 4611686018427387904) : ∀ (r : List UInt8) (k m : Nat), s.drop k = r → r.length < m →
    F.ref04_Is.L3 n k0 kr m (x.toNat : Int) s (k : Int) = if x ∈ r then kr true else k0 () := by
  intro r
  induction r with
  | nil =>
    intro k m hk hm
    have := drop_nil' hk
    cases m with
    | zero => simp at hm
    | succ m =>
      show F.ref04_Is.L3.step n _ k0 kr _ s k = _
      unfold F.ref04_Is.L3.step
      rw [bif_neg (by omega)]
      simp
  | cons y r ih =>
    intro k m hk hm
    obtain ⟨h1, h2, h3⟩ := drop_cons hk
    cases m with
    | zero => simp at hm
    | succ m =>
      show F.ref04_Is.L3.step n (F.ref04_Is.L3 n k0 kr m) k0 kr _ s k = _
      unfold F.ref04_Is.L3.step
      rw [bif_pos (by omega), idx_nat, h2, some_bind']
      by_cases hx : x = y
      · subst hx; simp
      · have : ¬ (y.toNat : Int) = (x.toNat : Int) := fun h => hx (u8_ext (by omega)).symm
        have e : ((y.toNat : Int) == (x.toNat : Int)) = false := by simpa using this
        rw [e, cond_false, wrap_succ (by omega), ih (k + 1) m h3 (by simp at hm; omega)]
        simp [hx]
theorem cls_mem_all : ∀ i : Fin 256, (UInt8.ofNat i.val ∈ bytesOf 1 ↔ cls 1 (UInt8.ofNat i.val) = true) ∧ (UInt8.ofNat i.val ∈ bytesOf 2 ↔ cls 2 (UInt8.ofNat i.val) = true) ∧ (UInt8.ofNat i.val ∈ bytesOf 3 ↔ cls 3 (UInt8.ofNat i.val) = true) ∧ (UInt8.ofNat i.val ∈ bytesOf 4 ↔ cls 4 (UInt8.ofNat i.val) = true) := by decide +kernel
theorem cls_mem (c : Int) (b : UInt8) : b ∈ bytesOf c ↔ cls c b = true := by
  have h := cls_mem_all ⟨b.toNat, b.toNat_lt⟩
  have e : UInt8.ofNat b.toNat = b := by simp
  simp only [e] at h
  by_cases h1 : c = 1
  · subst h1; exact h.1
  by_cases h2 : c = 2
  · subst h2; exact h.2.1
  by_cases h3 : c = 3
  · subst h3; exact h.2.2.1
  by_cases h4 : c = 4
  · subst h4; exact h.2.2.2
  have b1 : (c == 1) = false := by simp [h1]
  have b2 : (c == 2) = false := by simp [h2]
  have b3 : (c == 3) = false := by simp [h3]
  have b4 : (c == 4) = false := by simp [h4]
  unfold bytesOf cls
  rw [b1, b2, b3, b4]
  simp
theorem is_ref (n : Nat) (hn : 100 ≤ n) (c : Int) (x : UInt8) : F.ref04_Is n c (x.toNat : Int) = some (cls c x) := by
  unfold F.ref04_Is
  rw [bytes_ref, some_bind']
  have hl : (bytesOf c).length < 100 := by
    unfold bytesOf
    cases c == 1 <;> cases c == 2 <;> cases c == 3 <;> cases c == 4 <;> decide
  refine (is_ref_loop n _ _ _ x (bytesOf c) (by omega) (bytesOf c) 0 n rfl (by omega)).trans ?_
  by_cases h : x ∈ bytesOf c
  · rw [if_pos h, (cls_mem c x).1 h]
  · rw [if_neg h]
    cases e : cls c x
    · rfl
    · exact absurd ((cls_mem c x).2 e) h
theorem bad_ref_loop (n : Nat) (hn : 100 ≤ n) (X : Type) (k0 : Unit → Option X) (kr : Int → Option X) (c : Int) (s : List UInt8) (hs : s.length < 4611686018427387904) : ∀ (r : List UInt8) (k m : Nat), s.drop k = r → r.length < m →
    F.ref04_Bad.L2 n k0 kr m c s (k : Int) = if 0 ≤ badK (cls c) k r then kr (badK (cls c) k r) else k0 () := by
  intro r
  induction r with
  | nil =>
    intro k m hk hm
    have := drop_nil' hk
    cases m with
    | zero => simp at hm
    | succ m =>
      show F.ref04_Bad.L2.step n _ k0 kr c s k = _
      unfold F.ref04_Bad.L2.step
      rw [bif_neg (by omega)]
      rfl
  | cons x r ih =>
    intro k m hk hm
    obtain ⟨h1, h2, h3⟩ := drop_cons hk
    cases m with
    | zero => simp at hm
    | succ m =>
      show F.ref04_Bad.L2.step n (F.ref04_Bad.L2 n k0 kr m) k0 kr c s k = _
      unfold F.ref04_Bad.L2.step
      rw [bif_pos (by omega), idx_nat, h2, some_bind', is_ref n hn, some_bind']
      unfold badK
      by_cases hx : cls c x = true
      · rw [hx, if_pos rfl, wrap_succ (by omega), ih (k + 1) m h3 (by simp at hm; omega)]
        rfl
      · have hx : cls c x = false := by simpa using hx
        rw [hx]
        have : ¬ (false = true) := by simp
        rw [if_neg this, if_pos (by omega)]
        rfl
theorem bad_ref (n : Nat) (h100 : 100 ≤ n) (c : Int) (s : List UInt8) (hs : s.length < 4611686018427387904) (hn : s.length < n) : F.ref04_Bad n c s = some (badK (cls c) 0 s) := by
  unfold F.ref04_Bad
  refine (bad_ref_loop n h100 _ _ _ c s hs s 0 n rfl hn).trans ?_
  by_cases h : 0 ≤ badK (cls c) 0 s
  · rw [if_pos h]
  · rw [if_neg h]
    have : s.all (cls c) = true := Classical.byContradiction fun hh => h ((badK_ge _ _ _).2 hh)
    rw [badK_neg _ _ _ this]
end Go.AM
set_option linter.unusedVariables false
set_option linter.unusedSimpArgs false
namespace Go.AM
def seg (c : UInt8) (s : List UInt8) : List UInt8 := s.takeWhile (· != c)
theorem seg_cons (c b : UInt8) (s : List UInt8) : seg c (b :: s) = if b = c then [] else b :: seg c s := by
  unfold seg
  by_cases h : b = c
  · subst h; simp [List.takeWhile_cons]
  · simp [List.takeWhile_cons, h]
theorem seg_le (c : UInt8) (s : List UInt8) : (seg c s).length ≤ s.length := (List.takeWhile_sublist _).length_le
theorem seg_idx (c : UInt8) (s : List UInt8) : Lib.indexByte s c = if c ∈ s then ((seg c s).length : Int) else -1 := by
  induction s with
  | nil => simp [Lib.indexByte]
  | cons b s ih =>
    rw [seg_cons]
    simp only [Lib.indexByte, beq_iff_eq, List.mem_cons]
    by_cases h : b = c
    · subst h; simp
    · rw [if_neg h, ih]
      have h' : ¬ c = b := fun hh => h hh.symm
      by_cases hm : c ∈ s
      · rw [if_pos hm, if_pos (Or.inr hm), if_neg h]
        rw [if_neg (by omega), List.length_cons]
        omega
      · rw [if_neg hm, if_pos rfl, if_neg (by simp [h', hm])]
theorem seg_all {c : UInt8} {s : List UInt8} (h : c ∉ s) : seg c s = s := by
  induction s with
  | nil => rfl
  | cons b s ih =>
    rw [seg_cons, if_neg (fun hh => h (by simp [hh])), ih (fun hh => h (by simp [hh]))]
theorem seg_lt {c : UInt8} {s : List UInt8} (h : c ∈ s) : (seg c s).length < s.length := by
  induction s with
  | nil => simp at h
  | cons b s ih =>
    rw [seg_cons]
    by_cases hb : b = c
    · rw [if_pos hb]; simp
    · rw [if_neg hb]
      have : c ∈ s := by
        rcases List.mem_cons.1 h with rfl | h
        · exact absurd rfl hb
        · exact h
      have := ih this
      simp
      omega
theorem seg_take (c : UInt8) (s : List UInt8) : s.take (seg c s).length = seg c s := by
  induction s with
  | nil => rfl
  | cons b s ih =>
    rw [seg_cons]
    by_cases hb : b = c
    · rw [if_pos hb]; rfl
    · rw [if_neg hb]; simp [ih]
theorem cut_eq (n : Nat) (c : UInt8) {s : List UInt8} (hs : s.length ≤ 1000000) : F.strings_Cut n s [c] = some (seg c s, (if c ∈ s then s.drop ((seg c s).length + 1) else []), decide (c ∈ s), ()) := by
  unfold F.strings_Cut F.stringslite_Cut O.index1
  simp only [some_bind']
  rw [seg_idx]
  by_cases h : c ∈ s
  · have hl := seg_lt h
    have s1 : sub s 0 ((seg c s).length : Int) = some (seg c s) := by
      have := sub_nat s 0 (seg c s).length (by omega) (by omega)
      rw [List.drop_zero, seg_take] at this
      exact this
    have s2 : sub s (((seg c s).length + 1 : Nat) : Int) (s.length : Int) = some (s.drop ((seg c s).length + 1)) := by
      have := sub_nat s ((seg c s).length + 1) s.length (by omega) (Nat.le_refl _)
      rw [List.take_length] at this
      exact this
    have hw : IntKind.wrap .i64 (((seg c s).length : Int) + ((([c] : List UInt8).length : Nat) : Int)) = (((seg c s).length + 1 : Nat) : Int) := wrap_succ (by omega)
    simp only [h, if_true, decide_true]
    rw [bif_pos (by omega), s1, some_bind', hw, s2]
    rfl
  · simp only [h, if_false, decide_false]
    rw [bif_neg (by omega), seg_all h]
    rfl
theorem sub_tail {s : List UInt8} {p : Nat} (h : p ≤ s.length) : sub s (p : Int) (s.length : Int) = some (s.drop p) := by
  have := sub_nat s p s.length h (Nat.le_refl _)
  rw [List.take_length] at this
  exact this
theorem parseR_at {s : List UInt8} (h : (parseR s).2.1.1 = 0) : (parseR s).2.1.2.1 = 0 := by
  unfold parseR outR badR at h ⊢
  split
  · rename_i h1
    rw [if_pos h1] at h
    split
    · rfl
    · rename_i h2
      rw [if_neg h2] at h
      first | done | exact absurd h h2
  · rename_i h1
    rw [if_neg h1] at h
    exact absurd h h1
theorem textF_at {c : Int} {s : List UInt8} {lo hi : Int} (h : (textF c s lo hi).1 = 0) : (textF c s lo hi).2.1 = 0 := by
  unfold textF at h ⊢
  by_cases h1 : may c = false ∨ lo < 0 ∨ hi < lo
  · rw [if_pos h1]
  rw [if_neg h1] at h ⊢
  by_cases h2 : (s.length : Int) < lo
  · rw [if_pos h2] at h; cases h
  rw [if_neg h2] at h ⊢
  by_cases h3 : (s.length : Int) > hi
  · rw [if_pos h3] at h; cases h
  rw [if_neg h3] at h ⊢
  by_cases h4 : 0 ≤ badK (cls c) 0 s
  · rw [if_pos h4] at h; cases h
  rw [if_neg h4]
abbrev MetD := List UInt8 × Int × List (Bool × Int × Int) × Int × List (List UInt8 × List UInt8) × Int × Unit
end Go.AM
set_option linter.unusedVariables false
set_option linter.unusedSimpArgs false
namespace Go.AM
theorem lead_loop (n : Nat) (X : Type) (k0 : Bool → (List UInt8) → Int → Bool → Int → Int → Option X) (neg b : Bool) (e x y : Int) : ∀ (d : List UInt8) (m : Nat), d.length < m → d.length < 4611686018427387904 → F.ref03_Make.L1 n k0 m neg d e b x y = k0 neg (lz d) e b x y := by
  intro d
  induction d with
  | nil =>
    intro m hm _
    obtain ⟨m, rfl⟩ : ∃ q, m = q + 1 := ⟨m - 1, by omega⟩
    rfl
  | cons c d ih =>
    intro m hm hl
    obtain ⟨m, rfl⟩ : ∃ q, m = q + 1 := ⟨m - 1, by omega⟩
    show F.ref03_Make.L1.step n (F.ref03_Make.L1 n k0 m) k0 neg (c :: d) e b x y = _
    unfold F.ref03_Make.L1.step
    have ei : idx (c :: d) (0 : Int) = some c := rfl
    rw [bif_pos (by simp), ei, some_bind', u8_48]
    have hsub : sub (c :: d) 1 (((c :: d).length : Nat) : Int) = some d := by
      have := sub_nat (c :: d) 1 (c :: d).length (by simp) (by simp)
      rw [List.take_length] at this
      exact this
    by_cases h : c = 48
    · subst h
      rw [decide_eq_true rfl, cond_true, hsub, some_bind', ih m (by simp at hm; omega) (by simp at hl; omega)]
      congr 1
    · rw [decide_eq_false h, cond_false]
      unfold lz
      have e' : (c :: d).dropWhile (· == 48) = c :: d := by simp [List.dropWhile_cons, h]
      rw [e']
theorem trail_loop (n : Nat) (X : Type) (k2 : Bool → (List UInt8) → Int → Bool → Int → Int → Option X) (neg b : Bool) (x y : Int) (a : List UInt8) (ha : a ≠ []) (hl : ∀ x, a.getLast? = some x → x ≠ 48) (hal : a.length ≤ 100000) : ∀ (z m : Nat) (e : Int), z < m → z ≤ 100000 → -2000000 ≤ e → e ≤ 2000 →
    ∃ j, j ≤ z ∧ F.ref03_Make.L7 n k2 m neg (a ++ List.replicate z 48) e b x y = k2 neg (a ++ List.replicate j 48) (e + z - j) b x y ∧ (j = 0 ∨ 18 ≤ e + z - j) ∧ (e + z - j ≤ 18 ∨ j = z) := by
  intro z
  induction z with
  | zero =>
    intro m e hm hz he1 he2
    obtain ⟨m, rfl⟩ : ∃ q, m = q + 1 := ⟨m - 1, by omega⟩
    refine ⟨0, Nat.le_refl _, ?_, Or.inl rfl, Or.inr rfl⟩
    show F.ref03_Make.L7.step n _ k2 _ _ _ _ _ _ = _
    unfold F.ref03_Make.L7.step
    obtain ⟨c, c1, c2⟩ := last_not ha hl
    have hp : 0 < a.length := List.length_pos_iff.2 ha
    have hw : IntKind.wrap .i64 ((a.length : Int) - 1) = (a.length : Int) - 1 := wrap_in (by omega)
    rw [List.replicate_zero, List.append_nil, hw, c1, some_bind', u8_48, decide_eq_false c2, cond_false, show e + ((0 : Nat) : Int) - ((0 : Nat) : Int) = e from by omega]
    cases decide (e < 18) <;> rfl
  | succ z ih =>
    intro m e hm hz he1 he2
    obtain ⟨m, rfl⟩ : ∃ q, m = q + 1 := ⟨m - 1, by omega⟩
    have hstep : F.ref03_Make.L7 n k2 (m + 1) neg (a ++ List.replicate (z + 1) 48) e b x y = F.ref03_Make.L7.step n (F.ref03_Make.L7 n k2 m) k2 neg (a ++ List.replicate (z + 1) 48) e b x y := rfl
    rw [hstep]
    unfold F.ref03_Make.L7.step
    by_cases h18 : e < 18
    · obtain ⟨l1, l2⟩ := last_rep a z
      have hlen : (a ++ List.replicate (z + 1) (48 : UInt8)).length = a.length + z + 1 := by simp; omega
      have hw : IntKind.wrap .i64 (((a ++ List.replicate (z + 1) (48 : UInt8)).length : Int) - 1) = ((a ++ List.replicate (z + 1) (48 : UInt8)).length : Int) - 1 := wrap_in (by omega)
      rw [bif_pos h18, hw, l1, some_bind', u8_48, decide_eq_true rfl, cond_true, l2, some_bind', wrap_in (by omega)]
      obtain ⟨j, j1, j2, j3, j4⟩ := ih m (e + 1) (by omega) (by omega) (by omega) (by omega)
      refine ⟨j, by omega, ?_, ?_, ?_⟩
      · rw [j2]
        congr 1
        omega
      · rcases j3 with j3 | j3
        · exact Or.inl j3
        · exact Or.inr (by omega)
      · exact Or.inl (by omega)
    · rw [bif_neg h18]
      refine ⟨z + 1, Nat.le_refl _, ?_, Or.inr (by omega), Or.inr rfl⟩
      congr 1
      omega
theorem pad_loop (n : Nat) (X : Type) (k4 : Bool → (List UInt8) → Int → Bool → Int → Int → Option X) (neg b : Bool) (x y : Int) : ∀ (d m : Nat) (a : List UInt8), d < m → a.length + d ≤ 1000000 → F.ref03_Make.L10 n k4 m neg a (18 + (d : Int)) b x y = k4 neg (a ++ List.replicate d 48) 18 b x y := by
  intro d
  induction d with
  | zero =>
    intro m a hm hl
    obtain ⟨m, rfl⟩ : ∃ q, m = q + 1 := ⟨m - 1, by omega⟩
    show F.ref03_Make.L10.step n _ k4 _ _ _ _ _ _ = _
    unfold F.ref03_Make.L10.step
    rw [bif_neg (by omega), List.replicate_zero, List.append_nil]
    rfl
  | succ d ih =>
    intro m a hm hl
    obtain ⟨m, rfl⟩ : ∃ q, m = q + 1 := ⟨m - 1, by omega⟩
    show F.ref03_Make.L10.step n (F.ref03_Make.L10 n k4 m) k4 _ _ _ _ _ _ = _
    unfold F.ref03_Make.L10.step
    rw [bif_pos (by omega), bif_pos (by rw [strMax_eq]; omega), wrap_in (by omega), show 18 + ((d + 1 : Nat) : Int) - 1 = 18 + (d : Int) from by omega, ih m _ (by omega) (by simp; omega), List.append_assoc, List.replicate_succ]
    rfl
theorem pad_no (n : Nat) (X : Type) (k4 : Bool → (List UInt8) → Int → Bool → Int → Int → Option X) (neg b : Bool) (x y : Int) (m : Nat) (hm : 0 < m) (a : List UInt8) (E : Int) (h : ¬ E > 18) : F.ref03_Make.L10 n k4 m neg a E b x y = k4 neg a E b x y := by
  obtain ⟨m, rfl⟩ : ∃ q, m = q + 1 := ⟨m - 1, by omega⟩
  show F.ref03_Make.L10.step n (F.ref03_Make.L10 n k4 m) k4 _ _ _ _ _ _ = _
  unfold F.ref03_Make.L10.step
  rw [bif_neg h]
theorem fits_eq (n : Nat) {d : List UInt8} (hd : Digs d) (hne : d ≠ []) (hh : ∀ x, d.head? = some x → x ≠ 48) : F.ref03_Fits n d = some (decide (val d < two64)) := by
  unfold F.ref03_Fits
  have hlt := val_lt hd
  have hge := val_ge hd hne hh
  have hp : 0 < d.length := List.length_pos_iff.2 hne
  rw [two64_eq]
  by_cases h1 : d.length < 20
  · have : 10 ^ d.length ≤ 10 ^ 19 := Nat.pow_le_pow_right (by omega) (by omega)
    have h2 : val d < 18446744073709551616 := by omega
    rw [bif_pos (by omega), decide_eq_true h2]
  rw [bif_neg (by omega)]
  by_cases h2 : d.length = 20
  · have e : ((d.length : Int) == 20) = true := by rw [h2]; rfl
    rw [e, cond_true]
    have hm : Digs [49, 56, 52, 52, 54, 55, 52, 52, 48, 55, 51, 55, 48, 57, 53, 53, 49, 54, 49, 53] := rfl
    have hv : val [49, 56, 52, 52, 54, 55, 52, 52, 48, 55, 51, 55, 48, 57, 53, 53, 49, 54, 49, 53] = 18446744073709551615 := rfl
    rw [less_val hd hm h2, hv]
    congr 1
    by_cases h3 : val d < 18446744073709551615
    · simp [h3]; omega
    · by_cases h4 : val d = 18446744073709551615
      · have : d = [49, 56, 52, 52, 54, 55, 52, 52, 48, 55, 51, 55, 48, 57, 53, 53, 49, 54, 49, 53] := val_inj hd hm h2 (h4.trans hv.symm)
        rw [decide_eq_false h3, this, beq_self_eq_true, hv]
        rfl
      · have hne' : ¬ d = [49, 56, 52, 52, 54, 55, 52, 52, 48, 55, 51, 55, 48, 57, 53, 53, 49, 54, 49, 53] := fun hh => h4 (by rw [hh]; exact hv)
        rw [decide_eq_false h3, beq_eq_false_iff_ne.2 hne', decide_eq_false (show ¬ val d < 18446744073709551616 by omega)]
        rfl
  · have e : ((d.length : Int) == 20) = false := by
      have : ¬ (d.length : Int) = 20 := by omega
      simpa using this
    have : 10 ^ 20 ≤ 10 ^ (d.length - 1) := Nat.pow_le_pow_right (by omega) (by omega)
    rw [e, cond_false, decide_eq_false (by omega)]
theorem value03_loop (n : Nat) (X : Type) (k0 : Int → Option X) (s : List UInt8) (hs : s.length < 4611686018427387904) (hv : val s < two64) : ∀ (r : List UInt8) (k m : Nat), s.drop k = r → r.length < m → Digs r →
    F.ref03_Value.L3 n k0 m s (val (s.take k) : Int) (k : Int) = k0 (val s) := by
  intro r
  induction r with
  | nil =>
    intro k m hk hm hd
    have hk := drop_nil' hk
    obtain ⟨m, rfl⟩ : ∃ q, m = q + 1 := ⟨m - 1, by omega⟩
    show F.ref03_Value.L3.step n _ k0 s _ k = _
    unfold F.ref03_Value.L3.step
    rw [bif_neg (by omega), List.take_of_length_le hk]
  | cons x r ih =>
    intro k m hk hm hd
    obtain ⟨h1, h2, h3⟩ := drop_cons hk
    obtain ⟨d1, d2⟩ := digs_cons.1 hd
    have hx := isDig_iff.1 d1
    obtain ⟨m, rfl⟩ : ∃ q, m = q + 1 := ⟨m - 1, by omega⟩
    show F.ref03_Value.L3.step n (F.ref03_Value.L3 n k0 m) k0 s _ k = _
    unfold F.ref03_Value.L3.step
    have htk : s.take (k + 1) = s.take k ++ [x] := by rw [List.take_add_one, h2]; rfl
    have hvk : val (s.take (k + 1)) = val (s.take k) * 10 + dv x := by rw [htk, val_snoc]
    have hsv : val (s.take (k + 1)) ≤ val s := by
      have e : s = s.take (k + 1) ++ s.drop (k + 1) := (List.take_append_drop _ _).symm
      have h5 : val s = val (s.take (k + 1)) * 10 ^ (s.drop (k + 1)).length + val (s.drop (k + 1)) := by
        conv => lhs; rw [e]
        rw [val_append]
      have := Nat.le_mul_of_pos_right (val (s.take (k + 1))) (Nat.pow_pos (n := (s.drop (k + 1)).length) (show 0 < 10 by omega))
      omega
    have hdl := dv_lt d1
    rw [two64_eq] at hv
    have hdx : IntKind.wrap .u64 (IntKind.wrap .u8 ((x.toNat : Int) - 48)) = (dv x : Int) := by
      have h8 : IntKind.wrap .u8 ((x.toNat : Int) - 48) = (x.toNat : Int) - 48 := IntWalk.u8_in _ (by omega)
      rw [h8, IntWalk.u64_in _ (by omega)]; unfold dv; omega
    rw [bif_pos (by omega), idx_nat, h2, some_bind', hdx, IntWalk.u64_in (10 * (val (s.take k) : Int)) (by omega), IntWalk.u64_in _ (by omega), wrap_succ (by omega), show 10 * (val (s.take k) : Int) + (dv x : Int) = (val (s.take (k + 1)) : Int) from by omega]
    exact ih (k + 1) m h3 (by simp at hm; omega) d2
theorem value03 (n : Nat) (s : List UInt8) (hs : s.length < 4611686018427387904) (hn : s.length < n) (hd : Digs s) (hv : val s < two64) : F.ref03_Value n s = some (val s : Int) :=
  value03_loop n _ _ s hs hv s 0 n rfl hn hd
theorem make_eq (n : Nat) (hn : 200000 ≤ n) (neg : Bool) (d : List UInt8) (hd : Digs d) (hl : d.length ≤ 10000) (e : Int) : F.ref03_Make n neg d e = some ((valR neg d e).1, (valR neg d e).2.1 == 0, ()) := by
  unfold F.ref03_Make
  rw [lead_loop n _ _ neg false e 0 0 d n (by omega) (by omega)]
  have hlz := lz_le d
  by_cases h0 : val d = 0
  · have : lz d = [] := by
      refine Classical.byContradiction fun hne => ?_
      have := val_ge (lz_digs hd) hne (fun x => lz_head)
      rw [lz_val, h0] at this
      have := Nat.pow_pos (n := (lz d).length - 1) (show 0 < 10 by omega)
      omega
    unfold valR
    rw [if_pos h0, this]
    rfl
  have hne : lz d ≠ [] := fun hh => by have := lz_val d; rw [hh] at this; exact h0 this.symm
  have e0 : (lz d == []) = false := by simpa using hne
  simp only [e0, cond_false]
  have hD := lz_digs hd
  have hv0 : val (lz d) ≠ 0 := by rw [lz_val]; exact h0
  have hcore := core_trz hD hv0
  have hvt := val_trz (lz d)
  generalize hzz : (lz d).length - (trz (lz d)).length = z at hvt
  have hR : valR neg d e = normR neg (val (trz (lz d))) (e + z) := valR_core hd hcore (by rw [← lz_val]; exact hvt) neg e
  rw [hR]
  have hc0 : 0 < val (trz (lz d)) := by omega
  have hnot : ∀ w, 20 ≤ w → ¬ val (trz (lz d)) * 10 ^ w < two64 := by
    intro w hw
    have h1 : 10 ^ 20 ≤ 10 ^ w := Nat.pow_le_pow_right (by omega) hw
    have h2 := Nat.le_mul_of_pos_left (10 ^ w) hc0
    rw [two64_eq]
    omega
  by_cases hbig : e > 1000
  · rw [bif_pos hbig]
    unfold normR
    rw [if_neg (by omega), if_neg (hnot _ (by omega))]
    rfl
  rw [bif_neg hbig]
  by_cases hlow : e < -1000000
  · rw [bif_pos hlow]
    unfold normR
    rw [if_pos (by omega)]
    rfl
  rw [bif_neg hlow]
  have hpad := trz_pad (lz d)
  rw [hzz] at hpad
  have hne' : trz (lz d) ≠ [] := fun hh => hv0 ((trz_nil hD).1 hh)
  have htl := trz_le (lz d)
  have hhead : ∀ (k : Nat) x, (trz (lz d) ++ List.replicate k 48).head? = some x → x ≠ 48 := by
    intro k x hx
    cases e : trz (lz d) with
    | nil => exact absurd e hne'
    | cons b r =>
      rw [e] at hx
      have hb : b = x := by simpa using hx
      refine lz_head (d := d) ?_
      rw [hpad, e, ← hb]; rfl
  have fin : ∀ (k : Nat) (E : Int), k ≤ 30000 →
      (bif decide (E < (-18 : Int)) then some (((false, (0 : Int), (0 : Int), ()), false, ()))
                else
                  (F.ref03_Fits n (trz (lz d) ++ List.replicate k 48)).bind fun y8 =>
                    bif !y8 then
                      some (((false, (0 : Int), (0 : Int), ()), false, ()))
                    else
                      (F.ref03_Value n (trz (lz d) ++ List.replicate k 48)).bind fun y9 =>
                        some (((neg, y9, E, ()), true, ())))
      = some (if E < -18 then ((false, (0 : Int), (0 : Int), ()), false, ()) else if val (trz (lz d)) * 10 ^ k < two64 then ((neg, ((val (trz (lz d)) * 10 ^ k : Nat) : Int), E, ()), true, ()) else ((false, (0 : Int), (0 : Int), ()), false, ())) := by
    intro k E hk
    by_cases hE : E < -18
    · rw [bif_pos hE, if_pos hE]
    · rw [bif_neg hE, if_neg hE]
      have hdk : Digs (trz (lz d) ++ List.replicate k 48) := digs_append.2 ⟨trz_digs hD, digs_rep _⟩
      have hlk : (trz (lz d) ++ List.replicate k (48 : UInt8)).length = (trz (lz d)).length + k := by simp
      rw [fits_eq n hdk (by simp [hne']) (hhead k), some_bind', val_zeros_right]
      by_cases hf : val (trz (lz d)) * 10 ^ k < two64
      · rw [decide_eq_true hf, if_pos hf, value03 n _ (by omega) (by omega) hdk (by rw [val_zeros_right]; exact hf), some_bind', val_zeros_right]
        rfl
      · rw [decide_eq_false hf, if_neg hf]; rfl
  obtain ⟨j, j1, j2, j3, j4⟩ := trail_loop n (DecD × Bool × Unit) (fun e6_0 e6_1 e6_2 e6_b0_0 e6_b0_1 e6_b0_2 =>
            F.ref03_Make.L10 n
              (fun e7_0 e7_1 e7_2 e7_b0_0 e7_b0_1 e7_b0_2 =>
                bif decide (e7_2 < (-18 : Int)) then
                  some (((false, (0 : Int), (0 : Int), ()), false, ()))
                else
                  (F.ref03_Fits n e7_1).bind fun y8 =>
                    bif !y8 then
                      some (((false, (0 : Int), (0 : Int), ()), false, ()))
                    else
                      (F.ref03_Value n e7_1).bind fun y9 =>
                        some (((e7_0, y9, e7_2, ()), true, ()))) n e6_0 e6_1 e6_2 e6_b0_0 e6_b0_1 e6_b0_2) neg false 0 0 (trz (lz d)) hne' (fun x => trz_last) (by omega) z n e (by omega) (by omega) (by omega) (by omega)
  rw [← hpad] at j2
  refine j2.trans ?_
  unfold normR
  by_cases hE : e + z - j > 18
  · obtain ⟨q, hq⟩ : ∃ q : Nat, e + z - j = 18 + (q : Int) := ⟨(e + z - j - 18).toNat, by omega⟩
    rw [hq, pad_loop n _ _ neg false 0 0 q n _ (by omega) (by simp; omega), List.append_assoc, List.replicate_append_replicate, fin (j + q) 18 (by omega), if_neg (by omega), if_neg (show ¬ e + (z : Int) < -18 by omega), show (e + z - 18).toNat = j + q from by omega]
    by_cases hf : val (trz (lz d)) * 10 ^ (j + q) < two64
    · rw [if_pos hf, if_pos hf, if_neg (by omega)]; rfl
    · rw [if_neg hf, if_neg hf]; rfl
  · rw [pad_no n _ _ neg false 0 0 n (by omega) _ _ hE, fin j _ (by omega)]
    by_cases h18 : e + z < -18
    · rw [if_pos (by omega), if_pos h18]; rfl
    · rw [if_neg (by omega), if_neg h18, show (e + z - 18).toNat = j from by omega]
      by_cases hf : val (trz (lz d)) * 10 ^ j < two64
      · rw [if_pos hf, if_pos hf]
        congr 4
        by_cases hh : e + z ≤ 18
        · rw [if_pos hh]
          have : j = 0 ∨ e + z = 18 := by omega
          congr 1
          omega
        · rw [if_neg hh]
          congr 1
          omega
      · rw [if_neg hf, if_neg hf]; rfl
end Go.AM
