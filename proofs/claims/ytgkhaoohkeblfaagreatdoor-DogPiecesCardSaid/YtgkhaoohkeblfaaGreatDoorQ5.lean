/- Part 5 of a proof by the abstract machine. -/
import Derived.Test.YtgkhaoohkeblfaaGreatDoorQ4
import Derived.KernelRfl
import Derived.Test.YtgkhaoohkeblfaaGreatDoorRows
import Derived.Test.YtgkhaoohkeblfaaGreatDoorProg
import Derived.Shelf.Spec.BitsCarry
import Derived.Lib.ItoaNum
import Derived.Lib.ItoaLen
import Derived.Lib.AtoiAll
import Derived.Lib.TrimByte
set_option linter.unusedVariables false
set_option maxRecDepth 100000
namespace Go.AM
open Go.Proofs Go.RowKit
open Go.Proofs.YtgkhaoohkeblfaaGreatDoor
def SI : World → Prop := LaidI Tryz.prog Rows.dogWordsRow.laid
def SW : World → Prop := WOf SI
theorem swTab {w : World} (h : SW w) : Lib.TabIs Tryz.prog w (Rows.dogWordsRow.laid.getD 2 ("", .nil)).1 .u64 Lib.pow10Tab := by
  obtain ⟨w0, h1, h2, h3⟩ := h
  exact tab_on (laid_tab h1 (by kernel_rfl) 2 (by kernel_rfl) (g := 0) (by kernel_rfl) (by kernel_rfl) Tryz.underlying196 Tryz.underlying49 (by kernel_rfl) (by kernel_rfl)) h2 h3
theorem swErrS {w : World} (h : SW w) : ∃ ev, w.cell? ⟨6, 0, none⟩ = some ev ∧ (ev = .nilIface ∨ ∃ te pe, ev = .iface te pe) := by
  obtain ⟨w0, h1, h2, h3⟩ := h
  obtain ⟨ev, a, b⟩ := laid_iface h1 (by kernel_rfl) 5 rfl (g := 6) (by kernel_rfl) (by kernel_rfl) Tryz.underlying61
  exact ⟨ev, cell_on a h3, b⟩
theorem swErrR {w : World} (h : SW w) : ∃ ev, w.cell? ⟨7, 0, none⟩ = some ev ∧ (ev = .nilIface ∨ ∃ te pe, ev = .iface te pe) := by
  obtain ⟨w0, h1, h2, h3⟩ := h
  obtain ⟨ev, a, b⟩ := laid_iface h1 (by kernel_rfl) 4 rfl (g := 7) (by kernel_rfl) (by kernel_rfl) Tryz.underlying61
  exact ⟨ev, cell_on a h3, b⟩
theorem mixed : Tryz.prog.follows .mixedOrders = true := by kernel_rfl
def tab : Tree TI := .node 76 (.node 42 (.node 24 (.node 9 (.node 4 (.one 3 ⟨.int .i64, 1, 8, false, [(.int .i64 (0 : Int))], some (.int .i64), false⟩) (.node 5 (.one 4 ⟨.bool, 1, 1, false, [(.bool false)], some .bool, false⟩) (.one 5 ⟨.int .u8, 1, 1, false, [(.int .u8 (0 : Int))], some .u8, false⟩))) (.node 22 (.one 9 ⟨.str, 1, 16, false, [(.str [])], some .str, false⟩) (.node 23 (.one 22 ⟨.func, 1, 8, false, [.nilfn], none, false⟩) (.one 23 ⟨.int .i64, 1, 8, false, [(.int .i64 (0 : Int))], some (.int .i64), false⟩)))) (.node 32 (.node 26 (.one 24 ⟨.other, 1, 0, false, [.any], none, false⟩) (.node 28 (.one 26 ⟨.other, 1, 0, false, [.any], none, false⟩) (.one 28 ⟨.slice 9, 1, 24, false, [.sl .str [] .full], some (.sl .str), false⟩))) (.node 35 (.node 33 (.one 32 ⟨.slice 51, 1, 24, false, [.sl (.agg [.bool, (.int .u64), (.int .i64)]) [] .full], some (.sl (.agg [.bool, (.int .u64), (.int .i64)])), false⟩) (.one 33 ⟨.slice 53, 1, 24, false, [.sl (.agg [.str, .str]) [] .full], some (.sl (.agg [.str, .str])), false⟩)) (.node 38 (.one 35 ⟨.struct [(0, 9), (1, 3), (2, 32), (3, 3), (4, 33), (5, 3)], 6, 88, true, [(.str []), (.int .i64 (0 : Int)), .sl (.agg [.bool, (.int .u64), (.int .i64)]) [] .full, (.int .i64 (0 : Int)), .sl (.agg [.str, .str]) [] .full, (.int .i64 (0 : Int))], some (.agg [.str, (.int .i64), (.sl (.agg [.bool, (.int .u64), (.int .i64)])), (.int .i64), (.sl (.agg [.str, .str])), (.int .i64)]), false⟩) (.one 38 ⟨.other, 1, 0, false, [.any], none, false⟩))))) (.node 57 (.node 51 (.node 43 (.one 42 ⟨.struct [(0, 23), (1, 3)], 2, 16, true, [(.int .i64 (0 : Int)), (.int .i64 (0 : Int))], some (.agg [(.int .i64), (.int .i64)]), true⟩) (.node 49 (.one 43 ⟨.other, 1, 0, false, [.any], none, false⟩) (.one 49 ⟨.int .u64, 1, 8, false, [(.int .u64 (0 : Int))], some (.int .u64), false⟩))) (.node 54 (.node 53 (.one 51 ⟨.struct [(0, 4), (1, 49), (2, 3)], 3, 24, true, [(.bool false), (.int .u64 (0 : Int)), (.int .i64 (0 : Int))], some (.agg [.bool, (.int .u64), (.int .i64)]), true⟩) (.one 53 ⟨.struct [(0, 9), (1, 9)], 2, 32, true, [(.str []), (.str [])], some (.agg [.str, .str]), true⟩)) (.node 56 (.one 54 ⟨.arr 6 9, 6, 96, true, [(.str []), (.str []), (.str []), (.str []), (.str []), (.str [])], some (.agg [.str, .str, .str, .str, .str, .str]), false⟩) (.one 56 ⟨.ptr, 1, 8, false, [.nilp], none, false⟩)))) (.node 62 (.node 59 (.one 57 ⟨.slice 5, 1, 24, false, [.sl .u8 [] .full], some (.sl .u8), false⟩) (.node 61 (.one 59 ⟨.struct [(0, 56), (1, 57)], 2, 32, true, [.nilp, .sl .u8 [] .full], none, false⟩) (.one 61 ⟨.iface, 1, 16, false, [(.err false)], none, false⟩))) (.node 66 (.node 64 (.one 62 ⟨.other, 1, 0, false, [.any], none, false⟩) (.one 64 ⟨.func, 1, 8, false, [.nilfn], none, false⟩)) (.node 69 (.one 66 ⟨.other, 1, 0, false, [.any], none, false⟩) (.one 69 ⟨.other, 1, 0, false, [.any], none, false⟩)))))) (.node 116 (.node 87 (.node 81 (.node 78 (.one 76 ⟨.ptr, 1, 8, false, [.nilp], none, false⟩) (.node 80 (.one 78 ⟨.struct [(0, 35), (6, 3), (7, 3)], 8, 104, true, [(.str []), (.int .i64 (0 : Int)), .sl (.agg [.bool, (.int .u64), (.int .i64)]) [] .full, (.int .i64 (0 : Int)), .sl (.agg [.str, .str]) [] .full, (.int .i64 (0 : Int)), (.int .i64 (0 : Int)), (.int .i64 (0 : Int))], some (.agg [(.agg [.str, (.int .i64), (.sl (.agg [.bool, (.int .u64), (.int .i64)])), (.int .i64), (.sl (.agg [.str, .str])), (.int .i64)]), (.int .i64), (.int .i64)]), false⟩) (.one 80 ⟨.func, 1, 8, false, [.nilfn], none, false⟩))) (.node 82 (.one 81 ⟨.slice 80, 1, 24, false, [.nils], none, false⟩) (.node 86 (.one 82 ⟨.slice 86, 1, 24, false, [.sl (.agg [(.int .i64), .str]) [] .full], some (.sl (.agg [(.int .i64), .str])), false⟩) (.one 86 ⟨.struct [(0, 3), (1, 9)], 2, 24, true, [(.int .i64 (0 : Int)), (.str [])], some (.agg [(.int .i64), .str]), true⟩)))) (.node 111 (.node 101 (.one 87 ⟨.ptr, 1, 8, false, [.nilp], none, false⟩) (.node 107 (.one 101 ⟨.other, 1, 0, false, [.any], none, false⟩) (.one 107 ⟨.other, 1, 0, false, [.any], none, false⟩))) (.node 114 (.node 113 (.one 111 ⟨.other, 1, 0, false, [.any], none, false⟩) (.one 113 ⟨.func, 1, 8, false, [.nilfn], none, false⟩)) (.node 115 (.one 114 ⟨.struct [(0, 9), (1, 113)], 2, 24, true, [(.str []), .nilfn], none, false⟩) (.one 115 ⟨.arr 3 114, 6, 72, true, [(.str []), .nilfn, (.str []), .nilfn, (.str []), .nilfn], none, false⟩))))) (.node 131 (.node 122 (.node 118 (.one 116 ⟨.other, 1, 0, false, [.any], none, false⟩) (.node 120 (.one 118 ⟨.other, 1, 0, false, [.any], none, false⟩) (.one 120 ⟨.other, 1, 0, false, [.any], none, false⟩))) (.node 126 (.node 125 (.one 122 ⟨.other, 1, 0, false, [.any], none, false⟩) (.one 125 ⟨.struct [(0, 35)], 6, 88, true, [(.str []), (.int .i64 (0 : Int)), .sl (.agg [.bool, (.int .u64), (.int .i64)]) [] .full, (.int .i64 (0 : Int)), .sl (.agg [.str, .str]) [] .full, (.int .i64 (0 : Int))], some (.agg [(.agg [.str, (.int .i64), (.sl (.agg [.bool, (.int .u64), (.int .i64)])), (.int .i64), (.sl (.agg [.str, .str])), (.int .i64)])]), false⟩)) (.node 127 (.one 126 ⟨.struct [(0, 22), (1, 23)], 2, 16, true, [.nilfn, (.int .i64 (0 : Int))], none, false⟩) (.one 127 ⟨.arr 6 126, 12, 96, true, [.nilfn, (.int .i64 (0 : Int)), .nilfn, (.int .i64 (0 : Int)), .nilfn, (.int .i64 (0 : Int)), .nilfn, (.int .i64 (0 : Int)), .nilfn, (.int .i64 (0 : Int)), .nilfn, (.int .i64 (0 : Int))], none, false⟩)))) (.node 156 (.node 148 (.one 131 ⟨.func, 1, 8, false, [.nilfn], none, false⟩) (.node 153 (.one 148 ⟨.func, 1, 8, false, [.nilfn], none, false⟩) (.one 153 ⟨.other, 1, 0, false, [.any], none, false⟩))) (.node 181 (.node 161 (.one 156 ⟨.other, 1, 0, false, [.any], none, false⟩) (.one 161 ⟨.func, 1, 8, false, [.nilfn], none, false⟩)) (.node 183 (.one 181 ⟨.arr 2 5, 2, 2, true, [(.int .u8 (0 : Int)), (.int .u8 (0 : Int))], some (.agg [.u8, .u8]), false⟩) (.one 183 ⟨.func, 1, 8, false, [.nilfn], none, false⟩))))))
theorem tab_ok : tab.all (tiOK Tryz.prog) = true := by kernel_rfl
noncomputable def cx25 (X : Type) (n : Nat) : Cx X := mkCx tab.get [(25, Tryz.f25)] [] [] [] [] []
theorem cx25_ok (X : Type) (n : Nat) : CxOK Tryz.prog SW (cx25 X n) := mkCx_ok mixed (tabOK tab_ok) ⟨⟨Tryz.func25, by decide⟩, trivial⟩ trivial ⟨okC_mk (fun _ => rfl) (by kernel_rfl) (castP (by kernel_rfl) (show True from trivial)) (castP (by kernel_rfl) (show True from trivial)), trivial⟩ trivial
theorem ok25 (n : Nat) : FnOK Tryz.prog SW 25 [] (.one (.agg [.str, .str, .str, .str, .str, .str])) (fun x => F.dog_words n ) := fnOK_of WOf.st (cx25_ok _ n) (d := 8) (fun x => by kernel_rfl)
noncomputable def cx10 (X : Type) (n : Nat) : Cx X := mkCx tab.get [(10, Tryz.f10)] [(25, orcOf [] (.one (.agg [.str, .str, .str, .str, .str, .str])) (fun x => F.dog_words n ))] [] [] [] []
theorem cx10_ok (X : Type) (n : Nat) : CxOK Tryz.prog SW (cx10 X n) := mkCx_ok mixed (tabOK tab_ok) ⟨⟨Tryz.func10, by decide⟩, trivial⟩ ⟨orcOf_ok (ok25 n), trivial⟩ ⟨okC_mk (fun _ => rfl) (by kernel_rfl) (castP (by kernel_rfl) (show True from trivial)) (castP (by kernel_rfl) (show True from trivial)), trivial⟩ trivial
theorem ok10 (n : Nat) : FnOK Tryz.prog SW 10 [(.int .i64)] (.many [.str, (.int .i64)]) (fun x => F.dog_Word n x.1) := fnOK_of WOf.st (cx10_ok _ n) (d := 8) (fun x => by kernel_rfl)
theorem ok128 (n : Nat) : FnOK Tryz.prog SW 128 [(.int .u64), (.int .u64)] (.many [(.int .u64), (.int .u64)]) (fun x => O.mul64 n x.1 x.2.1) := mul64_ok (enters Tryz.func128 (by kernel_rfl) (by decide)) Tryz.bits_Mul64 n
theorem ok129 (n : Nat) : FnOK Tryz.prog SW 129 [(.int .u64), (.int .u64), (.int .u64)] (.many [(.int .u64), (.int .u64)]) (fun x => O.add64 n x.1 x.2.1 x.2.2.1) := add64_ok (fun x y c hx hy hc w => by rw [run_callFunc_extern Tryz.func129 (by kernel_rfl) (by kernel_rfl) (by kernel_rfl) (e := Go.add64Entry) (by kernel_rfl), Go.run_add64 x y c (by omega) (by omega) (by omega) (by omega)]; simp only [Result.andThen]; congr 5 <;> omega) n
noncomputable def cx82 (X : Type) (n : Nat) : Cx X := mkCx tab.get [(82, Tryz.f82)] [(128, orcOf [(.int .u64), (.int .u64)] (.many [(.int .u64), (.int .u64)]) (fun x => O.mul64 n x.1 x.2.1)), (129, orcOf [(.int .u64), (.int .u64), (.int .u64)] (.many [(.int .u64), (.int .u64)]) (fun x => O.add64 n x.1 x.2.1 x.2.2.1))] [] [] [] []
theorem cx82_ok (X : Type) (n : Nat) : CxOK Tryz.prog SW (cx82 X n) := mkCx_ok mixed (tabOK tab_ok) ⟨⟨Tryz.func82, by decide⟩, trivial⟩ ⟨orcOf_ok (ok128 n),
  orcOf_ok (ok129 n), trivial⟩ ⟨okC_mk (fun _ => rfl) (by kernel_rfl) (castP (by kernel_rfl) (show True from trivial)) (castP (by kernel_rfl) (show True from trivial)), trivial⟩ trivial
theorem ok82 (n : Nat) : FnOK Tryz.prog SW 82 [(.int .u64), (.int .u64)] (.many [(.int .u64), .bool]) (fun x => F.dec_times n x.1 x.2.1) := fnOK_of WOf.st (cx82_ok _ n) (d := 8) (fun x => by kernel_rfl)
def F.dec_Normal.L3.head : Shape := ⟨[(1, (.const (.ref 0 0))), (2, (.const (.ref 1 0)))], [[.bool, (.int .u64), (.int .i64)], [.bool, (.int .u64), (.int .i64)]], [], [], [], 2, 0, 0⟩
def F.dec_Normal.L3.e0 : Shape := ⟨[(1, (.const (.ref 0 0))), (2, (.const (.ref 1 0)))], [[.bool, (.int .u64), (.int .i64)], [.bool, (.int .u64), (.int .i64)]], [], [], [], 2, 0, 0⟩
noncomputable def F.dec_Normal.L3.f {X : Type} (n m : Nat) (ks : Ks X) (s : F.dec_Normal.L3.head.den) : Option X := F.dec_Normal.L3 n (fun qb0_0 qb0_1 qb0_2 qb1_0 qb1_1 qb1_2 => ks.ex 0 (F.dec_Normal.L3.e0.e (((), (), ()), ((qb0_0, qb0_1, qb0_2, ()), (qb1_0, qb1_1, qb1_2, ()), ()), (), ())) (F.dec_Normal.L3.e0.h (((), (), ()), ((qb0_0, qb0_1, qb0_2, ()), (qb1_0, qb1_1, qb1_2, ()), ()), (), ()))) m s.2.1.1.1 s.2.1.1.2.1 s.2.1.1.2.2.1 s.2.1.2.1.1 s.2.1.2.1.2.1 s.2.1.2.1.2.2.1
noncomputable def F.dec_Normal.L3.li (X : Type) (n : Nat) : LoopI X := ⟨8, ⟨0, 0, 0⟩, F.dec_Normal.L3.head, [(0, F.dec_Normal.L3.e0)], none, F.dec_Normal.L3.f n n⟩
def F.dec_Normal.L5.head : Shape := ⟨[(1, (.const (.ref 0 0))), (2, (.const (.ref 1 0)))], [[.bool, (.int .u64), (.int .i64)], [.bool, (.int .u64), (.int .i64)]], [], [], [], 2, 0, 0⟩
def F.dec_Normal.L5.e2 : Shape := ⟨[(1, (.const (.ref 0 0))), (2, (.const (.ref 1 0)))], [[.bool, (.int .u64), (.int .i64)], [.bool, (.int .u64), (.int .i64)]], [], [], [], 2, 0, 0⟩
def F.dec_Normal.L5.er : Shape := ⟨[(2, (.const (.ref 1 0))), (3, (.int .i64))], [[.bool, (.int .u64), (.int .i64)], [.bool, (.int .u64), (.int .i64)]], [], [], [], 2, 0, 0⟩
noncomputable def F.dec_Normal.L5.f {X : Type} (n m : Nat) (ks : Ks X) (s : F.dec_Normal.L5.head.den) : Option X := F.dec_Normal.L5 n (fun qb0_0 qb0_1 qb0_2 qb1_0 qb1_1 qb1_2 => ks.ex 2 (F.dec_Normal.L5.e2.e (((), (), ()), ((qb0_0, qb0_1, qb0_2, ()), (qb1_0, qb1_1, qb1_2, ()), ()), (), ())) (F.dec_Normal.L5.e2.h (((), (), ()), ((qb0_0, qb0_1, qb0_2, ()), (qb1_0, qb1_1, qb1_2, ()), ()), (), ()))) (fun q3 qb0_0 qb0_1 qb0_2 qb1_0 qb1_1 qb1_2 => ks.ret (F.dec_Normal.L5.er.e (((), q3, ()), ((qb0_0, qb0_1, qb0_2, ()), (qb1_0, qb1_1, qb1_2, ()), ()), (), ())) (F.dec_Normal.L5.er.h (((), q3, ()), ((qb0_0, qb0_1, qb0_2, ()), (qb1_0, qb1_1, qb1_2, ()), ()), (), ()))) m s.2.1.1.1 s.2.1.1.2.1 s.2.1.1.2.2.1 s.2.1.2.1.1 s.2.1.2.1.2.1 s.2.1.2.1.2.2.1
noncomputable def F.dec_Normal.L5.li (X : Type) (n : Nat) : LoopI X := ⟨8, ⟨0, 0, 0⟩, F.dec_Normal.L5.head, [(2, F.dec_Normal.L5.e2)], some F.dec_Normal.L5.er, F.dec_Normal.L5.f n n⟩
noncomputable def cx48 (X : Type) (n : Nat) : Cx X := mkCx tab.get [(48, Tryz.f48)] [(82, orcOf [(.int .u64), (.int .u64)] (.many [(.int .u64), .bool]) (fun x => F.dec_times n x.1 x.2.1))] [(48, 3, [F.dec_Normal.L3.li X n]), (48, 5, [F.dec_Normal.L5.li X n])] [] [] []
theorem F.dec_Normal.L3.ok (X : Type) (n : Nat) : LoopOK (cx48 X n) 48 Tryz.f48.ntmps (loopNo Tryz.f48 0) (F.dec_Normal.L3.li X n) :=
  ⟨F.dec_Normal.L3.f n, n, fun _ _ => rfl, fun _ _ => rfl, fun m ks s => by kernel_rfl⟩
theorem F.dec_Normal.L5.ok (X : Type) (n : Nat) : LoopOK (cx48 X n) 48 Tryz.f48.ntmps (loopNo Tryz.f48 1) (F.dec_Normal.L5.li X n) :=
  ⟨F.dec_Normal.L5.f n, n, fun _ _ => rfl, fun _ _ => rfl, fun m ks s => by kernel_rfl⟩
theorem cx48_ok (X : Type) (n : Nat) : CxOK Tryz.prog SW (cx48 X n) := mkCx_ok mixed (tabOK tab_ok) ⟨⟨Tryz.func48, by decide⟩, trivial⟩ ⟨orcOf_ok (ok82 n), trivial⟩ ⟨okC_mk (fun _ => rfl) (by kernel_rfl) (castP (by kernel_rfl) (show (LoopOK (cx48 X n) 48 Tryz.f48.ntmps (loopNo Tryz.f48 0) (F.dec_Normal.L3.li X n) ∧ True) ∧ (LoopOK (cx48 X n) 48 Tryz.f48.ntmps (loopNo Tryz.f48 1) (F.dec_Normal.L5.li X n) ∧ True) ∧ True from ⟨⟨F.dec_Normal.L3.ok X n, trivial⟩, ⟨F.dec_Normal.L5.ok X n, trivial⟩, trivial⟩)) (castP (by kernel_rfl) (show True from trivial)), trivial⟩ trivial
theorem ok48 (n : Nat) : FnOK Tryz.prog SW 48 [(.agg [.bool, (.int .u64), (.int .i64)])] (.many [(.agg [.bool, (.int .u64), (.int .i64)]), (.int .i64)]) (fun x => F.dec_Normal n x.1) := fnOK_of WOf.st (cx48_ok _ n) (d := 8) (fun x => by kernel_rfl)
noncomputable def cx154 (X : Type) (n : Nat) : Cx X := mkCx tab.get [(154, Tryz.f154)] [] [] [] [] []
theorem cx154_ok (X : Type) (n : Nat) : CxOK Tryz.prog SW (cx154 X n) := mkCx_ok mixed (tabOK tab_ok) ⟨⟨Tryz.func154, by decide⟩, trivial⟩ trivial ⟨okC_mk (fun _ => rfl) (by kernel_rfl) (castP (by kernel_rfl) (show True from trivial)) (castP (by kernel_rfl) (show True from trivial)), trivial⟩ trivial
theorem ok154 (n : Nat) : FnOK Tryz.prog SW 154 [(.int .i64)] (.one .bool) (fun x => F.class_may n x.1) := fnOK_of WOf.st (cx154_ok _ n) (d := 8) (fun x => by kernel_rfl)
noncomputable def cx188 (X : Type) (n : Nat) : Cx X := mkCx tab.get [(188, Tryz.f188)] [] [] [] [] []
theorem cx188_ok (X : Type) (n : Nat) : CxOK Tryz.prog SW (cx188 X n) := mkCx_ok mixed (tabOK tab_ok) ⟨⟨Tryz.func188, by decide⟩, trivial⟩ trivial ⟨okC_mk (fun _ => rfl) (by kernel_rfl) (castP (by kernel_rfl) (show True from trivial)) (castP (by kernel_rfl) (show True from trivial)), trivial⟩ trivial
theorem ok188 (n : Nat) : FnOK Tryz.prog SW 188 [(.int .u8), (.int .u8), (.int .u8)] (.one .bool) (fun x => F.class_between n x.1 x.2.1 x.2.2.1) := fnOK_of WOf.st (cx188_ok _ n) (d := 8) (fun x => by kernel_rfl)
noncomputable def cx155 (X : Type) (n : Nat) : Cx X := mkCx tab.get [(155, Tryz.f155)] [(188, orcOf [(.int .u8), (.int .u8), (.int .u8)] (.one .bool) (fun x => F.class_between n x.1 x.2.1 x.2.2.1))] [] [] [] []
theorem cx155_ok (X : Type) (n : Nat) : CxOK Tryz.prog SW (cx155 X n) := mkCx_ok mixed (tabOK tab_ok) ⟨⟨Tryz.func155, by decide⟩, trivial⟩ ⟨orcOf_ok (ok188 n), trivial⟩ ⟨okC_mk (fun _ => rfl) (by kernel_rfl) (castP (by kernel_rfl) (show True from trivial)) (castP (by kernel_rfl) (show True from trivial)), trivial⟩ trivial
theorem ok155 (n : Nat) : FnOK Tryz.prog SW 155 [(.int .i64), (.int .u8)] (.one .bool) (fun x => F.class_Is n x.1 x.2.1) := fnOK_of WOf.st (cx155_ok _ n) (d := 8) (fun x => by kernel_rfl)
def F.class_Bad.L4.head : Shape := ⟨[(0, (.int .i64)), (1, .str), (11, (.int .i64)), (12, (.int .i64))], [], [], [], [], 0, 0, 0⟩
def F.class_Bad.L4.e0 : Shape := ⟨[], [], [], [], [], 0, 0, 0⟩
def F.class_Bad.L4.er : Shape := ⟨[(4, (.int .i64)), (5, (.int .i64))], [], [], [], [], 0, 0, 0⟩
noncomputable def F.class_Bad.L4.f {X : Type} (n m : Nat) (ks : Ks X) (s : F.class_Bad.L4.head.den) : Option X := F.class_Bad.L4 n (fun (_ : Unit) => ks.ex 0 (F.class_Bad.L4.e0.e ((), (), (), ())) (F.class_Bad.L4.e0.h ((), (), (), ()))) (fun q4 q5 => ks.ret (F.class_Bad.L4.er.e ((q4, q5, ()), (), (), ())) (F.class_Bad.L4.er.h ((q4, q5, ()), (), (), ()))) m s.1.1 s.1.2.1 s.1.2.2.1 s.1.2.2.2.1
noncomputable def F.class_Bad.L4.li (X : Type) (n : Nat) : LoopI X := ⟨8, ⟨0, 0, 0⟩, F.class_Bad.L4.head, [(0, F.class_Bad.L4.e0)], some F.class_Bad.L4.er, F.class_Bad.L4.f n n⟩
noncomputable def cx117 (X : Type) (n : Nat) : Cx X := mkCx tab.get [(117, Tryz.f117)] [(154, orcOf [(.int .i64)] (.one .bool) (fun x => F.class_may n x.1)), (155, orcOf [(.int .i64), (.int .u8)] (.one .bool) (fun x => F.class_Is n x.1 x.2.1))] [(117, 4, [F.class_Bad.L4.li X n])] [] [] []
theorem F.class_Bad.L4.ok (X : Type) (n : Nat) : LoopOK (cx117 X n) 117 Tryz.f117.ntmps (loopNo Tryz.f117 0) (F.class_Bad.L4.li X n) :=
  ⟨F.class_Bad.L4.f n, n, fun _ _ => rfl, fun _ _ => rfl, fun m ks s => by kernel_rfl⟩
theorem cx117_ok (X : Type) (n : Nat) : CxOK Tryz.prog SW (cx117 X n) := mkCx_ok mixed (tabOK tab_ok) ⟨⟨Tryz.func117, by decide⟩, trivial⟩ ⟨orcOf_ok (ok154 n),
  orcOf_ok (ok155 n), trivial⟩ ⟨okC_mk (fun _ => rfl) (by kernel_rfl) (castP (by kernel_rfl) (show (LoopOK (cx117 X n) 117 Tryz.f117.ntmps (loopNo Tryz.f117 0) (F.class_Bad.L4.li X n) ∧ True) ∧ True from ⟨⟨F.class_Bad.L4.ok X n, trivial⟩, trivial⟩)) (castP (by kernel_rfl) (show True from trivial)), trivial⟩ trivial
theorem ok117 (n : Nat) : FnOK Tryz.prog SW 117 [(.int .i64), .str] (.many [(.int .i64), (.int .i64)]) (fun x => F.class_Bad n x.1 x.2.1) := fnOK_of WOf.st (cx117_ok _ n) (d := 8) (fun x => by kernel_rfl)
noncomputable def cx71 (X : Type) (n : Nat) : Cx X := mkCx tab.get [(71, Tryz.f71)] [(117, orcOf [(.int .i64), .str] (.many [(.int .i64), (.int .i64)]) (fun x => F.class_Bad n x.1 x.2.1))] [] [] [] []
theorem cx71_ok (X : Type) (n : Nat) : CxOK Tryz.prog SW (cx71 X n) := mkCx_ok mixed (tabOK tab_ok) ⟨⟨Tryz.func71, by decide⟩, trivial⟩ ⟨orcOf_ok (ok117 n), trivial⟩ ⟨okC_mk (fun _ => rfl) (by kernel_rfl) (castP (by kernel_rfl) (show True from trivial)) (castP (by kernel_rfl) (show True from trivial)), trivial⟩ trivial
theorem ok71 (n : Nat) : FnOK Tryz.prog SW 71 [(.int .i64), .str, (.int .i64), (.int .i64)] (.one (.agg [(.int .i64), (.int .i64)])) (fun x => F.class_Text n x.1 x.2.1 x.2.2.1 x.2.2.2.1) := fnOK_of WOf.st (cx71_ok _ n) (d := 8) (fun x => by kernel_rfl)
noncomputable def cx83 (X : Type) (n : Nat) : Cx X := mkCx tab.get [(83, Tryz.f83)] [(71, orcOf [(.int .i64), .str, (.int .i64), (.int .i64)] (.one (.agg [(.int .i64), (.int .i64)])) (fun x => F.class_Text n x.1 x.2.1 x.2.2.1 x.2.2.2.1))] [] [] [] []
theorem cx83_ok (X : Type) (n : Nat) : CxOK Tryz.prog SW (cx83 X n) := mkCx_ok mixed (tabOK tab_ok) ⟨⟨Tryz.func83, by decide⟩, trivial⟩ ⟨orcOf_ok (ok71 n), trivial⟩ ⟨okC_mk (fun _ => rfl) (by kernel_rfl) (castP (by kernel_rfl) (show True from trivial)) (castP (by kernel_rfl) (show True from trivial)), trivial⟩ trivial
theorem ok83 (n : Nat) : FnOK Tryz.prog SW 83 [(.agg [.str, (.int .i64), (.sl (.agg [.bool, (.int .u64), (.int .i64)]) .unk), (.int .i64), (.sl (.agg [.str, .str]) .unk), (.int .i64)])] (.one .bool) (fun x => F.metric_look_name n x.1) := fnOK_of WOf.st (cx83_ok _ n) (d := 8) (fun x => by kernel_rfl)
noncomputable def cx130 (X : Type) (n : Nat) : Cx X := mkCx tab.get [(130, Tryz.f130)] [] [] [] [] []
theorem cx130_ok (X : Type) (n : Nat) : CxOK Tryz.prog SW (cx130 X n) := mkCx_ok mixed (tabOK tab_ok) ⟨⟨Tryz.func130, by decide⟩, trivial⟩ trivial ⟨okC_mk (fun _ => rfl) (by kernel_rfl) (castP (by kernel_rfl) (show True from trivial)) (castP (by kernel_rfl) (show True from trivial)), trivial⟩ trivial
theorem ok130 (n : Nat) : FnOK Tryz.prog SW 130 [(.int .i64), (.int .i64), (.int .i64)] (.one .bool) (fun x => F.metric_between n x.1 x.2.1 x.2.2.1) := fnOK_of WOf.st (cx130_ok _ n) (d := 8) (fun x => by kernel_rfl)
noncomputable def cx84 (X : Type) (n : Nat) : Cx X := mkCx tab.get [(84, Tryz.f84)] [(130, orcOf [(.int .i64), (.int .i64), (.int .i64)] (.one .bool) (fun x => F.metric_between n x.1 x.2.1 x.2.2.1))] [] [] [] []
theorem cx84_ok (X : Type) (n : Nat) : CxOK Tryz.prog SW (cx84 X n) := mkCx_ok mixed (tabOK tab_ok) ⟨⟨Tryz.func84, by decide⟩, trivial⟩ ⟨orcOf_ok (ok130 n), trivial⟩ ⟨okC_mk (fun _ => rfl) (by kernel_rfl) (castP (by kernel_rfl) (show True from trivial)) (castP (by kernel_rfl) (show True from trivial)), trivial⟩ trivial
theorem ok84 (n : Nat) : FnOK Tryz.prog SW 84 [(.agg [.str, (.int .i64), (.sl (.agg [.bool, (.int .u64), (.int .i64)]) .unk), (.int .i64), (.sl (.agg [.str, .str]) .unk), (.int .i64)])] (.one .bool) (fun x => F.metric_look_kind n x.1) := fnOK_of WOf.st (cx84_ok _ n) (d := 8) (fun x => by kernel_rfl)
noncomputable def cx55 (X : Type) (n : Nat) : Cx X := mkCx tab.get [(55, Tryz.f55)] [(48, orcOf [(.agg [.bool, (.int .u64), (.int .i64)])] (.many [(.agg [.bool, (.int .u64), (.int .i64)]), (.int .i64)]) (fun x => F.dec_Normal n x.1))] [] [] [] []
theorem cx55_ok (X : Type) (n : Nat) : CxOK Tryz.prog SW (cx55 X n) := mkCx_ok mixed (tabOK tab_ok) ⟨⟨Tryz.func55, by decide⟩, trivial⟩ ⟨orcOf_ok (ok48 n), trivial⟩ ⟨okC_mk (fun _ => rfl) (by kernel_rfl) (castP (by kernel_rfl) (show True from trivial)) (castP (by kernel_rfl) (show True from trivial)), trivial⟩ trivial
theorem ok55 (n : Nat) : FnOK Tryz.prog SW 55 [(.agg [.bool, (.int .u64), (.int .i64)])] (.one (.int .i64)) (fun x => F.dec_Check n x.1) := fnOK_of WOf.st (cx55_ok _ n) (d := 8) (fun x => by kernel_rfl)
noncomputable def cx132 (X : Type) (n : Nat) : Cx X := mkCx tab.get [(132, Tryz.f132)] [(55, orcOf [(.agg [.bool, (.int .u64), (.int .i64)])] (.one (.int .i64)) (fun x => F.dec_Check n x.1))] [] [] [] []
theorem cx132_ok (X : Type) (n : Nat) : CxOK Tryz.prog SW (cx132 X n) := mkCx_ok mixed (tabOK tab_ok) ⟨⟨Tryz.func132, by decide⟩, trivial⟩ ⟨orcOf_ok (ok55 n), trivial⟩ ⟨okC_mk (fun _ => rfl) (by kernel_rfl) (castP (by kernel_rfl) (show True from trivial)) (castP (by kernel_rfl) (show True from trivial)), trivial⟩ trivial
theorem ok132 (n : Nat) : FnOK Tryz.prog SW 132 [(.agg [.bool, (.int .u64), (.int .i64)])] (.one .bool) (fun x => F.metric_look_values_1 n x.1) := fnOK_of WOf.st (cx132_ok _ n) (d := 8) (fun x => by kernel_rfl)
def F.metric_look_values.L2_slices_IndexFunc_api_Dec_api_Dec.head : Shape := ⟨[(0, (.sl (.agg [.bool, (.int .u64), (.int .i64)]) .unk)), (1, (.const (.fn 132 [] []))), (7, (.int .i64)), (8, (.int .i64))], [[.str, (.int .i64), (.sl (.agg [.bool, (.int .u64), (.int .i64)]) .unk), (.int .i64), (.sl (.agg [.str, .str]) .unk), (.int .i64)]], [], [], [], 1, 0, 0⟩
def F.metric_look_values.L2_slices_IndexFunc_api_Dec_api_Dec.e0 : Shape := ⟨[], [[.str, (.int .i64), (.sl (.agg [.bool, (.int .u64), (.int .i64)]) .unk), (.int .i64), (.sl (.agg [.str, .str]) .unk), (.int .i64)]], [], [], [], 1, 0, 0⟩
def F.metric_look_values.L2_slices_IndexFunc_api_Dec_api_Dec.er : Shape := ⟨[(4, (.int .i64))], [[.str, (.int .i64), (.sl (.agg [.bool, (.int .u64), (.int .i64)]) .unk), (.int .i64), (.sl (.agg [.str, .str]) .unk), (.int .i64)]], [], [], [], 1, 0, 0⟩
noncomputable def F.metric_look_values.L2_slices_IndexFunc_api_Dec_api_Dec.f {X : Type} (n m : Nat) (ks : Ks X) (s : F.metric_look_values.L2_slices_IndexFunc_api_Dec_api_Dec.head.den) : Option X := F.metric_look_values.L2_slices_IndexFunc_api_Dec_api_Dec n (fun qb0_0 qb0_1 qb0_2 qb0_3 qb0_4 qb0_5 => ks.ex 0 (F.metric_look_values.L2_slices_IndexFunc_api_Dec_api_Dec.e0.e ((), ((qb0_0, qb0_1, qb0_2, qb0_3, qb0_4, qb0_5, ()), ()), (), ())) (F.metric_look_values.L2_slices_IndexFunc_api_Dec_api_Dec.e0.h ((), ((qb0_0, qb0_1, qb0_2, qb0_3, qb0_4, qb0_5, ()), ()), (), ()))) (fun q4 qb0_0 qb0_1 qb0_2 qb0_3 qb0_4 qb0_5 => ks.ret (F.metric_look_values.L2_slices_IndexFunc_api_Dec_api_Dec.er.e ((q4, ()), ((qb0_0, qb0_1, qb0_2, qb0_3, qb0_4, qb0_5, ()), ()), (), ())) (F.metric_look_values.L2_slices_IndexFunc_api_Dec_api_Dec.er.h ((q4, ()), ((qb0_0, qb0_1, qb0_2, qb0_3, qb0_4, qb0_5, ()), ()), (), ()))) m s.1.1 s.1.2.2.1 s.1.2.2.2.1 s.2.1.1.1 s.2.1.1.2.1 s.2.1.1.2.2.1 s.2.1.1.2.2.2.1 s.2.1.1.2.2.2.2.1 s.2.1.1.2.2.2.2.2.1
noncomputable def F.metric_look_values.L2_slices_IndexFunc_api_Dec_api_Dec.li (X : Type) (n : Nat) : LoopI X := ⟨6, ⟨1, 0, 0⟩, F.metric_look_values.L2_slices_IndexFunc_api_Dec_api_Dec.head, [(0, F.metric_look_values.L2_slices_IndexFunc_api_Dec_api_Dec.e0)], some F.metric_look_values.L2_slices_IndexFunc_api_Dec_api_Dec.er, F.metric_look_values.L2_slices_IndexFunc_api_Dec_api_Dec.f n n⟩
noncomputable def cx85 (X : Type) (n : Nat) : Cx X := mkCx tab.get [(85, Tryz.f85), (131, Tryz.f131), (164, Tryz.f164)] [(130, orcOf [(.int .i64), (.int .i64), (.int .i64)] (.one .bool) (fun x => F.metric_between n x.1 x.2.1 x.2.2.1)), (132, orcOf [(.agg [.bool, (.int .u64), (.int .i64)])] (.one .bool) (fun x => F.metric_look_values_1 n x.1))] [(164, 2, [F.metric_look_values.L2_slices_IndexFunc_api_Dec_api_Dec.li X n])] [] [] []
theorem F.metric_look_values.L2_slices_IndexFunc_api_Dec_api_Dec.ok (X : Type) (n : Nat) : LoopOK (cx85 X n) 164 Tryz.f164.ntmps (loopNo Tryz.f164 0) (F.metric_look_values.L2_slices_IndexFunc_api_Dec_api_Dec.li X n) :=
  ⟨F.metric_look_values.L2_slices_IndexFunc_api_Dec_api_Dec.f n, n, fun _ _ => rfl, fun _ _ => rfl, fun m ks s => by kernel_rfl⟩
theorem cx85_ok (X : Type) (n : Nat) : CxOK Tryz.prog SW (cx85 X n) := mkCx_ok mixed (tabOK tab_ok) ⟨⟨Tryz.func85, by decide⟩,
  ⟨Tryz.func131, by decide⟩,
  ⟨Tryz.func164, by decide⟩, trivial⟩ ⟨orcOf_ok (ok130 n),
  orcOf_ok (ok132 n), trivial⟩ ⟨okC_mk (fun _ => rfl) (by kernel_rfl) (castP (by kernel_rfl) (show True from trivial)) (castP (by kernel_rfl) (show True from trivial)),
  okC_mk (fun _ => rfl) (by kernel_rfl) (castP (by kernel_rfl) (show True from trivial)) (castP (by kernel_rfl) (show True from trivial)),
  okC_mk (fun _ => rfl) (by kernel_rfl) (castP (by kernel_rfl) (show (LoopOK (cx85 X n) 164 Tryz.f164.ntmps (loopNo Tryz.f164 0) (F.metric_look_values.L2_slices_IndexFunc_api_Dec_api_Dec.li X n) ∧ True) ∧ True from ⟨⟨F.metric_look_values.L2_slices_IndexFunc_api_Dec_api_Dec.ok X n, trivial⟩, trivial⟩)) (castP (by kernel_rfl) (show True from trivial)), trivial⟩ trivial
theorem ok85 (n : Nat) : FnOK Tryz.prog SW 85 [(.agg [.str, (.int .i64), (.sl (.agg [.bool, (.int .u64), (.int .i64)]) .unk), (.int .i64), (.sl (.agg [.str, .str]) .unk), (.int .i64)])] (.one .bool) (fun x => F.metric_look_values n x.1) := fnOK_of WOf.st (cx85_ok _ n) (d := 8) (fun x => by kernel_rfl)
noncomputable def cx86 (X : Type) (n : Nat) : Cx X := mkCx tab.get [(86, Tryz.f86)] [(130, orcOf [(.int .i64), (.int .i64), (.int .i64)] (.one .bool) (fun x => F.metric_between n x.1 x.2.1 x.2.2.1))] [] [] [] []
theorem cx86_ok (X : Type) (n : Nat) : CxOK Tryz.prog SW (cx86 X n) := mkCx_ok mixed (tabOK tab_ok) ⟨⟨Tryz.func86, by decide⟩, trivial⟩ ⟨orcOf_ok (ok130 n), trivial⟩ ⟨okC_mk (fun _ => rfl) (by kernel_rfl) (castP (by kernel_rfl) (show True from trivial)) (castP (by kernel_rfl) (show True from trivial)), trivial⟩ trivial
theorem ok86 (n : Nat) : FnOK Tryz.prog SW 86 [(.agg [.str, (.int .i64), (.sl (.agg [.bool, (.int .u64), (.int .i64)]) .unk), (.int .i64), (.sl (.agg [.str, .str]) .unk), (.int .i64)])] (.one .bool) (fun x => F.metric_look_rate n x.1) := fnOK_of WOf.st (cx86_ok _ n) (d := 8) (fun x => by kernel_rfl)
noncomputable def cx60 (X : Type) (n : Nat) : Cx X := mkCx tab.get [(60, Tryz.f60)] [(71, orcOf [(.int .i64), .str, (.int .i64), (.int .i64)] (.one (.agg [(.int .i64), (.int .i64)])) (fun x => F.class_Text n x.1 x.2.1 x.2.2.1 x.2.2.2.1))] [] [] [] []
theorem cx60_ok (X : Type) (n : Nat) : CxOK Tryz.prog SW (cx60 X n) := mkCx_ok mixed (tabOK tab_ok) ⟨⟨Tryz.func60, by decide⟩, trivial⟩ ⟨orcOf_ok (ok71 n), trivial⟩ ⟨okC_mk (fun _ => rfl) (by kernel_rfl) (castP (by kernel_rfl) (show True from trivial)) (castP (by kernel_rfl) (show True from trivial)), trivial⟩ trivial
theorem ok60 (n : Nat) : FnOK Tryz.prog SW 60 [(.agg [.str, .str])] (.one (.int .i64)) (fun x => F.tag_Check n x.1) := fnOK_of WOf.st (cx60_ok _ n) (d := 8) (fun x => by kernel_rfl)
noncomputable def cx134 (X : Type) (n : Nat) : Cx X := mkCx tab.get [(134, Tryz.f134)] [(60, orcOf [(.agg [.str, .str])] (.one (.int .i64)) (fun x => F.tag_Check n x.1))] [] [] [] []
theorem cx134_ok (X : Type) (n : Nat) : CxOK Tryz.prog SW (cx134 X n) := mkCx_ok mixed (tabOK tab_ok) ⟨⟨Tryz.func134, by decide⟩, trivial⟩ ⟨orcOf_ok (ok60 n), trivial⟩ ⟨okC_mk (fun _ => rfl) (by kernel_rfl) (castP (by kernel_rfl) (show True from trivial)) (castP (by kernel_rfl) (show True from trivial)), trivial⟩ trivial
theorem ok134 (n : Nat) : FnOK Tryz.prog SW 134 [(.agg [.str, .str])] (.one .bool) (fun x => F.metric_look_tags_1 n x.1) := fnOK_of WOf.st (cx134_ok _ n) (d := 8) (fun x => by kernel_rfl)
def F.metric_look_tags.L2_slices_IndexFunc_api_Tag_api_Tag.head : Shape := ⟨[(0, (.sl (.agg [.str, .str]) .unk)), (1, (.const (.fn 134 [] []))), (7, (.int .i64)), (8, (.int .i64))], [[.str, (.int .i64), (.sl (.agg [.bool, (.int .u64), (.int .i64)]) .unk), (.int .i64), (.sl (.agg [.str, .str]) .unk), (.int .i64)]], [], [], [], 1, 0, 0⟩
def F.metric_look_tags.L2_slices_IndexFunc_api_Tag_api_Tag.e0 : Shape := ⟨[], [[.str, (.int .i64), (.sl (.agg [.bool, (.int .u64), (.int .i64)]) .unk), (.int .i64), (.sl (.agg [.str, .str]) .unk), (.int .i64)]], [], [], [], 1, 0, 0⟩
def F.metric_look_tags.L2_slices_IndexFunc_api_Tag_api_Tag.er : Shape := ⟨[(4, (.int .i64))], [[.str, (.int .i64), (.sl (.agg [.bool, (.int .u64), (.int .i64)]) .unk), (.int .i64), (.sl (.agg [.str, .str]) .unk), (.int .i64)]], [], [], [], 1, 0, 0⟩
noncomputable def F.metric_look_tags.L2_slices_IndexFunc_api_Tag_api_Tag.f {X : Type} (n m : Nat) (ks : Ks X) (s : F.metric_look_tags.L2_slices_IndexFunc_api_Tag_api_Tag.head.den) : Option X := F.metric_look_tags.L2_slices_IndexFunc_api_Tag_api_Tag n (fun qb0_0 qb0_1 qb0_2 qb0_3 qb0_4 qb0_5 => ks.ex 0 (F.metric_look_tags.L2_slices_IndexFunc_api_Tag_api_Tag.e0.e ((), ((qb0_0, qb0_1, qb0_2, qb0_3, qb0_4, qb0_5, ()), ()), (), ())) (F.metric_look_tags.L2_slices_IndexFunc_api_Tag_api_Tag.e0.h ((), ((qb0_0, qb0_1, qb0_2, qb0_3, qb0_4, qb0_5, ()), ()), (), ()))) (fun q4 qb0_0 qb0_1 qb0_2 qb0_3 qb0_4 qb0_5 => ks.ret (F.metric_look_tags.L2_slices_IndexFunc_api_Tag_api_Tag.er.e ((q4, ()), ((qb0_0, qb0_1, qb0_2, qb0_3, qb0_4, qb0_5, ()), ()), (), ())) (F.metric_look_tags.L2_slices_IndexFunc_api_Tag_api_Tag.er.h ((q4, ()), ((qb0_0, qb0_1, qb0_2, qb0_3, qb0_4, qb0_5, ()), ()), (), ()))) m s.1.1 s.1.2.2.1 s.1.2.2.2.1 s.2.1.1.1 s.2.1.1.2.1 s.2.1.1.2.2.1 s.2.1.1.2.2.2.1 s.2.1.1.2.2.2.2.1 s.2.1.1.2.2.2.2.2.1
noncomputable def F.metric_look_tags.L2_slices_IndexFunc_api_Tag_api_Tag.li (X : Type) (n : Nat) : LoopI X := ⟨6, ⟨1, 0, 0⟩, F.metric_look_tags.L2_slices_IndexFunc_api_Tag_api_Tag.head, [(0, F.metric_look_tags.L2_slices_IndexFunc_api_Tag_api_Tag.e0)], some F.metric_look_tags.L2_slices_IndexFunc_api_Tag_api_Tag.er, F.metric_look_tags.L2_slices_IndexFunc_api_Tag_api_Tag.f n n⟩
noncomputable def cx87 (X : Type) (n : Nat) : Cx X := mkCx tab.get [(87, Tryz.f87), (133, Tryz.f133), (165, Tryz.f165)] [(134, orcOf [(.agg [.str, .str])] (.one .bool) (fun x => F.metric_look_tags_1 n x.1))] [(165, 2, [F.metric_look_tags.L2_slices_IndexFunc_api_Tag_api_Tag.li X n])] [] [] []
theorem F.metric_look_tags.L2_slices_IndexFunc_api_Tag_api_Tag.ok (X : Type) (n : Nat) : LoopOK (cx87 X n) 165 Tryz.f165.ntmps (loopNo Tryz.f165 0) (F.metric_look_tags.L2_slices_IndexFunc_api_Tag_api_Tag.li X n) :=
  ⟨F.metric_look_tags.L2_slices_IndexFunc_api_Tag_api_Tag.f n, n, fun _ _ => rfl, fun _ _ => rfl, fun m ks s => by kernel_rfl⟩
theorem cx87_ok (X : Type) (n : Nat) : CxOK Tryz.prog SW (cx87 X n) := mkCx_ok mixed (tabOK tab_ok) ⟨⟨Tryz.func87, by decide⟩,
  ⟨Tryz.func133, by decide⟩,
  ⟨Tryz.func165, by decide⟩, trivial⟩ ⟨orcOf_ok (ok134 n), trivial⟩ ⟨okC_mk (fun _ => rfl) (by kernel_rfl) (castP (by kernel_rfl) (show True from trivial)) (castP (by kernel_rfl) (show True from trivial)),
  okC_mk (fun _ => rfl) (by kernel_rfl) (castP (by kernel_rfl) (show True from trivial)) (castP (by kernel_rfl) (show True from trivial)),
  okC_mk (fun _ => rfl) (by kernel_rfl) (castP (by kernel_rfl) (show (LoopOK (cx87 X n) 165 Tryz.f165.ntmps (loopNo Tryz.f165 0) (F.metric_look_tags.L2_slices_IndexFunc_api_Tag_api_Tag.li X n) ∧ True) ∧ True from ⟨⟨F.metric_look_tags.L2_slices_IndexFunc_api_Tag_api_Tag.ok X n, trivial⟩, trivial⟩)) (castP (by kernel_rfl) (show True from trivial)), trivial⟩ trivial
theorem ok87 (n : Nat) : FnOK Tryz.prog SW 87 [(.agg [.str, (.int .i64), (.sl (.agg [.bool, (.int .u64), (.int .i64)]) .unk), (.int .i64), (.sl (.agg [.str, .str]) .unk), (.int .i64)])] (.one .bool) (fun x => F.metric_look_tags n x.1) := fnOK_of WOf.st (cx87_ok _ n) (d := 8) (fun x => by kernel_rfl)
noncomputable def cx88 (X : Type) (n : Nat) : Cx X := mkCx tab.get [(88, Tryz.f88)] [(130, orcOf [(.int .i64), (.int .i64), (.int .i64)] (.one .bool) (fun x => F.metric_between n x.1 x.2.1 x.2.2.1))] [] [] [] []
theorem cx88_ok (X : Type) (n : Nat) : CxOK Tryz.prog SW (cx88 X n) := mkCx_ok mixed (tabOK tab_ok) ⟨⟨Tryz.func88, by decide⟩, trivial⟩ ⟨orcOf_ok (ok130 n), trivial⟩ ⟨okC_mk (fun _ => rfl) (by kernel_rfl) (castP (by kernel_rfl) (show True from trivial)) (castP (by kernel_rfl) (show True from trivial)), trivial⟩ trivial
theorem ok88 (n : Nat) : FnOK Tryz.prog SW 88 [(.agg [.str, (.int .i64), (.sl (.agg [.bool, (.int .u64), (.int .i64)]) .unk), (.int .i64), (.sl (.agg [.str, .str]) .unk), (.int .i64)])] (.one .bool) (fun x => F.metric_look_time n x.1) := fnOK_of WOf.st (cx88_ok _ n) (d := 8) (fun x => by kernel_rfl)
def F.metric_Check.L3.head : Shape := ⟨[(26, (.agg [(.fn 83 [(.agg [.str, (.int .i64), (.sl (.agg [.bool, (.int .u64), (.int .i64)]) .unk), (.int .i64), (.sl (.agg [.str, .str]) .unk), (.int .i64)])] []), (.int .i64), (.fn 84 [(.agg [.str, (.int .i64), (.sl (.agg [.bool, (.int .u64), (.int .i64)]) .unk), (.int .i64), (.sl (.agg [.str, .str]) .unk), (.int .i64)])] []), (.int .i64), (.fn 85 [(.agg [.str, (.int .i64), (.sl (.agg [.bool, (.int .u64), (.int .i64)]) .unk), (.int .i64), (.sl (.agg [.str, .str]) .unk), (.int .i64)])] []), (.int .i64), (.fn 86 [(.agg [.str, (.int .i64), (.sl (.agg [.bool, (.int .u64), (.int .i64)]) .unk), (.int .i64), (.sl (.agg [.str, .str]) .unk), (.int .i64)])] []), (.int .i64), (.fn 87 [(.agg [.str, (.int .i64), (.sl (.agg [.bool, (.int .u64), (.int .i64)]) .unk), (.int .i64), (.sl (.agg [.str, .str]) .unk), (.int .i64)])] []), (.int .i64), (.fn 88 [(.agg [.str, (.int .i64), (.sl (.agg [.bool, (.int .u64), (.int .i64)]) .unk), (.int .i64), (.sl (.agg [.str, .str]) .unk), (.int .i64)])] []), (.int .i64)])), (27, (.int .i64))], [[.str, (.int .i64), (.sl (.agg [.bool, (.int .u64), (.int .i64)]) .unk), (.int .i64), (.sl (.agg [.str, .str]) .unk), (.int .i64)], [.str, (.int .i64), (.sl (.agg [.bool, (.int .u64), (.int .i64)]) .unk), (.int .i64), (.sl (.agg [.str, .str]) .unk), (.int .i64)]], [], [], [], 2, 0, 0⟩
def F.metric_Check.L3.e0 : Shape := ⟨[], [[.str, (.int .i64), (.sl (.agg [.bool, (.int .u64), (.int .i64)]) .unk), (.int .i64), (.sl (.agg [.str, .str]) .unk), (.int .i64)], [.str, (.int .i64), (.sl (.agg [.bool, (.int .u64), (.int .i64)]) .unk), (.int .i64), (.sl (.agg [.str, .str]) .unk), (.int .i64)]], [], [], [], 2, 0, 0⟩
def F.metric_Check.L3.er : Shape := ⟨[(2, (.int .i64))], [[.str, (.int .i64), (.sl (.agg [.bool, (.int .u64), (.int .i64)]) .unk), (.int .i64), (.sl (.agg [.str, .str]) .unk), (.int .i64)], [.str, (.int .i64), (.sl (.agg [.bool, (.int .u64), (.int .i64)]) .unk), (.int .i64), (.sl (.agg [.str, .str]) .unk), (.int .i64)]], [], [], [], 2, 0, 0⟩
noncomputable def F.metric_Check.L3.f {X : Type} (n m : Nat) (ks : Ks X) (s : F.metric_Check.L3.head.den) : Option X := F.metric_Check.L3 n (fun qb0_0 qb0_1 qb0_2 qb0_3 qb0_4 qb0_5 qb1_0 qb1_1 qb1_2 qb1_3 qb1_4 qb1_5 => ks.ex 0 (F.metric_Check.L3.e0.e ((), ((qb0_0, qb0_1, qb0_2, qb0_3, qb0_4, qb0_5, ()), (qb1_0, qb1_1, qb1_2, qb1_3, qb1_4, qb1_5, ()), ()), (), ())) (F.metric_Check.L3.e0.h ((), ((qb0_0, qb0_1, qb0_2, qb0_3, qb0_4, qb0_5, ()), (qb1_0, qb1_1, qb1_2, qb1_3, qb1_4, qb1_5, ()), ()), (), ()))) (fun q2 qb0_0 qb0_1 qb0_2 qb0_3 qb0_4 qb0_5 qb1_0 qb1_1 qb1_2 qb1_3 qb1_4 qb1_5 => ks.ret (F.metric_Check.L3.er.e ((q2, ()), ((qb0_0, qb0_1, qb0_2, qb0_3, qb0_4, qb0_5, ()), (qb1_0, qb1_1, qb1_2, qb1_3, qb1_4, qb1_5, ()), ()), (), ())) (F.metric_Check.L3.er.h ((q2, ()), ((qb0_0, qb0_1, qb0_2, qb0_3, qb0_4, qb0_5, ()), (qb1_0, qb1_1, qb1_2, qb1_3, qb1_4, qb1_5, ()), ()), (), ()))) m s.1.1 s.1.2.1 s.2.1.1.1 s.2.1.1.2.1 s.2.1.1.2.2.1 s.2.1.1.2.2.2.1 s.2.1.1.2.2.2.2.1 s.2.1.1.2.2.2.2.2.1 s.2.1.2.1.1 s.2.1.2.1.2.1 s.2.1.2.1.2.2.1 s.2.1.2.1.2.2.2.1 s.2.1.2.1.2.2.2.2.1 s.2.1.2.1.2.2.2.2.2.1
noncomputable def F.metric_Check.L3.li (X : Type) (n : Nat) : LoopI X := ⟨8, ⟨0, 0, 0⟩, F.metric_Check.L3.head, [(0, F.metric_Check.L3.e0)], some F.metric_Check.L3.er, F.metric_Check.L3.f n n⟩
noncomputable def cx49 (X : Type) (n : Nat) : Cx X := mkCx tab.get [(49, Tryz.f49)] [(83, orcOf [(.agg [.str, (.int .i64), (.sl (.agg [.bool, (.int .u64), (.int .i64)]) .unk), (.int .i64), (.sl (.agg [.str, .str]) .unk), (.int .i64)])] (.one .bool) (fun x => F.metric_look_name n x.1)), (84, orcOf [(.agg [.str, (.int .i64), (.sl (.agg [.bool, (.int .u64), (.int .i64)]) .unk), (.int .i64), (.sl (.agg [.str, .str]) .unk), (.int .i64)])] (.one .bool) (fun x => F.metric_look_kind n x.1)), (85, orcOf [(.agg [.str, (.int .i64), (.sl (.agg [.bool, (.int .u64), (.int .i64)]) .unk), (.int .i64), (.sl (.agg [.str, .str]) .unk), (.int .i64)])] (.one .bool) (fun x => F.metric_look_values n x.1)), (86, orcOf [(.agg [.str, (.int .i64), (.sl (.agg [.bool, (.int .u64), (.int .i64)]) .unk), (.int .i64), (.sl (.agg [.str, .str]) .unk), (.int .i64)])] (.one .bool) (fun x => F.metric_look_rate n x.1)), (87, orcOf [(.agg [.str, (.int .i64), (.sl (.agg [.bool, (.int .u64), (.int .i64)]) .unk), (.int .i64), (.sl (.agg [.str, .str]) .unk), (.int .i64)])] (.one .bool) (fun x => F.metric_look_tags n x.1)), (88, orcOf [(.agg [.str, (.int .i64), (.sl (.agg [.bool, (.int .u64), (.int .i64)]) .unk), (.int .i64), (.sl (.agg [.str, .str]) .unk), (.int .i64)])] (.one .bool) (fun x => F.metric_look_time n x.1))] [(49, 3, [F.metric_Check.L3.li X n])] [] [] []
theorem F.metric_Check.L3.ok (X : Type) (n : Nat) : LoopOK (cx49 X n) 49 Tryz.f49.ntmps (loopNo Tryz.f49 0) (F.metric_Check.L3.li X n) :=
  ⟨F.metric_Check.L3.f n, n, fun _ _ => rfl, fun _ _ => rfl, fun m ks s => by kernel_rfl⟩
theorem cx49_ok (X : Type) (n : Nat) : CxOK Tryz.prog SW (cx49 X n) := mkCx_ok mixed (tabOK tab_ok) ⟨⟨Tryz.func49, by decide⟩, trivial⟩ ⟨orcOf_ok (ok83 n),
  orcOf_ok (ok84 n),
  orcOf_ok (ok85 n),
  orcOf_ok (ok86 n),
  orcOf_ok (ok87 n),
  orcOf_ok (ok88 n), trivial⟩ ⟨okC_mk (fun _ => rfl) (by kernel_rfl) (castP (by kernel_rfl) (show (LoopOK (cx49 X n) 49 Tryz.f49.ntmps (loopNo Tryz.f49 0) (F.metric_Check.L3.li X n) ∧ True) ∧ True from ⟨⟨F.metric_Check.L3.ok X n, trivial⟩, trivial⟩)) (castP (by kernel_rfl) (show True from trivial)), trivial⟩ trivial
theorem ok49 (n : Nat) : FnOK Tryz.prog SW 49 [(.agg [.str, (.int .i64), (.sl (.agg [.bool, (.int .u64), (.int .i64)]) .unk), (.int .i64), (.sl (.agg [.str, .str]) .unk), (.int .i64)])] (.one (.int .i64)) (fun x => F.metric_Check n x.1) := fnOK_of WOf.st (cx49_ok _ n) (d := 8) (fun x => by kernel_rfl)
noncomputable def cx94 (X : Type) (n : Nat) : Cx X := mkCx tab.get [(94, Tryz.f94)] [] [] [] [] []
theorem cx94_ok (X : Type) (n : Nat) : CxOK Tryz.prog SW (cx94 X n) := mkCx_ok mixed (tabOK tab_ok) ⟨⟨Tryz.func94, by decide⟩, trivial⟩ trivial ⟨okC_mk (fun _ => rfl) (by kernel_rfl) (castP (by kernel_rfl) (show True from trivial)) (castP (by kernel_rfl) (show True from trivial)), trivial⟩ trivial
theorem ok94 (n : Nat) : FnOK Tryz.prog SW 94 [(.sl (.agg [.str, .str]) .unk)] (.one (.sl (.agg [.str, .str]) .unk)) (fun x => F.slices_Clip_api_Tag_api_Tag n x.1) := fnOK_of WOf.st (cx94_ok _ n) (d := 8) (fun x => by kernel_rfl)
def F.tag_Normal.L5.head : Shape := ⟨[(3, (.ms 2 (.agg [.str, .str]))), (4, (.int .i64)), (11, (.ms 2 (.agg [.str, .str]))), (12, (.int .i64)), (13, (.int .i64))], [[(.row (.agg [.str, .str]))], [(.row (.agg [.str, .str]))], [(.row (.agg [.str, .str]))]], [], [], [], 3, 0, 0⟩
def F.tag_Normal.L5.e0 : Shape := ⟨[(3, (.ms 2 (.agg [.str, .str]))), (4, (.int .i64))], [[(.row (.agg [.str, .str]))], [(.row (.agg [.str, .str]))], [(.row (.agg [.str, .str]))]], [], [], [], 3, 0, 0⟩
noncomputable def F.tag_Normal.L5.f {X : Type} (n m : Nat) (ks : Ks X) (s : F.tag_Normal.L5.head.den) : Option X := F.tag_Normal.L5 n (fun q3 q4 qb0_0 qb1_0 qb2_0 => ks.ex 0 (F.tag_Normal.L5.e0.e ((q3, q4, ()), ((qb0_0, ()), (qb1_0, ()), (qb2_0, ()), ()), (), ())) (F.tag_Normal.L5.e0.h ((q3, q4, ()), ((qb0_0, ()), (qb1_0, ()), (qb2_0, ()), ()), (), ()))) m s.1.1 s.1.2.1 s.1.2.2.1 s.1.2.2.2.1 s.1.2.2.2.2.1 s.2.1.1.1 s.2.1.2.1.1 s.2.1.2.2.1.1
noncomputable def F.tag_Normal.L5.li (X : Type) (n : Nat) : LoopI X := ⟨8, ⟨0, 0, 0⟩, F.tag_Normal.L5.head, [(0, F.tag_Normal.L5.e0)], none, F.tag_Normal.L5.f n n⟩
noncomputable def cx50 (X : Type) (n : Nat) : Cx X := mkCx tab.get [(50, Tryz.f50), (89, Tryz.f89)] [(94, orcOf [(.sl (.agg [.str, .str]) .unk)] (.one (.sl (.agg [.str, .str]) .unk)) (fun x => F.slices_Clip_api_Tag_api_Tag n x.1))] [(50, 5, [F.tag_Normal.L5.li X n])] [] [] [] [] [(33, (.agg [.str, .str]))] [(90, .sort (.agg [.str, .str]) 91 sortTags)] none [89]
theorem F.tag_Normal.L5.ok (X : Type) (n : Nat) : LoopOK (cx50 X n) 50 Tryz.f50.ntmps (loopNo Tryz.f50 0) (F.tag_Normal.L5.li X n) :=
  ⟨F.tag_Normal.L5.f n, n, fun _ _ => rfl, fun _ _ => rfl, fun m ks s => by kernel_rfl⟩
theorem cx50_ok (X : Type) (n : Nat) : CxOK Tryz.prog SW (cx50 X n) := mkCx_ok mixed (tabOK tab_ok) ⟨⟨Tryz.func50, by decide⟩,
  ⟨Tryz.func89, by decide⟩, trivial⟩ ⟨orcOf_ok (ok94 n), trivial⟩ ⟨okC_mk (fun _ => rfl) (by kernel_rfl) (castP (by kernel_rfl) (show (LoopOK (cx50 X n) 50 Tryz.f50.ntmps (loopNo Tryz.f50 0) (F.tag_Normal.L5.li X n) ∧ True) ∧ True from ⟨⟨F.tag_Normal.L5.ok X n, trivial⟩, trivial⟩)) (castP (by kernel_rfl) (show True from trivial)),
  okC_mk (fun _ => rfl) (by kernel_rfl) (castP (by kernel_rfl) (show True from trivial)) (castP (by kernel_rfl) (show True from trivial)), trivial⟩ trivial ⟨sortTags_ok.mono (fun _ _ => trivial), trivial⟩
theorem ok50 (n : Nat) : FnOK Tryz.prog SW 50 [(.sl (.agg [.str, .str]) .unk)] (.one (.sl (.agg [.str, .str]) .unk)) (fun x => F.tag_Normal n x.1) := fnOK_of WOf.st (cx50_ok _ n) (d := 8) (fun x => by kernel_rfl)
def F.metric_Normal.L3.head : Shape := ⟨[(1, (.const (.ref 0 0))), (2, (.const (.ref 1 0))), (4, (.ms 3 (.agg [.bool, (.int .u64), (.int .i64)]))), (13, (.ms 3 (.agg [.bool, (.int .u64), (.int .i64)]))), (14, (.int .i64)), (15, (.int .i64))], [[.str, (.int .i64), (.sl (.agg [.bool, (.int .u64), (.int .i64)]) .unk), (.int .i64), (.sl (.agg [.str, .str]) .unk), (.int .i64)], [.str, (.int .i64), (.sl (.agg [.bool, (.int .u64), (.int .i64)]) (.own 0)), (.int .i64), (.sl (.agg [.str, .str]) (.own 1)), (.int .i64)], [(.row (.agg [.bool, (.int .u64), (.int .i64)]))], [(.row (.agg [.bool, (.int .u64), (.int .i64)]))]], [true, true], [], [], 4, 0, 0⟩
def F.metric_Normal.L3.e0 : Shape := ⟨[(1, (.const (.ref 0 0))), (2, (.const (.ref 1 0))), (4, (.ms 3 (.agg [.bool, (.int .u64), (.int .i64)])))], [[.str, (.int .i64), (.sl (.agg [.bool, (.int .u64), (.int .i64)]) .unk), (.int .i64), (.sl (.agg [.str, .str]) .unk), (.int .i64)], [.str, (.int .i64), (.sl (.agg [.bool, (.int .u64), (.int .i64)]) (.own 0)), (.int .i64), (.sl (.agg [.str, .str]) (.own 1)), (.int .i64)], [(.row (.agg [.bool, (.int .u64), (.int .i64)]))], [(.row (.agg [.bool, (.int .u64), (.int .i64)]))]], [true, true], [], [], 4, 0, 0⟩
noncomputable def F.metric_Normal.L3.f {X : Type} (n m : Nat) (ks : Ks X) (s : F.metric_Normal.L3.head.den) : Option X := F.metric_Normal.L3 n (fun q4 qb0_0 qb0_1 qb0_2 qb0_3 qb0_4 qb0_5 qb1_0 qb1_1 qb1_2 qb1_3 qb1_4 qb1_5 qb2_0 qb3_0 qk0 qk1 => ks.ex 0 (F.metric_Normal.L3.e0.e (((), (), q4, ()), ((qb0_0, qb0_1, qb0_2, qb0_3, qb0_4, qb0_5, ()), (qb1_0, qb1_1, qb1_2, qb1_3, qb1_4, qb1_5, ()), (qb2_0, ()), (qb3_0, ()), ()), (qk0, qk1, ()), ())) (F.metric_Normal.L3.e0.h (((), (), q4, ()), ((qb0_0, qb0_1, qb0_2, qb0_3, qb0_4, qb0_5, ()), (qb1_0, qb1_1, qb1_2, qb1_3, qb1_4, qb1_5, ()), (qb2_0, ()), (qb3_0, ()), ()), (qk0, qk1, ()), ()))) m s.1.2.2.1 s.1.2.2.2.1 s.1.2.2.2.2.1 s.1.2.2.2.2.2.1 s.2.1.1.1 s.2.1.1.2.1 s.2.1.1.2.2.1 s.2.1.1.2.2.2.1 s.2.1.1.2.2.2.2.1 s.2.1.1.2.2.2.2.2.1 s.2.1.2.1.1 s.2.1.2.1.2.1 s.2.1.2.1.2.2.1 s.2.1.2.1.2.2.2.1 s.2.1.2.1.2.2.2.2.1 s.2.1.2.1.2.2.2.2.2.1 s.2.1.2.2.1.1 s.2.1.2.2.2.1.1 s.2.2.1.1 s.2.2.1.2.1
noncomputable def F.metric_Normal.L3.li (X : Type) (n : Nat) : LoopI X := ⟨8, ⟨0, 0, 0⟩, F.metric_Normal.L3.head, [(0, F.metric_Normal.L3.e0)], none, F.metric_Normal.L3.f n n⟩
noncomputable def cx21 (X : Type) (n : Nat) : Cx X := mkCx tab.get [(21, Tryz.f21), (47, Tryz.f47)] [(48, orcOf [(.agg [.bool, (.int .u64), (.int .i64)])] (.many [(.agg [.bool, (.int .u64), (.int .i64)]), (.int .i64)]) (fun x => F.dec_Normal n x.1)), (49, orcOf [(.agg [.str, (.int .i64), (.sl (.agg [.bool, (.int .u64), (.int .i64)]) .unk), (.int .i64), (.sl (.agg [.str, .str]) .unk), (.int .i64)])] (.one (.int .i64)) (fun x => F.metric_Check n x.1)), (50, orcOf [(.sl (.agg [.str, .str]) .unk)] (.one (.sl (.agg [.str, .str]) .unk)) (fun x => F.tag_Normal n x.1))] [(21, 3, [F.metric_Normal.L3.li X n])] [] [] [] [] [(32, (.agg [.bool, (.int .u64), (.int .i64)]))] [] none [47]
theorem F.metric_Normal.L3.ok (X : Type) (n : Nat) : LoopOK (cx21 X n) 21 Tryz.f21.ntmps (loopNo Tryz.f21 0) (F.metric_Normal.L3.li X n) :=
  ⟨F.metric_Normal.L3.f n, n, fun _ _ => rfl, fun _ _ => rfl, fun m ks s => by kernel_rfl⟩
theorem cx21_ok (X : Type) (n : Nat) : CxOK Tryz.prog SW (cx21 X n) := mkCx_ok mixed (tabOK tab_ok) ⟨⟨Tryz.func21, by decide⟩,
  ⟨Tryz.func47, by decide⟩, trivial⟩ ⟨orcOf_ok (ok48 n),
  orcOf_ok (ok49 n),
  orcOf_ok (ok50 n), trivial⟩ ⟨okC_mk (fun _ => rfl) (by kernel_rfl) (castP (by kernel_rfl) (show (LoopOK (cx21 X n) 21 Tryz.f21.ntmps (loopNo Tryz.f21 0) (F.metric_Normal.L3.li X n) ∧ True) ∧ True from ⟨⟨F.metric_Normal.L3.ok X n, trivial⟩, trivial⟩)) (castP (by kernel_rfl) (show True from trivial)),
  okC_mk (fun _ => rfl) (by kernel_rfl) (castP (by kernel_rfl) (show True from trivial)) (castP (by kernel_rfl) (show True from trivial)), trivial⟩ trivial
theorem ok21 (n : Nat) : FnOK Tryz.prog SW 21 [(.agg [.str, (.int .i64), (.sl (.agg [.bool, (.int .u64), (.int .i64)]) .unk), (.int .i64), (.sl (.agg [.str, .str]) .unk), (.int .i64)])] (.many [(.agg [.str, (.int .i64), (.sl (.agg [.bool, (.int .u64), (.int .i64)]) .unk), (.int .i64), (.sl (.agg [.str, .str]) .unk), (.int .i64)]), (.int .i64)]) (fun x => F.metric_Normal n x.1) := fnOK_of WOf.st (cx21_ok _ n) (d := 8) (fun x => by kernel_rfl)
theorem ok56 (n : Nat) : FnOK Tryz.prog SW 56 [(.int .u64), (.int .i64)] (.one .str) (fun x => O.futoa n x.1 x.2.1) := futoa_ok (enters Tryz.func56 (by kernel_rfl) (by decide)) (fun k hk w hw => (Tryz.strconv_FormatUint_10 k hk w (swTab hw)).mono fun e w' ⟨a, q, os, b⟩ => ⟨a, b ▸ below_grow q os⟩) n
theorem ok57 (n : Nat) : FnOK Tryz.prog SW 57 [.str, (.int .i64)] (.one .str) (fun x => O.repeat' n x.1 x.2.1) := repeat_ok (enters Tryz.func57 (by kernel_rfl) (by decide)) Tryz.strings_Repeat n
noncomputable def cx28 (X : Type) (n : Nat) : Cx X := mkCx tab.get [(28, Tryz.f28)] [(55, orcOf [(.agg [.bool, (.int .u64), (.int .i64)])] (.one (.int .i64)) (fun x => F.dec_Check n x.1)), (56, orcOf [(.int .u64), (.int .i64)] (.one .str) (fun x => O.futoa n x.1 x.2.1)), (57, orcOf [.str, (.int .i64)] (.one .str) (fun x => O.repeat' n x.1 x.2.1))] [] [] [] []
theorem cx28_ok (X : Type) (n : Nat) : CxOK Tryz.prog SW (cx28 X n) := mkCx_ok mixed (tabOK tab_ok) ⟨⟨Tryz.func28, by decide⟩, trivial⟩ ⟨orcOf_ok (ok55 n),
  orcOf_ok (ok56 n),
  orcOf_ok (ok57 n), trivial⟩ ⟨okC_mk (fun _ => rfl) (by kernel_rfl) (castP (by kernel_rfl) (show True from trivial)) (castP (by kernel_rfl) (show True from trivial)), trivial⟩ trivial
theorem ok28 (n : Nat) : FnOK Tryz.prog SW 28 [(.agg [.bool, (.int .u64), (.int .i64)])] (.many [.str, (.int .i64)]) (fun x => F.dec_Text n x.1) := fnOK_of WOf.st (cx28_ok _ n) (d := 8) (fun x => by kernel_rfl)
theorem ok58 (n : Nat) : FnOK Tryz.prog SW 58 [(.int .i64)] (.one .str) (fun x => O.itoa n x.1) := itoa_ok (enters Tryz.func58 (by kernel_rfl) (by decide)) (fun k h0 h1 w hw => (Tryz.strconv_Itoa k h0 h1 w (swTab hw)).mono fun e w' ⟨a, q, os, b⟩ => ⟨a, b ▸ below_grow q os⟩) n
theorem ok59 (n : Nat) : FnOK Tryz.prog SW 59 [.str, .str] (.one .str) (fun x => O.trimR n x.1 x.2.1) := trimR_ok (enters Tryz.func59 (by kernel_rfl) (by decide)) Tryz.strings_TrimRight_one n
noncomputable def cx29 (X : Type) (n : Nat) : Cx X := mkCx tab.get [(29, Tryz.f29)] [(58, orcOf [(.int .i64)] (.one .str) (fun x => O.itoa n x.1)), (59, orcOf [.str, .str] (.one .str) (fun x => O.trimR n x.1 x.2.1))] [] [] [] []
theorem cx29_ok (X : Type) (n : Nat) : CxOK Tryz.prog SW (cx29 X n) := mkCx_ok mixed (tabOK tab_ok) ⟨⟨Tryz.func29, by decide⟩, trivial⟩ ⟨orcOf_ok (ok58 n),
  orcOf_ok (ok59 n), trivial⟩ ⟨okC_mk (fun _ => rfl) (by kernel_rfl) (castP (by kernel_rfl) (show True from trivial)) (castP (by kernel_rfl) (show True from trivial)), trivial⟩ trivial
theorem ok29 (n : Nat) : FnOK Tryz.prog SW 29 [(.int .i64)] (.many [.str, (.int .i64)]) (fun x => F.num_RateText n x.1) := fnOK_of WOf.st (cx29_ok _ n) (d := 8) (fun x => by kernel_rfl)
theorem ok61 (n : Nat) : FnOK Tryz.prog SW 61 [(.sl .str .unk), .str] (.one .str) (fun x => O.join n x.1 x.2.1) := join_ok (enters Tryz.func61 (by kernel_rfl) (by decide)) Tryz.strings_Join_none Tryz.strings_Join n
def F.tag_Text.L3.head : Shape := ⟨[(5, (.sl .str (.own 0))), (10, (.sl (.agg [.str, .str]) .unk)), (11, (.int .i64)), (12, (.int .i64))], [], [true], [], [], 0, 0, 0⟩
def F.tag_Text.L3.e0 : Shape := ⟨[(5, (.sl .str (.own 0)))], [], [true], [], [], 0, 0, 0⟩
def F.tag_Text.L3.er : Shape := ⟨[(2, .str), (3, (.int .i64)), (4, (.int .i64))], [], [], [], [], 0, 0, 0⟩
noncomputable def F.tag_Text.L3.f {X : Type} (n m : Nat) (ks : Ks X) (s : F.tag_Text.L3.head.den) : Option X := F.tag_Text.L3 n (fun q5 qk0 => ks.ex 0 (F.tag_Text.L3.e0.e ((q5, ()), (), (qk0, ()), ())) (F.tag_Text.L3.e0.h ((q5, ()), (), (qk0, ()), ()))) (fun q2 q3 q4 => ks.ret (F.tag_Text.L3.er.e ((q2, q3, q4, ()), (), (), ())) (F.tag_Text.L3.er.h ((q2, q3, q4, ()), (), (), ()))) m s.1.1 s.1.2.1 s.1.2.2.1 s.1.2.2.2.1 s.2.2.1.1
noncomputable def F.tag_Text.L3.li (X : Type) (n : Nat) : LoopI X := ⟨8, ⟨0, 0, 0⟩, F.tag_Text.L3.head, [(0, F.tag_Text.L3.e0)], some F.tag_Text.L3.er, F.tag_Text.L3.f n n⟩
noncomputable def cx30 (X : Type) (n : Nat) : Cx X := mkCx tab.get [(30, Tryz.f30)] [(60, orcOf [(.agg [.str, .str])] (.one (.int .i64)) (fun x => F.tag_Check n x.1)), (61, orcOf [(.sl .str .unk), .str] (.one .str) (fun x => O.join n x.1 x.2.1))] [(30, 3, [F.tag_Text.L3.li X n])] [] [] []
theorem F.tag_Text.L3.ok (X : Type) (n : Nat) : LoopOK (cx30 X n) 30 Tryz.f30.ntmps (loopNo Tryz.f30 0) (F.tag_Text.L3.li X n) :=
  ⟨F.tag_Text.L3.f n, n, fun _ _ => rfl, fun _ _ => rfl, fun m ks s => by kernel_rfl⟩
theorem cx30_ok (X : Type) (n : Nat) : CxOK Tryz.prog SW (cx30 X n) := mkCx_ok mixed (tabOK tab_ok) ⟨⟨Tryz.func30, by decide⟩, trivial⟩ ⟨orcOf_ok (ok60 n),
  orcOf_ok (ok61 n), trivial⟩ ⟨okC_mk (fun _ => rfl) (by kernel_rfl) (castP (by kernel_rfl) (show (LoopOK (cx30 X n) 30 Tryz.f30.ntmps (loopNo Tryz.f30 0) (F.tag_Text.L3.li X n) ∧ True) ∧ True from ⟨⟨F.tag_Text.L3.ok X n, trivial⟩, trivial⟩)) (castP (by kernel_rfl) (show True from trivial)), trivial⟩ trivial
theorem ok30 (n : Nat) : FnOK Tryz.prog SW 30 [(.sl (.agg [.str, .str]) .unk)] (.many [.str, (.int .i64), (.int .i64)]) (fun x => F.tag_Text n x.1) := fnOK_of WOf.st (cx30_ok _ n) (d := 8) (fun x => by kernel_rfl)
noncomputable def cx31 (X : Type) (n : Nat) : Cx X := mkCx tab.get [(31, Tryz.f31)] [(58, orcOf [(.int .i64)] (.one .str) (fun x => O.itoa n x.1))] [] [] [] []
theorem cx31_ok (X : Type) (n : Nat) : CxOK Tryz.prog SW (cx31 X n) := mkCx_ok mixed (tabOK tab_ok) ⟨⟨Tryz.func31, by decide⟩, trivial⟩ ⟨orcOf_ok (ok58 n), trivial⟩ ⟨okC_mk (fun _ => rfl) (by kernel_rfl) (castP (by kernel_rfl) (show True from trivial)) (castP (by kernel_rfl) (show True from trivial)), trivial⟩ trivial
theorem ok31 (n : Nat) : FnOK Tryz.prog SW 31 [(.int .i64)] (.many [.str, (.int .i64)]) (fun x => F.num_Text n x.1) := fnOK_of WOf.st (cx31_ok _ n) (d := 8) (fun x => by kernel_rfl)
def F.dog_Line.L9.head : Shape := ⟨[(1, (.const (.ref 0 0))), (5, (.const (.ref 2 0))), (6, (.const (.ref 3 0))), (7, (.const (.fn 26 [] [(.ref 3 0), (.ref 2 0)]))), (34, (.sl (.agg [.bool, (.int .u64), (.int .i64)]) .unk)), (35, (.int .i64)), (36, (.int .i64))], [[.str, (.int .i64), (.sl (.agg [.bool, (.int .u64), (.int .i64)]) .unk), (.int .i64), (.sl (.agg [.str, .str]) .unk), (.int .i64)], [(.row (.u8t 5))], [(.const (.bcell 2 59)), (.ms 1 (.u8t 5))], [(.int .i64)]], [], [], [], 4, 0, 0⟩
def F.dog_Line.L9.e0 : Shape := ⟨[(1, (.const (.ref 0 0))), (5, (.const (.ref 2 0))), (6, (.const (.ref 3 0))), (7, (.const (.fn 26 [] [(.ref 3 0), (.ref 2 0)])))], [[.str, (.int .i64), (.sl (.agg [.bool, (.int .u64), (.int .i64)]) .unk), (.int .i64), (.sl (.agg [.str, .str]) .unk), (.int .i64)], [(.row (.u8t 5))], [(.const (.bcell 2 59)), (.ms 1 (.u8t 5))], [(.int .i64)]], [], [], [], 4, 0, 0⟩
noncomputable def F.dog_Line.L9.f {X : Type} (n m : Nat) (ks : Ks X) (s : F.dog_Line.L9.head.den) : Option X := F.dog_Line.L9 n (fun qb0_0 qb0_1 qb0_2 qb0_3 qb0_4 qb0_5 qb1_0 qb2_1 qb3_0 => ks.ex 0 (F.dog_Line.L9.e0.e (((), (), (), (), ()), ((qb0_0, qb0_1, qb0_2, qb0_3, qb0_4, qb0_5, ()), (qb1_0, ()), ((), qb2_1, ()), (qb3_0, ()), ()), (), ())) (F.dog_Line.L9.e0.h (((), (), (), (), ()), ((qb0_0, qb0_1, qb0_2, qb0_3, qb0_4, qb0_5, ()), (qb1_0, ()), ((), qb2_1, ()), (qb3_0, ()), ()), (), ()))) m s.1.2.2.2.2.1 s.1.2.2.2.2.2.1 s.1.2.2.2.2.2.2.1 s.2.1.1.1 s.2.1.1.2.1 s.2.1.1.2.2.1 s.2.1.1.2.2.2.1 s.2.1.1.2.2.2.2.1 s.2.1.1.2.2.2.2.2.1 s.2.1.2.1.1 s.2.1.2.2.1.2.1 s.2.1.2.2.2.1.1
noncomputable def F.dog_Line.L9.li (X : Type) (n : Nat) : LoopI X := ⟨8, ⟨0, 0, 0⟩, F.dog_Line.L9.head, [(0, F.dog_Line.L9.e0)], none, F.dog_Line.L9.f n n⟩
def F.dog_Line.C25.head : Shape := ⟨[(5, (.const (.ref 2 0))), (6, (.const (.ref 3 0)))], [[.str, (.int .i64), (.sl (.agg [.bool, (.int .u64), (.int .i64)]) .unk), (.int .i64), (.sl (.agg [.str, .str]) .unk), (.int .i64)], [(.row (.u8t 5))], [(.const (.bcell 2 59)), (.ms 1 (.u8t 5))], [(.int .i64)]], [], [], [], 4, 0, 0⟩
def F.dog_Line.C25.er : Shape := ⟨[(2, .str), (3, (.int .i64))], [], [], [], [], 0, 0, 0⟩
noncomputable def F.dog_Line.C25.f {X : Type} (n : Nat) (ks : Ks X) (s : F.dog_Line.C25.head.den) : Option X := F.dog_Line.C25 n (fun q2 q3 => ks.ret (F.dog_Line.C25.er.e ((q2, q3, ()), (), (), ())) (F.dog_Line.C25.er.h ((q2, q3, ()), (), (), ()))) s.2.1.1.1 s.2.1.1.2.1 s.2.1.1.2.2.1 s.2.1.1.2.2.2.1 s.2.1.1.2.2.2.2.1 s.2.1.1.2.2.2.2.2.1 s.2.1.2.1.1 s.2.1.2.2.1.2.1 s.2.1.2.2.2.1.1
noncomputable def F.dog_Line.C25.ci (X : Type) (n : Nat) : CutI X := ⟨8, ⟨0, 0, 0⟩, F.dog_Line.C25.head, none, [], some F.dog_Line.C25.er, F.dog_Line.C25.f n⟩
def F.dog_Line.C22.head : Shape := ⟨[(1, (.const (.ref 0 0))), (5, (.const (.ref 2 0))), (6, (.const (.ref 3 0))), (7, (.const (.fn 26 [] [(.ref 3 0), (.ref 2 0)])))], [[.str, (.int .i64), (.sl (.agg [.bool, (.int .u64), (.int .i64)]) .unk), (.int .i64), (.sl (.agg [.str, .str]) .unk), (.int .i64)], [(.row (.u8t 5))], [(.const (.bcell 2 59)), (.ms 1 (.u8t 5))], [(.int .i64)]], [], [], [], 4, 0, 0⟩
def F.dog_Line.C22.er : Shape := ⟨[(2, .str), (3, (.int .i64))], [], [], [], [], 0, 0, 0⟩
noncomputable def F.dog_Line.C22.f {X : Type} (n : Nat) (ks : Ks X) (s : F.dog_Line.C22.head.den) : Option X := F.dog_Line.C22 n (fun q2 q3 => ks.ret (F.dog_Line.C22.er.e ((q2, q3, ()), (), (), ())) (F.dog_Line.C22.er.h ((q2, q3, ()), (), (), ()))) s.2.1.1.1 s.2.1.1.2.1 s.2.1.1.2.2.1 s.2.1.1.2.2.2.1 s.2.1.1.2.2.2.2.1 s.2.1.1.2.2.2.2.2.1 s.2.1.2.1.1 s.2.1.2.2.1.2.1 s.2.1.2.2.2.1.1
noncomputable def F.dog_Line.C22.ci (X : Type) (n : Nat) : CutI X := ⟨8, ⟨0, 0, 0⟩, F.dog_Line.C22.head, none, [], some F.dog_Line.C22.er, F.dog_Line.C22.f n⟩
def F.dog_Line.C19.head : Shape := ⟨[(1, (.const (.ref 0 0))), (5, (.const (.ref 2 0))), (6, (.const (.ref 3 0))), (7, (.const (.fn 26 [] [(.ref 3 0), (.ref 2 0)])))], [[.str, (.int .i64), (.sl (.agg [.bool, (.int .u64), (.int .i64)]) .unk), (.int .i64), (.sl (.agg [.str, .str]) .unk), (.int .i64)], [(.row (.u8t 5))], [(.const (.bcell 2 59)), (.ms 1 (.u8t 5))], [(.int .i64)]], [], [], [], 4, 0, 0⟩
def F.dog_Line.C19.er : Shape := ⟨[(2, .str), (3, (.int .i64))], [], [], [], [], 0, 0, 0⟩
noncomputable def F.dog_Line.C19.f {X : Type} (n : Nat) (ks : Ks X) (s : F.dog_Line.C19.head.den) : Option X := F.dog_Line.C19 n (fun q2 q3 => ks.ret (F.dog_Line.C19.er.e ((q2, q3, ()), (), (), ())) (F.dog_Line.C19.er.h ((q2, q3, ()), (), (), ()))) s.2.1.1.1 s.2.1.1.2.1 s.2.1.1.2.2.1 s.2.1.1.2.2.2.1 s.2.1.1.2.2.2.2.1 s.2.1.1.2.2.2.2.2.1 s.2.1.2.1.1 s.2.1.2.2.1.2.1 s.2.1.2.2.2.1.1
noncomputable def F.dog_Line.C19.ci (X : Type) (n : Nat) : CutI X := ⟨8, ⟨0, 0, 0⟩, F.dog_Line.C19.head, none, [], some F.dog_Line.C19.er, F.dog_Line.C19.f n⟩
def F.dog_Line.C16.head : Shape := ⟨[(1, (.const (.ref 0 0))), (5, (.const (.ref 2 0))), (6, (.const (.ref 3 0))), (7, (.const (.fn 26 [] [(.ref 3 0), (.ref 2 0)])))], [[.str, (.int .i64), (.sl (.agg [.bool, (.int .u64), (.int .i64)]) .unk), (.int .i64), (.sl (.agg [.str, .str]) .unk), (.int .i64)], [(.row (.u8t 5))], [(.const (.bcell 2 59)), (.ms 1 (.u8t 5))], [(.int .i64)]], [], [], [], 4, 0, 0⟩
def F.dog_Line.C16.er : Shape := ⟨[(2, .str), (3, (.int .i64))], [], [], [], [], 0, 0, 0⟩
noncomputable def F.dog_Line.C16.f {X : Type} (n : Nat) (ks : Ks X) (s : F.dog_Line.C16.head.den) : Option X := F.dog_Line.C16 n (fun q2 q3 => ks.ret (F.dog_Line.C16.er.e ((q2, q3, ()), (), (), ())) (F.dog_Line.C16.er.h ((q2, q3, ()), (), (), ()))) s.2.1.1.1 s.2.1.1.2.1 s.2.1.1.2.2.1 s.2.1.1.2.2.2.1 s.2.1.1.2.2.2.2.1 s.2.1.1.2.2.2.2.2.1 s.2.1.2.1.1 s.2.1.2.2.1.2.1 s.2.1.2.2.2.1.1
noncomputable def F.dog_Line.C16.ci (X : Type) (n : Nat) : CutI X := ⟨8, ⟨0, 0, 0⟩, F.dog_Line.C16.head, none, [], some F.dog_Line.C16.er, F.dog_Line.C16.f n⟩
noncomputable def cx15 (X : Type) (n : Nat) : Cx X := mkCx tab.get [(15, Tryz.f15), (26, Tryz.f26), (27, Tryz.f27)] [(10, orcOf [(.int .i64)] (.many [.str, (.int .i64)]) (fun x => F.dog_Word n x.1)), (21, orcOf [(.agg [.str, (.int .i64), (.sl (.agg [.bool, (.int .u64), (.int .i64)]) .unk), (.int .i64), (.sl (.agg [.str, .str]) .unk), (.int .i64)])] (.many [(.agg [.str, (.int .i64), (.sl (.agg [.bool, (.int .u64), (.int .i64)]) .unk), (.int .i64), (.sl (.agg [.str, .str]) .unk), (.int .i64)]), (.int .i64)]) (fun x => F.metric_Normal n x.1)), (28, orcOf [(.agg [.bool, (.int .u64), (.int .i64)])] (.many [.str, (.int .i64)]) (fun x => F.dec_Text n x.1)), (29, orcOf [(.int .i64)] (.many [.str, (.int .i64)]) (fun x => F.num_RateText n x.1)), (30, orcOf [(.sl (.agg [.str, .str]) .unk)] (.many [.str, (.int .i64), (.int .i64)]) (fun x => F.tag_Text n x.1)), (31, orcOf [(.int .i64)] (.many [.str, (.int .i64)]) (fun x => F.num_Text n x.1))] [(15, 9, [F.dog_Line.L9.li X n])] [] [] [] [(15, 16, [F.dog_Line.C16.ci X n]), (15, 19, [F.dog_Line.C19.ci X n]), (15, 22, [F.dog_Line.C22.ci X n]), (15, 25, [F.dog_Line.C25.ci X n])] [] [(32, .bstring 59 5), (54, .bcheck 59)] (some (59, 5)) []
theorem F.dog_Line.C25.ok (X : Type) (n : Nat) : CutOK (cx15 X n) 15 Tryz.f15.ntmps (cutNo Tryz.f15 24) (F.dog_Line.C25.ci X n) :=
  fun ks s => by kernel_rfl
theorem F.dog_Line.C22.ok (X : Type) (n : Nat) : CutOK (cx15 X n) 15 Tryz.f15.ntmps (cutNo Tryz.f15 21) (F.dog_Line.C22.ci X n) :=
  fun ks s => by kernel_rfl
theorem F.dog_Line.C19.ok (X : Type) (n : Nat) : CutOK (cx15 X n) 15 Tryz.f15.ntmps (cutNo Tryz.f15 18) (F.dog_Line.C19.ci X n) :=
  fun ks s => by kernel_rfl
theorem F.dog_Line.C16.ok (X : Type) (n : Nat) : CutOK (cx15 X n) 15 Tryz.f15.ntmps (cutNo Tryz.f15 17) (F.dog_Line.C16.ci X n) :=
  fun ks s => by kernel_rfl
theorem F.dog_Line.L9.ok (X : Type) (n : Nat) : LoopOK (cx15 X n) 15 Tryz.f15.ntmps (loopNo Tryz.f15 0) (F.dog_Line.L9.li X n) :=
  ⟨F.dog_Line.L9.f n, n, fun _ _ => rfl, fun _ _ => rfl, fun m ks s => by kernel_rfl⟩
theorem cx15_ok (X : Type) (n : Nat) : CxOK Tryz.prog SW (cx15 X n) := mkCx_ok mixed (tabOK tab_ok) ⟨⟨Tryz.func15, by decide⟩,
  ⟨Tryz.func26, by decide⟩,
  ⟨Tryz.func27, by decide⟩, trivial⟩ ⟨orcOf_ok (ok10 n),
  orcOf_ok (ok21 n),
  orcOf_ok (ok28 n),
  orcOf_ok (ok29 n),
  orcOf_ok (ok30 n),
  orcOf_ok (ok31 n), trivial⟩ ⟨okC_mkc (castP (by kernel_rfl) (show (True) ∧ (True) ∧ (True) ∧ (True) ∧ (True) ∧ (True) ∧ (True) ∧ (True) ∧ (True) ∧ (True) ∧ (True) ∧ (True) ∧ (True) ∧ (True) ∧ (True) ∧ (True) ∧ (True) ∧ (CutOK (cx15 X n) 15 Tryz.f15.ntmps (cutNo Tryz.f15 17) (F.dog_Line.C16.ci X n) ∧ True) ∧ (CutOK (cx15 X n) 15 Tryz.f15.ntmps (cutNo Tryz.f15 18) (F.dog_Line.C19.ci X n) ∧ True) ∧ (True) ∧ (True) ∧ (CutOK (cx15 X n) 15 Tryz.f15.ntmps (cutNo Tryz.f15 21) (F.dog_Line.C22.ci X n) ∧ True) ∧ (True) ∧ (True) ∧ (CutOK (cx15 X n) 15 Tryz.f15.ntmps (cutNo Tryz.f15 24) (F.dog_Line.C25.ci X n) ∧ True) ∧ (True) ∧ (True) ∧ (True) ∧ (True) ∧ (True) ∧ (True) ∧ True from ⟨trivial, trivial, trivial, trivial, trivial, trivial, trivial, trivial, trivial, trivial, trivial, trivial, trivial, trivial, trivial, trivial, trivial, ⟨F.dog_Line.C16.ok X n, trivial⟩, ⟨F.dog_Line.C19.ok X n, trivial⟩, trivial, trivial, ⟨F.dog_Line.C22.ok X n, trivial⟩, trivial, trivial, ⟨F.dog_Line.C25.ok X n, trivial⟩, trivial, trivial, trivial, trivial, trivial, trivial, trivial⟩)) (by kernel_rfl) (castP (by kernel_rfl) (show (LoopOK (cx15 X n) 15 Tryz.f15.ntmps (loopNo Tryz.f15 0) (F.dog_Line.L9.li X n) ∧ True) ∧ True from ⟨⟨F.dog_Line.L9.ok X n, trivial⟩, trivial⟩)) (castP (by kernel_rfl) (show True from trivial)),
  okC_mk (fun _ => rfl) (by kernel_rfl) (castP (by kernel_rfl) (show True from trivial)) (castP (by kernel_rfl) (show True from trivial)),
  okC_mk (fun _ => rfl) (by kernel_rfl) (castP (by kernel_rfl) (show True from trivial)) (castP (by kernel_rfl) (show True from trivial)), trivial⟩ trivial ⟨bString_ok.mono (fun _ _ => trivial),
  copyCheck_ok.mono (fun _ _ => trivial), trivial⟩
theorem ok15 (n : Nat) : FnOK Tryz.prog SW 15 [(.agg [.str, (.int .i64), (.sl (.agg [.bool, (.int .u64), (.int .i64)]) .unk), (.int .i64), (.sl (.agg [.str, .str]) .unk), (.int .i64)])] (.many [.str, (.int .i64)]) (fun x => F.dog_Line n x.1) := fnOK_of WOf.st (cx15_ok _ n) (d := 8) (fun x => by kernel_rfl)
def F.dog_Kind.L2.head : Shape := ⟨[(0, .str), (6, (.agg [.str, .str, .str, .str, .str, .str])), (7, (.int .i64))], [], [], [], [], 0, 0, 0⟩
def F.dog_Kind.L2.e0 : Shape := ⟨[], [], [], [], [], 0, 0, 0⟩
def F.dog_Kind.L2.er : Shape := ⟨[(2, (.int .i64)), (3, (.int .i64))], [], [], [], [], 0, 0, 0⟩
noncomputable def F.dog_Kind.L2.f {X : Type} (n m : Nat) (ks : Ks X) (s : F.dog_Kind.L2.head.den) : Option X := F.dog_Kind.L2 n (fun (_ : Unit) => ks.ex 0 (F.dog_Kind.L2.e0.e ((), (), (), ())) (F.dog_Kind.L2.e0.h ((), (), (), ()))) (fun q2 q3 => ks.ret (F.dog_Kind.L2.er.e ((q2, q3, ()), (), (), ())) (F.dog_Kind.L2.er.h ((q2, q3, ()), (), (), ()))) m s.1.1 s.1.2.1 s.1.2.2.1
noncomputable def F.dog_Kind.L2.li (X : Type) (n : Nat) : LoopI X := ⟨8, ⟨0, 0, 0⟩, F.dog_Kind.L2.head, [(0, F.dog_Kind.L2.e0)], some F.dog_Kind.L2.er, F.dog_Kind.L2.f n n⟩
noncomputable def cx11 (X : Type) (n : Nat) : Cx X := mkCx tab.get [(11, Tryz.f11)] [(25, orcOf [] (.one (.agg [.str, .str, .str, .str, .str, .str])) (fun x => F.dog_words n ))] [(11, 2, [F.dog_Kind.L2.li X n])] [] [] []
theorem F.dog_Kind.L2.ok (X : Type) (n : Nat) : LoopOK (cx11 X n) 11 Tryz.f11.ntmps (loopNo Tryz.f11 0) (F.dog_Kind.L2.li X n) :=
  ⟨F.dog_Kind.L2.f n, n, fun _ _ => rfl, fun _ _ => rfl, fun m ks s => by kernel_rfl⟩
theorem cx11_ok (X : Type) (n : Nat) : CxOK Tryz.prog SW (cx11 X n) := mkCx_ok mixed (tabOK tab_ok) ⟨⟨Tryz.func11, by decide⟩, trivial⟩ ⟨orcOf_ok (ok25 n), trivial⟩ ⟨okC_mk (fun _ => rfl) (by kernel_rfl) (castP (by kernel_rfl) (show (LoopOK (cx11 X n) 11 Tryz.f11.ntmps (loopNo Tryz.f11 0) (F.dog_Kind.L2.li X n) ∧ True) ∧ True from ⟨⟨F.dog_Kind.L2.ok X n, trivial⟩, trivial⟩)) (castP (by kernel_rfl) (show True from trivial)), trivial⟩ trivial
theorem ok11 (n : Nat) : FnOK Tryz.prog SW 11 [.str] (.many [(.int .i64), (.int .i64)]) (fun x => F.dog_Kind n x.1) := fnOK_of WOf.st (cx11_ok _ n) (d := 8) (fun x => by kernel_rfl)
theorem ok40 (n : Nat) : FnOK Tryz.prog SW 40 [.str, .str] (.one (.sl .str .unk)) (fun x => O.split1 n x.1 x.2.1) := split1_ok (enters Tryz.func40 (by kernel_rfl) (by decide)) Tryz.strings_Split_one n
theorem ok153 (n : Nat) : FnOK Tryz.prog SW 153 [.str, .str] (.one (.int .i64)) (fun x => O.index1 n x.1 x.2.1) := index1_ok (enters Tryz.func153 (by kernel_rfl) (by decide)) Tryz.stringslite_Index_one n
noncomputable def cx116 (X : Type) (n : Nat) : Cx X := mkCx tab.get [(116, Tryz.f116)] [(153, orcOf [.str, .str] (.one (.int .i64)) (fun x => O.index1 n x.1 x.2.1))] [] [] [] []
theorem cx116_ok (X : Type) (n : Nat) : CxOK Tryz.prog SW (cx116 X n) := mkCx_ok mixed (tabOK tab_ok) ⟨⟨Tryz.func116, by decide⟩, trivial⟩ ⟨orcOf_ok (ok153 n), trivial⟩ ⟨okC_mk (fun _ => rfl) (by kernel_rfl) (castP (by kernel_rfl) (show True from trivial)) (castP (by kernel_rfl) (show True from trivial)), trivial⟩ trivial
theorem ok116 (n : Nat) : FnOK Tryz.prog SW 116 [.str, .str] (.many [.str, .str, .bool]) (fun x => F.stringslite_Cut n x.1 x.2.1) := fnOK_of WOf.st (cx116_ok _ n) (d := 8) (fun x => by kernel_rfl)
noncomputable def cx70 (X : Type) (n : Nat) : Cx X := mkCx tab.get [(70, Tryz.f70)] [(116, orcOf [.str, .str] (.many [.str, .str, .bool]) (fun x => F.stringslite_Cut n x.1 x.2.1))] [] [] [] []
theorem cx70_ok (X : Type) (n : Nat) : CxOK Tryz.prog SW (cx70 X n) := mkCx_ok mixed (tabOK tab_ok) ⟨⟨Tryz.func70, by decide⟩, trivial⟩ ⟨orcOf_ok (ok116 n), trivial⟩ ⟨okC_mk (fun _ => rfl) (by kernel_rfl) (castP (by kernel_rfl) (show True from trivial)) (castP (by kernel_rfl) (show True from trivial)), trivial⟩ trivial
theorem ok70 (n : Nat) : FnOK Tryz.prog SW 70 [.str, .str] (.many [.str, .str, .bool]) (fun x => F.strings_Cut n x.1 x.2.1) := fnOK_of WOf.st (cx70_ok _ n) (d := 8) (fun x => by kernel_rfl)
noncomputable def cx143 (X : Type) (n : Nat) : Cx X := mkCx tab.get [(143, Tryz.f143)] [] [] [] [] []
theorem cx143_ok (X : Type) (n : Nat) : CxOK Tryz.prog SW (cx143 X n) := mkCx_ok mixed (tabOK tab_ok) ⟨⟨Tryz.func143, by decide⟩, trivial⟩ trivial ⟨okC_mk (fun _ => rfl) (by kernel_rfl) (castP (by kernel_rfl) (show True from trivial)) (castP (by kernel_rfl) (show True from trivial)), trivial⟩ trivial
theorem ok143 (n : Nat) : FnOK Tryz.prog SW 143 [.str, .str] (.one .bool) (fun x => F.stringslite_HasPrefix n x.1 x.2.1) := fnOK_of WOf.st (cx143_ok _ n) (d := 8) (fun x => by kernel_rfl)
noncomputable def cx123 (X : Type) (n : Nat) : Cx X := mkCx tab.get [(123, Tryz.f123)] [(143, orcOf [.str, .str] (.one .bool) (fun x => F.stringslite_HasPrefix n x.1 x.2.1))] [] [] [] []
theorem cx123_ok (X : Type) (n : Nat) : CxOK Tryz.prog SW (cx123 X n) := mkCx_ok mixed (tabOK tab_ok) ⟨⟨Tryz.func123, by decide⟩, trivial⟩ ⟨orcOf_ok (ok143 n), trivial⟩ ⟨okC_mk (fun _ => rfl) (by kernel_rfl) (castP (by kernel_rfl) (show True from trivial)) (castP (by kernel_rfl) (show True from trivial)), trivial⟩ trivial
theorem ok123 (n : Nat) : FnOK Tryz.prog SW 123 [.str, .str] (.many [.str, .bool]) (fun x => F.stringslite_CutPrefix n x.1 x.2.1) := fnOK_of WOf.st (cx123_ok _ n) (d := 8) (fun x => by kernel_rfl)
noncomputable def cx77 (X : Type) (n : Nat) : Cx X := mkCx tab.get [(77, Tryz.f77)] [(123, orcOf [.str, .str] (.many [.str, .bool]) (fun x => F.stringslite_CutPrefix n x.1 x.2.1))] [] [] [] []
theorem cx77_ok (X : Type) (n : Nat) : CxOK Tryz.prog SW (cx77 X n) := mkCx_ok mixed (tabOK tab_ok) ⟨⟨Tryz.func77, by decide⟩, trivial⟩ ⟨orcOf_ok (ok123 n), trivial⟩ ⟨okC_mk (fun _ => rfl) (by kernel_rfl) (castP (by kernel_rfl) (show True from trivial)) (castP (by kernel_rfl) (show True from trivial)), trivial⟩ trivial
theorem ok77 (n : Nat) : FnOK Tryz.prog SW 77 [.str, .str] (.many [.str, .bool]) (fun x => F.strings_CutPrefix n x.1 x.2.1) := fnOK_of WOf.st (cx77_ok _ n) (d := 8) (fun x => by kernel_rfl)
noncomputable def cx101 (X : Type) (n : Nat) : Cx X := mkCx tab.get [(101, Tryz.f101)] [(143, orcOf [.str, .str] (.one .bool) (fun x => F.stringslite_HasPrefix n x.1 x.2.1))] [] [] [] []
theorem cx101_ok (X : Type) (n : Nat) : CxOK Tryz.prog SW (cx101 X n) := mkCx_ok mixed (tabOK tab_ok) ⟨⟨Tryz.func101, by decide⟩, trivial⟩ ⟨orcOf_ok (ok143 n), trivial⟩ ⟨okC_mk (fun _ => rfl) (by kernel_rfl) (castP (by kernel_rfl) (show True from trivial)) (castP (by kernel_rfl) (show True from trivial)), trivial⟩ trivial
theorem ok101 (n : Nat) : FnOK Tryz.prog SW 101 [.str, .str] (.one .bool) (fun x => F.strings_HasPrefix n x.1 x.2.1) := fnOK_of WOf.st (cx101_ok _ n) (d := 8) (fun x => by kernel_rfl)
def F.dec_look.L2_dec_look_1.head : Shape := ⟨[(0, (.const (.ref 2 0))), (1, (.const (.ref 0 0))), (3, (.int .i64))], [[.str], [(.int .i64), (.int .i64)], [(.int .i64)]], [], [], [], 3, 0, 0⟩
def F.dec_look.L2_dec_look_1.e0 : Shape := ⟨[(0, (.const (.ref 2 0))), (3, (.int .i64))], [[.str], [(.int .i64), (.int .i64)], [(.int .i64)]], [], [], [], 3, 0, 0⟩
noncomputable def F.dec_look.L2_dec_look_1.f {X : Type} (n m : Nat) (ks : Ks X) (s : F.dec_look.L2_dec_look_1.head.den) : Option X := F.dec_look.L2_dec_look_1 n (fun q3 qb0_0 qb1_0 qb1_1 qb2_0 => ks.ex 0 (F.dec_look.L2_dec_look_1.e0.e (((), q3, ()), ((qb0_0, ()), (qb1_0, qb1_1, ()), (qb2_0, ()), ()), (), ())) (F.dec_look.L2_dec_look_1.e0.h (((), q3, ()), ((qb0_0, ()), (qb1_0, qb1_1, ()), (qb2_0, ()), ()), (), ()))) m s.1.2.2.1 s.2.1.1.1 s.2.1.2.1.1 s.2.1.2.1.2.1 s.2.1.2.2.1.1
noncomputable def F.dec_look.L2_dec_look_1.li (X : Type) (n : Nat) : LoopI X := ⟨7, ⟨3, 0, 0⟩, F.dec_look.L2_dec_look_1.head, [(0, F.dec_look.L2_dec_look_1.e0)], none, F.dec_look.L2_dec_look_1.f n n⟩
noncomputable def cx118 (X : Type) (n : Nat) : Cx X := mkCx tab.get [(118, Tryz.f118), (156, Tryz.f156)] [(101, orcOf [.str, .str] (.one .bool) (fun x => F.strings_HasPrefix n x.1 x.2.1))] [(156, 2, [F.dec_look.L2_dec_look_1.li X n])] [] [] []
theorem F.dec_look.L2_dec_look_1.ok (X : Type) (n : Nat) : LoopOK (cx118 X n) 156 Tryz.f156.ntmps (loopNo Tryz.f156 0) (F.dec_look.L2_dec_look_1.li X n) :=
  ⟨F.dec_look.L2_dec_look_1.f n, n, fun _ _ => rfl, fun _ _ => rfl, fun m ks s => by kernel_rfl⟩
theorem cx118_ok (X : Type) (n : Nat) : CxOK Tryz.prog SW (cx118 X n) := mkCx_ok mixed (tabOK tab_ok) ⟨⟨Tryz.func118, by decide⟩,
  ⟨Tryz.func156, by decide⟩, trivial⟩ ⟨orcOf_ok (ok101 n), trivial⟩ ⟨okC_mk (fun _ => rfl) (by kernel_rfl) (castP (by kernel_rfl) (show True from trivial)) (castP (by kernel_rfl) (show True from trivial)),
  okC_mk (fun _ => rfl) (by kernel_rfl) (castP (by kernel_rfl) (show (LoopOK (cx118 X n) 156 Tryz.f156.ntmps (loopNo Tryz.f156 0) (F.dec_look.L2_dec_look_1.li X n) ∧ True) ∧ True from ⟨⟨F.dec_look.L2_dec_look_1.ok X n, trivial⟩, trivial⟩)) (castP (by kernel_rfl) (show True from trivial)), trivial⟩ trivial
theorem ok118 (n : Nat) : FnOK Tryz.prog SW 118 [.str] (.one (.agg [(.int .i64), (.int .i64)])) (fun x => F.dec_look n x.1) := fnOK_of WOf.st (cx118_ok _ n) (d := 8) (fun x => by kernel_rfl)
theorem ok119 (n : Nat) : FnOK Tryz.prog SW 119 [.str, .str] (.one .str) (fun x => O.trimL n x.1 x.2.1) := trimL_ok (enters Tryz.func119 (by kernel_rfl) (by decide)) Tryz.strings_TrimLeft_one n
def F.dec_Parse.L14.head : Shape := ⟨[(2, (.const (.ref 0 0))), (3, (.const (.ref 1 0))), (10, .str), (11, (.const (.ref 3 0))), (66, (.int .i64)), (67, (.int .i64))], [[.bool, (.int .u64), (.int .i64)], [(.int .i64), (.int .i64)], [(.int .i64), (.int .i64)], [.bool, (.int .u64), (.int .i64)]], [], [], [], 4, 0, 0⟩
def F.dec_Parse.L14.e0 : Shape := ⟨[(2, (.const (.ref 0 0))), (3, (.const (.ref 1 0))), (11, (.const (.ref 3 0)))], [[.bool, (.int .u64), (.int .i64)], [(.int .i64), (.int .i64)], [(.int .i64), (.int .i64)], [.bool, (.int .u64), (.int .i64)]], [], [], [], 4, 0, 0⟩
noncomputable def F.dec_Parse.L14.f {X : Type} (n m : Nat) (ks : Ks X) (s : F.dec_Parse.L14.head.den) : Option X := F.dec_Parse.L14 n (fun qb0_0 qb0_1 qb0_2 qb1_0 qb1_1 qb2_0 qb2_1 qb3_0 qb3_1 qb3_2 => ks.ex 0 (F.dec_Parse.L14.e0.e (((), (), (), ()), ((qb0_0, qb0_1, qb0_2, ()), (qb1_0, qb1_1, ()), (qb2_0, qb2_1, ()), (qb3_0, qb3_1, qb3_2, ()), ()), (), ())) (F.dec_Parse.L14.e0.h (((), (), (), ()), ((qb0_0, qb0_1, qb0_2, ()), (qb1_0, qb1_1, ()), (qb2_0, qb2_1, ()), (qb3_0, qb3_1, qb3_2, ()), ()), (), ()))) m s.1.2.2.1 s.1.2.2.2.2.1 s.1.2.2.2.2.2.1 s.2.1.1.1 s.2.1.1.2.1 s.2.1.1.2.2.1 s.2.1.2.1.1 s.2.1.2.1.2.1 s.2.1.2.2.1.1 s.2.1.2.2.1.2.1 s.2.1.2.2.2.1.1 s.2.1.2.2.2.1.2.1 s.2.1.2.2.2.1.2.2.1
noncomputable def F.dec_Parse.L14.li (X : Type) (n : Nat) : LoopI X := ⟨8, ⟨0, 0, 0⟩, F.dec_Parse.L14.head, [(0, F.dec_Parse.L14.e0)], none, F.dec_Parse.L14.f n n⟩
noncomputable def cx73 (X : Type) (n : Nat) : Cx X := mkCx tab.get [(73, Tryz.f73)] [(48, orcOf [(.agg [.bool, (.int .u64), (.int .i64)])] (.many [(.agg [.bool, (.int .u64), (.int .i64)]), (.int .i64)]) (fun x => F.dec_Normal n x.1)), (59, orcOf [.str, .str] (.one .str) (fun x => O.trimR n x.1 x.2.1)), (70, orcOf [.str, .str] (.many [.str, .str, .bool]) (fun x => F.strings_Cut n x.1 x.2.1)), (77, orcOf [.str, .str] (.many [.str, .bool]) (fun x => F.strings_CutPrefix n x.1 x.2.1)), (82, orcOf [(.int .u64), (.int .u64)] (.many [(.int .u64), .bool]) (fun x => F.dec_times n x.1 x.2.1)), (118, orcOf [.str] (.one (.agg [(.int .i64), (.int .i64)])) (fun x => F.dec_look n x.1)), (119, orcOf [.str, .str] (.one .str) (fun x => O.trimL n x.1 x.2.1))] [(73, 14, [F.dec_Parse.L14.li X n])] [] [(73, 3, [(1, 2)])] []
theorem F.dec_Parse.L14.ok (X : Type) (n : Nat) : LoopOK (cx73 X n) 73 Tryz.f73.ntmps (loopNo Tryz.f73 0) (F.dec_Parse.L14.li X n) :=
  ⟨F.dec_Parse.L14.f n, n, fun _ _ => rfl, fun _ _ => rfl, fun m ks s => by kernel_rfl⟩
theorem cx73_ok (X : Type) (n : Nat) : CxOK Tryz.prog SW (cx73 X n) := mkCx_ok mixed (tabOK tab_ok) ⟨⟨Tryz.func73, by decide⟩, trivial⟩ ⟨orcOf_ok (ok48 n),
  orcOf_ok (ok59 n),
  orcOf_ok (ok70 n),
  orcOf_ok (ok77 n),
  orcOf_ok (ok82 n),
  orcOf_ok (ok118 n),
  orcOf_ok (ok119 n), trivial⟩ ⟨okC_mk (fun _ => rfl) (by kernel_rfl) (castP (by kernel_rfl) (show (LoopOK (cx73 X n) 73 Tryz.f73.ntmps (loopNo Tryz.f73 0) (F.dec_Parse.L14.li X n) ∧ True) ∧ True from ⟨⟨F.dec_Parse.L14.ok X n, trivial⟩, trivial⟩)) (castP (by kernel_rfl) (show True from trivial)), trivial⟩ trivial
theorem ok73 (n : Nat) : FnOK Tryz.prog SW 73 [.str] (.many [(.agg [.bool, (.int .u64), (.int .i64)]), (.agg [(.int .i64), (.int .i64)])]) (fun x => F.dec_Parse n x.1) := fnOK_of WOf.st (cx73_ok _ n) (d := 8) (fun x => by kernel_rfl)
noncomputable def cx160 (X : Type) (n : Nat) : Cx X := mkCx tab.get [(160, Tryz.f160)] [] [] [] [] []
theorem cx160_ok (X : Type) (n : Nat) : CxOK Tryz.prog SW (cx160 X n) := mkCx_ok mixed (tabOK tab_ok) ⟨⟨Tryz.func160, by decide⟩, trivial⟩ trivial ⟨okC_mk (fun _ => rfl) (by kernel_rfl) (castP (by kernel_rfl) (show True from trivial)) (castP (by kernel_rfl) (show True from trivial)), trivial⟩ trivial
theorem ok160 (n : Nat) : FnOK Tryz.prog SW 160 [(.int .i64), (.int .i64)] (.many [(.int .i64), (.agg [(.int .i64), (.int .i64)])]) (fun x => F.num_fault n x.1 x.2.1) := fnOK_of WOf.st (cx160_ok _ n) (d := 8) (fun x => by kernel_rfl)
def F.num_Rate.L5.head : Shape := ⟨[(0, .str), (3, (.const (.ref 0 0))), (4, (.const (.ref 1 0))), (16, (.agg [(.int .u8), (.int .u8)])), (17, (.int .i64))], [[(.int .i64), (.int .i64)], [(.int .i64), (.int .i64)]], [], [], [], 2, 0, 0⟩
def F.num_Rate.L5.e0 : Shape := ⟨[(0, .str), (3, (.const (.ref 0 0))), (4, (.const (.ref 1 0)))], [[(.int .i64), (.int .i64)], [(.int .i64), (.int .i64)]], [], [], [], 2, 0, 0⟩
noncomputable def F.num_Rate.L5.f {X : Type} (n m : Nat) (ks : Ks X) (s : F.num_Rate.L5.head.den) : Option X := F.num_Rate.L5 n (fun q0 qb0_0 qb0_1 qb1_0 qb1_1 => ks.ex 0 (F.num_Rate.L5.e0.e ((q0, (), (), ()), ((qb0_0, qb0_1, ()), (qb1_0, qb1_1, ()), ()), (), ())) (F.num_Rate.L5.e0.h ((q0, (), (), ()), ((qb0_0, qb0_1, ()), (qb1_0, qb1_1, ()), ()), (), ()))) m s.1.1 s.1.2.2.2.1 s.1.2.2.2.2.1 s.2.1.1.1 s.2.1.1.2.1 s.2.1.2.1.1 s.2.1.2.1.2.1
noncomputable def F.num_Rate.L5.li (X : Type) (n : Nat) : LoopI X := ⟨8, ⟨0, 0, 0⟩, F.num_Rate.L5.head, [(0, F.num_Rate.L5.e0)], none, F.num_Rate.L5.f n n⟩
def F.num_Rate.L23.head : Shape := ⟨[(3, (.const (.ref 0 0))), (7, .str), (9, (.const (.ref 3 0))), (10, (.const (.fn 161 [] [(.ref 3 0)]))), (81, (.int .i64))], [[(.int .i64), (.int .i64)], [(.int .i64), (.int .i64)], [(.int .i64), (.int .i64)], [(.int .i64)]], [], [], [], 4, 0, 0⟩
def F.num_Rate.L23.e3 : Shape := ⟨[(3, (.const (.ref 0 0))), (9, (.const (.ref 3 0)))], [[(.int .i64), (.int .i64)], [(.int .i64), (.int .i64)], [(.int .i64), (.int .i64)], [(.int .i64)]], [], [], [], 4, 0, 0⟩
noncomputable def F.num_Rate.L23.f {X : Type} (n m : Nat) (ks : Ks X) (s : F.num_Rate.L23.head.den) : Option X := F.num_Rate.L23 n (fun qb0_0 qb0_1 qb1_0 qb1_1 qb2_0 qb2_1 qb3_0 => ks.ex 3 (F.num_Rate.L23.e3.e (((), (), ()), ((qb0_0, qb0_1, ()), (qb1_0, qb1_1, ()), (qb2_0, qb2_1, ()), (qb3_0, ()), ()), (), ())) (F.num_Rate.L23.e3.h (((), (), ()), ((qb0_0, qb0_1, ()), (qb1_0, qb1_1, ()), (qb2_0, qb2_1, ()), (qb3_0, ()), ()), (), ()))) m s.1.2.1 s.1.2.2.2.2.1 s.2.1.1.1 s.2.1.1.2.1 s.2.1.2.1.1 s.2.1.2.1.2.1 s.2.1.2.2.1.1 s.2.1.2.2.1.2.1 s.2.1.2.2.2.1.1
noncomputable def F.num_Rate.L23.li (X : Type) (n : Nat) : LoopI X := ⟨8, ⟨0, 0, 0⟩, F.num_Rate.L23.head, [(3, F.num_Rate.L23.e3)], none, F.num_Rate.L23.f n n⟩
noncomputable def cx120 (X : Type) (n : Nat) : Cx X := mkCx tab.get [(120, Tryz.f120), (161, Tryz.f161)] [(71, orcOf [(.int .i64), .str, (.int .i64), (.int .i64)] (.one (.agg [(.int .i64), (.int .i64)])) (fun x => F.class_Text n x.1 x.2.1 x.2.2.1 x.2.2.2.1)), (160, orcOf [(.int .i64), (.int .i64)] (.many [(.int .i64), (.agg [(.int .i64), (.int .i64)])]) (fun x => F.num_fault n x.1 x.2.1))] [(120, 5, [F.num_Rate.L5.li X n]), (120, 23, [F.num_Rate.L23.li X n])] [] [] []
theorem F.num_Rate.L5.ok (X : Type) (n : Nat) : LoopOK (cx120 X n) 120 Tryz.f120.ntmps (loopNo Tryz.f120 0) (F.num_Rate.L5.li X n) :=
  ⟨F.num_Rate.L5.f n, n, fun _ _ => rfl, fun _ _ => rfl, fun m ks s => by kernel_rfl⟩
theorem F.num_Rate.L23.ok (X : Type) (n : Nat) : LoopOK (cx120 X n) 120 Tryz.f120.ntmps (loopNo Tryz.f120 1) (F.num_Rate.L23.li X n) :=
  ⟨F.num_Rate.L23.f n, n, fun _ _ => rfl, fun _ _ => rfl, fun m ks s => by kernel_rfl⟩
theorem cx120_ok (X : Type) (n : Nat) : CxOK Tryz.prog SW (cx120 X n) := mkCx_ok mixed (tabOK tab_ok) ⟨⟨Tryz.func120, by decide⟩,
  ⟨Tryz.func161, by decide⟩, trivial⟩ ⟨orcOf_ok (ok71 n),
  orcOf_ok (ok160 n), trivial⟩ ⟨okC_mk (fun _ => rfl) (by kernel_rfl) (castP (by kernel_rfl) (show (LoopOK (cx120 X n) 120 Tryz.f120.ntmps (loopNo Tryz.f120 0) (F.num_Rate.L5.li X n) ∧ True) ∧ (LoopOK (cx120 X n) 120 Tryz.f120.ntmps (loopNo Tryz.f120 1) (F.num_Rate.L23.li X n) ∧ True) ∧ True from ⟨⟨F.num_Rate.L5.ok X n, trivial⟩, ⟨F.num_Rate.L23.ok X n, trivial⟩, trivial⟩)) (castP (by kernel_rfl) (show True from trivial)),
  okC_mk (fun _ => rfl) (by kernel_rfl) (castP (by kernel_rfl) (show True from trivial)) (castP (by kernel_rfl) (show True from trivial)), trivial⟩ trivial
theorem ok120 (n : Nat) : FnOK Tryz.prog SW 120 [.str] (.many [(.int .i64), (.agg [(.int .i64), (.int .i64)])]) (fun x => F.num_Rate n x.1) := fnOK_of WOf.st (cx120_ok _ n) (d := 8) (fun x => by kernel_rfl)
def F.tag_Parse.L4.head : Shape := ⟨[(3, (.const (.ref 0 0))), (4, (.sl (.agg [.str, .str]) (.own 0))), (5, (.int .i64)), (13, (.sl .str .unk)), (14, (.int .i64)), (15, (.int .i64))], [[(.int .i64), (.int .i64)]], [true], [], [], 1, 0, 0⟩
def F.tag_Parse.L4.e0 : Shape := ⟨[(3, (.const (.ref 0 0))), (4, (.sl (.agg [.str, .str]) (.own 0)))], [[(.int .i64), (.int .i64)]], [true], [], [], 1, 0, 0⟩
def F.tag_Parse.L4.er : Shape := ⟨[(2, (.sl (.agg [.str, .str]) (.own 0))), (3, (.const (.ref 0 0)))], [[(.int .i64), (.int .i64)]], [true], [], [], 1, 0, 0⟩
noncomputable def F.tag_Parse.L4.f {X : Type} (n m : Nat) (ks : Ks X) (s : F.tag_Parse.L4.head.den) : Option X := F.tag_Parse.L4 n (fun q4 qb0_0 qb0_1 qk0 => ks.ex 0 (F.tag_Parse.L4.e0.e (((), q4, ()), ((qb0_0, qb0_1, ()), ()), (qk0, ()), ())) (F.tag_Parse.L4.e0.h (((), q4, ()), ((qb0_0, qb0_1, ()), ()), (qk0, ()), ()))) (fun q2 qb0_0 qb0_1 qk0 => ks.ret (F.tag_Parse.L4.er.e ((q2, (), ()), ((qb0_0, qb0_1, ()), ()), (qk0, ()), ())) (F.tag_Parse.L4.er.h ((q2, (), ()), ((qb0_0, qb0_1, ()), ()), (qk0, ()), ()))) m s.1.2.1 s.1.2.2.1 s.1.2.2.2.1 s.1.2.2.2.2.1 s.1.2.2.2.2.2.1 s.2.1.1.1 s.2.1.1.2.1 s.2.2.1.1
noncomputable def F.tag_Parse.L4.li (X : Type) (n : Nat) : LoopI X := ⟨8, ⟨0, 0, 0⟩, F.tag_Parse.L4.head, [(0, F.tag_Parse.L4.e0)], some F.tag_Parse.L4.er, F.tag_Parse.L4.f n n⟩
noncomputable def cx121 (X : Type) (n : Nat) : Cx X := mkCx tab.get [(121, Tryz.f121)] [(40, orcOf [.str, .str] (.one (.sl .str .unk)) (fun x => O.split1 n x.1 x.2.1)), (60, orcOf [(.agg [.str, .str])] (.one (.int .i64)) (fun x => F.tag_Check n x.1)), (70, orcOf [.str, .str] (.many [.str, .str, .bool]) (fun x => F.strings_Cut n x.1 x.2.1))] [(121, 4, [F.tag_Parse.L4.li X n])] [] [] []
theorem F.tag_Parse.L4.ok (X : Type) (n : Nat) : LoopOK (cx121 X n) 121 Tryz.f121.ntmps (loopNo Tryz.f121 0) (F.tag_Parse.L4.li X n) :=
  ⟨F.tag_Parse.L4.f n, n, fun _ _ => rfl, fun _ _ => rfl, fun m ks s => by kernel_rfl⟩
theorem cx121_ok (X : Type) (n : Nat) : CxOK Tryz.prog SW (cx121 X n) := mkCx_ok mixed (tabOK tab_ok) ⟨⟨Tryz.func121, by decide⟩, trivial⟩ ⟨orcOf_ok (ok40 n),
  orcOf_ok (ok60 n),
  orcOf_ok (ok70 n), trivial⟩ ⟨okC_mk (fun _ => rfl) (by kernel_rfl) (castP (by kernel_rfl) (show (LoopOK (cx121 X n) 121 Tryz.f121.ntmps (loopNo Tryz.f121 0) (F.tag_Parse.L4.li X n) ∧ True) ∧ True from ⟨⟨F.tag_Parse.L4.ok X n, trivial⟩, trivial⟩)) (castP (by kernel_rfl) (show True from trivial)), trivial⟩ trivial
theorem ok121 (n : Nat) : FnOK Tryz.prog SW 121 [.str] (.many [(.sl (.agg [.str, .str]) .unk), (.agg [(.int .i64), (.int .i64)])]) (fun x => F.tag_Parse n x.1) := fnOK_of WOf.st (cx121_ok _ n) (d := 8) (fun x => by kernel_rfl)
theorem ok189 (n : Nat) : FnOK Tryz.prog SW 189 [.str] (.many [(.int .i64), .err]) (fun x => O.atoi n x.1) := atoi_ok (enters Tryz.func189 (by kernel_rfl) (by decide)) (fun s hs v hv w hw => (Tryz.strconv_Atoi_ok s (by omega) v hv w).mono fun e w' ⟨a, b⟩ => ⟨a, by rcases b with rfl | ⟨t, rfl⟩; exact Below.refl _ _; exact below_bytes⟩)
  (fun s hs n1 n2 w hw => by obtain ⟨ev, hv, hev⟩ := swErrS hw; exact (Any.strconv_Atoi_syntax Tryz.laysC172 s (by omega) (by cases hq : Lib.atoiAll s.data.toList with | ok v => exact absurd hq (n1 v) | range => exact absurd hq n2 | _ => rfl) ev w hv hev).mono fun e w' ⟨N, a, _, _, b⟩ => ⟨⟨_, _, a⟩, b⟩)
  (fun s hs hq w hw => by obtain ⟨ev, hv, hev⟩ := swErrR hw; exact (Any.strconv_Atoi_range Tryz.laysC172 s (by omega) hq ev w hv hev).mono fun e w' ⟨N, a, _, _, b⟩ => ⟨⟨_, _, a⟩, b⟩) n
noncomputable def cx162 (X : Type) (n : Nat) : Cx X := mkCx tab.get [(162, Tryz.f162)] [(71, orcOf [(.int .i64), .str, (.int .i64), (.int .i64)] (.one (.agg [(.int .i64), (.int .i64)])) (fun x => F.class_Text n x.1 x.2.1 x.2.2.1 x.2.2.2.1)), (160, orcOf [(.int .i64), (.int .i64)] (.many [(.int .i64), (.agg [(.int .i64), (.int .i64)])]) (fun x => F.num_fault n x.1 x.2.1)), (189, orcOf [.str] (.many [(.int .i64), .err]) (fun x => O.atoi n x.1))] [] [] [] []
theorem cx162_ok (X : Type) (n : Nat) : CxOK Tryz.prog SW (cx162 X n) := mkCx_ok mixed (tabOK tab_ok) ⟨⟨Tryz.func162, by decide⟩, trivial⟩ ⟨orcOf_ok (ok71 n),
  orcOf_ok (ok160 n),
  orcOf_ok (ok189 n), trivial⟩ ⟨okC_mk (fun _ => rfl) (by kernel_rfl) (castP (by kernel_rfl) (show True from trivial)) (castP (by kernel_rfl) (show True from trivial)), trivial⟩ trivial
theorem ok162 (n : Nat) : FnOK Tryz.prog SW 162 [.str, (.int .i64), (.int .i64)] (.many [(.int .i64), (.agg [(.int .i64), (.int .i64)])]) (fun x => F.num_Parse n x.1 x.2.1 x.2.2.1) := fnOK_of WOf.st (cx162_ok _ n) (d := 8) (fun x => by kernel_rfl)
noncomputable def cx122 (X : Type) (n : Nat) : Cx X := mkCx tab.get [(122, Tryz.f122)] [(162, orcOf [.str, (.int .i64), (.int .i64)] (.many [(.int .i64), (.agg [(.int .i64), (.int .i64)])]) (fun x => F.num_Parse n x.1 x.2.1 x.2.2.1))] [] [] [] []
theorem cx122_ok (X : Type) (n : Nat) : CxOK Tryz.prog SW (cx122 X n) := mkCx_ok mixed (tabOK tab_ok) ⟨⟨Tryz.func122, by decide⟩, trivial⟩ ⟨orcOf_ok (ok162 n), trivial⟩ ⟨okC_mk (fun _ => rfl) (by kernel_rfl) (castP (by kernel_rfl) (show True from trivial)) (castP (by kernel_rfl) (show True from trivial)), trivial⟩ trivial
theorem ok122 (n : Nat) : FnOK Tryz.prog SW 122 [.str] (.many [(.int .i64), (.agg [(.int .i64), (.int .i64)])]) (fun x => F.num_Time n x.1) := fnOK_of WOf.st (cx122_ok _ n) (d := 8) (fun x => by kernel_rfl)
def F.dog_Parse.L9_dog_reader_first.head : Shape := ⟨[(0, (.const (.ref 2 0))), (4, (.const (.ref 4 0))), (8, (.int .i64)), (42, (.sl .str .unk)), (43, (.int .i64)), (44, (.int .i64))], [[.str, (.int .i64), (.sl (.agg [.bool, (.int .u64), (.int .i64)]) (.own 0)), (.int .i64), (.sl (.agg [.str, .str]) (.own 1)), (.int .i64)], [(.int .i64), (.int .i64)], [.str, (.int .i64), (.sl (.agg [.bool, (.int .u64), (.int .i64)]) (.own 2)), (.int .i64), (.sl (.agg [.str, .str]) .unk), (.int .i64), (.int .i64), (.int .i64)], [(.int .i64), (.int .i64)], [(.int .i64), (.int .i64)]], [true, true, true], [], [], 5, 3, 0⟩
def F.dog_Parse.L9_dog_reader_first.e1 : Shape := ⟨[(4, (.const (.ref 4 0)))], [[.str, (.int .i64), (.sl (.agg [.bool, (.int .u64), (.int .i64)]) (.own 0)), (.int .i64), (.sl (.agg [.str, .str]) (.own 1)), (.int .i64)], [(.int .i64), (.int .i64)], [.str, (.int .i64), (.sl (.agg [.bool, (.int .u64), (.int .i64)]) (.own 2)), (.int .i64), (.sl (.agg [.str, .str]) .unk), (.int .i64), (.int .i64), (.int .i64)], [(.int .i64), (.int .i64)], [(.int .i64), (.int .i64)]], [true, true, true], [], [], 5, 3, 0⟩
def F.dog_Parse.L9_dog_reader_first.er : Shape := ⟨[(4, (.const (.ref 4 0)))], [[.str, (.int .i64), (.sl (.agg [.bool, (.int .u64), (.int .i64)]) (.own 0)), (.int .i64), (.sl (.agg [.str, .str]) (.own 1)), (.int .i64)], [(.int .i64), (.int .i64)], [.str, (.int .i64), (.sl (.agg [.bool, (.int .u64), (.int .i64)]) (.own 2)), (.int .i64), (.sl (.agg [.str, .str]) .unk), (.int .i64), (.int .i64), (.int .i64)], [(.int .i64), (.int .i64)], [(.int .i64), (.int .i64)]], [true, true, true], [], [], 5, 3, 0⟩
noncomputable def F.dog_Parse.L9_dog_reader_first.f {X : Type} (n m : Nat) (ks : Ks X) (s : F.dog_Parse.L9_dog_reader_first.head.den) : Option X := F.dog_Parse.L9_dog_reader_first n (fun qb0_0 qb0_1 qb0_2 qb0_3 qb0_4 qb0_5 qb1_0 qb1_1 qb2_0 qb2_1 qb2_2 qb2_3 qb2_4 qb2_5 qb2_6 qb2_7 qb3_0 qb3_1 qb4_0 qb4_1 qk0 qk1 qk2 => ks.ex 1 (F.dog_Parse.L9_dog_reader_first.e1.e (((), ()), ((qb0_0, qb0_1, qb0_2, qb0_3, qb0_4, qb0_5, ()), (qb1_0, qb1_1, ()), (qb2_0, qb2_1, qb2_2, qb2_3, qb2_4, qb2_5, qb2_6, qb2_7, ()), (qb3_0, qb3_1, ()), (qb4_0, qb4_1, ()), ()), (qk0, qk1, qk2, ()), ())) (F.dog_Parse.L9_dog_reader_first.e1.h (((), ()), ((qb0_0, qb0_1, qb0_2, qb0_3, qb0_4, qb0_5, ()), (qb1_0, qb1_1, ()), (qb2_0, qb2_1, qb2_2, qb2_3, qb2_4, qb2_5, qb2_6, qb2_7, ()), (qb3_0, qb3_1, ()), (qb4_0, qb4_1, ()), ()), (qk0, qk1, qk2, ()), ()))) (fun qb0_0 qb0_1 qb0_2 qb0_3 qb0_4 qb0_5 qb1_0 qb1_1 qb2_0 qb2_1 qb2_2 qb2_3 qb2_4 qb2_5 qb2_6 qb2_7 qb3_0 qb3_1 qb4_0 qb4_1 qk0 qk1 qk2 => ks.ret (F.dog_Parse.L9_dog_reader_first.er.e (((), ()), ((qb0_0, qb0_1, qb0_2, qb0_3, qb0_4, qb0_5, ()), (qb1_0, qb1_1, ()), (qb2_0, qb2_1, qb2_2, qb2_3, qb2_4, qb2_5, qb2_6, qb2_7, ()), (qb3_0, qb3_1, ()), (qb4_0, qb4_1, ()), ()), (qk0, qk1, qk2, ()), ())) (F.dog_Parse.L9_dog_reader_first.er.h (((), ()), ((qb0_0, qb0_1, qb0_2, qb0_3, qb0_4, qb0_5, ()), (qb1_0, qb1_1, ()), (qb2_0, qb2_1, qb2_2, qb2_3, qb2_4, qb2_5, qb2_6, qb2_7, ()), (qb3_0, qb3_1, ()), (qb4_0, qb4_1, ()), ()), (qk0, qk1, qk2, ()), ()))) m s.1.2.2.1 s.1.2.2.2.1 s.1.2.2.2.2.1 s.1.2.2.2.2.2.1 s.2.1.1.1 s.2.1.1.2.1 s.2.1.1.2.2.1 s.2.1.1.2.2.2.1 s.2.1.1.2.2.2.2.1 s.2.1.1.2.2.2.2.2.1 s.2.1.2.1.1 s.2.1.2.1.2.1 s.2.1.2.2.1.1 s.2.1.2.2.1.2.1 s.2.1.2.2.1.2.2.1 s.2.1.2.2.1.2.2.2.1 s.2.1.2.2.1.2.2.2.2.1 s.2.1.2.2.1.2.2.2.2.2.1 s.2.1.2.2.1.2.2.2.2.2.2.1 s.2.1.2.2.1.2.2.2.2.2.2.2.1 s.2.1.2.2.2.1.1 s.2.1.2.2.2.1.2.1 s.2.1.2.2.2.2.1.1 s.2.1.2.2.2.2.1.2.1 s.2.2.1.1 s.2.2.1.2.1 s.2.2.1.2.2.1
noncomputable def F.dog_Parse.L9_dog_reader_first.li (X : Type) (n : Nat) : LoopI X := ⟨7, ⟨4, 3, 0⟩, F.dog_Parse.L9_dog_reader_first.head, [(1, F.dog_Parse.L9_dog_reader_first.e1)], some F.dog_Parse.L9_dog_reader_first.er, F.dog_Parse.L9_dog_reader_first.f n n⟩
def F.dog_Parse.L2_dog_reader_more.head : Shape := ⟨[(0, (.const (.ref 2 0))), (1, .str), (4, (.const (.ref 4 0))), (19, (.agg [.str, (.const (.fn 74 [(.ref 2 0)] [])), .str, (.const (.fn 75 [(.ref 2 0)] [])), .str, (.const (.fn 76 [(.ref 2 0)] []))])), (20, (.int .i64))], [[.str, (.int .i64), (.sl (.agg [.bool, (.int .u64), (.int .i64)]) (.own 0)), (.int .i64), (.sl (.agg [.str, .str]) (.own 1)), (.int .i64)], [(.int .i64), (.int .i64)], [.str, (.int .i64), (.sl (.agg [.bool, (.int .u64), (.int .i64)]) (.own 2)), (.int .i64), (.sl (.agg [.str, .str]) .unk), (.int .i64), (.int .i64), (.int .i64)], [(.int .i64), (.int .i64)], [(.int .i64), (.int .i64)]], [true, true, true], [], [], 5, 3, 0⟩
def F.dog_Parse.L2_dog_reader_more.e0 : Shape := ⟨[(0, (.const (.ref 2 0))), (4, (.const (.ref 4 0)))], [[.str, (.int .i64), (.sl (.agg [.bool, (.int .u64), (.int .i64)]) (.own 0)), (.int .i64), (.sl (.agg [.str, .str]) (.own 1)), (.int .i64)], [(.int .i64), (.int .i64)], [.str, (.int .i64), (.sl (.agg [.bool, (.int .u64), (.int .i64)]) (.own 2)), (.int .i64), (.sl (.agg [.str, .str]) .unk), (.int .i64), (.int .i64), (.int .i64)], [(.int .i64), (.int .i64)], [(.int .i64), (.int .i64)]], [true, true, true], [], [], 5, 3, 0⟩
def F.dog_Parse.L2_dog_reader_more.er : Shape := ⟨[(4, (.const (.ref 4 0)))], [[.str, (.int .i64), (.sl (.agg [.bool, (.int .u64), (.int .i64)]) (.own 0)), (.int .i64), (.sl (.agg [.str, .str]) (.own 1)), (.int .i64)], [(.int .i64), (.int .i64)], [.str, (.int .i64), (.sl (.agg [.bool, (.int .u64), (.int .i64)]) (.own 2)), (.int .i64), (.sl (.agg [.str, .str]) .unk), (.int .i64), (.int .i64), (.int .i64)], [(.int .i64), (.int .i64)], [(.int .i64), (.int .i64)]], [true, true, true], [], [], 5, 3, 0⟩
noncomputable def F.dog_Parse.L2_dog_reader_more.f {X : Type} (n m : Nat) (ks : Ks X) (s : F.dog_Parse.L2_dog_reader_more.head.den) : Option X := F.dog_Parse.L2_dog_reader_more n (fun qb0_0 qb0_1 qb0_2 qb0_3 qb0_4 qb0_5 qb1_0 qb1_1 qb2_0 qb2_1 qb2_2 qb2_3 qb2_4 qb2_5 qb2_6 qb2_7 qb3_0 qb3_1 qb4_0 qb4_1 qk0 qk1 qk2 => ks.ex 0 (F.dog_Parse.L2_dog_reader_more.e0.e (((), (), ()), ((qb0_0, qb0_1, qb0_2, qb0_3, qb0_4, qb0_5, ()), (qb1_0, qb1_1, ()), (qb2_0, qb2_1, qb2_2, qb2_3, qb2_4, qb2_5, qb2_6, qb2_7, ()), (qb3_0, qb3_1, ()), (qb4_0, qb4_1, ()), ()), (qk0, qk1, qk2, ()), ())) (F.dog_Parse.L2_dog_reader_more.e0.h (((), (), ()), ((qb0_0, qb0_1, qb0_2, qb0_3, qb0_4, qb0_5, ()), (qb1_0, qb1_1, ()), (qb2_0, qb2_1, qb2_2, qb2_3, qb2_4, qb2_5, qb2_6, qb2_7, ()), (qb3_0, qb3_1, ()), (qb4_0, qb4_1, ()), ()), (qk0, qk1, qk2, ()), ()))) (fun qb0_0 qb0_1 qb0_2 qb0_3 qb0_4 qb0_5 qb1_0 qb1_1 qb2_0 qb2_1 qb2_2 qb2_3 qb2_4 qb2_5 qb2_6 qb2_7 qb3_0 qb3_1 qb4_0 qb4_1 qk0 qk1 qk2 => ks.ret (F.dog_Parse.L2_dog_reader_more.er.e (((), ()), ((qb0_0, qb0_1, qb0_2, qb0_3, qb0_4, qb0_5, ()), (qb1_0, qb1_1, ()), (qb2_0, qb2_1, qb2_2, qb2_3, qb2_4, qb2_5, qb2_6, qb2_7, ()), (qb3_0, qb3_1, ()), (qb4_0, qb4_1, ()), ()), (qk0, qk1, qk2, ()), ())) (F.dog_Parse.L2_dog_reader_more.er.h (((), ()), ((qb0_0, qb0_1, qb0_2, qb0_3, qb0_4, qb0_5, ()), (qb1_0, qb1_1, ()), (qb2_0, qb2_1, qb2_2, qb2_3, qb2_4, qb2_5, qb2_6, qb2_7, ()), (qb3_0, qb3_1, ()), (qb4_0, qb4_1, ()), ()), (qk0, qk1, qk2, ()), ()))) m s.1.2.1 s.1.2.2.2.1 s.1.2.2.2.2.1 s.2.1.1.1 s.2.1.1.2.1 s.2.1.1.2.2.1 s.2.1.1.2.2.2.1 s.2.1.1.2.2.2.2.1 s.2.1.1.2.2.2.2.2.1 s.2.1.2.1.1 s.2.1.2.1.2.1 s.2.1.2.2.1.1 s.2.1.2.2.1.2.1 s.2.1.2.2.1.2.2.1 s.2.1.2.2.1.2.2.2.1 s.2.1.2.2.1.2.2.2.2.1 s.2.1.2.2.1.2.2.2.2.2.1 s.2.1.2.2.1.2.2.2.2.2.2.1 s.2.1.2.2.1.2.2.2.2.2.2.2.1 s.2.1.2.2.2.1.1 s.2.1.2.2.2.1.2.1 s.2.1.2.2.2.2.1.1 s.2.1.2.2.2.2.1.2.1 s.2.2.1.1 s.2.2.1.2.1 s.2.2.1.2.2.1
noncomputable def F.dog_Parse.L2_dog_reader_more.li (X : Type) (n : Nat) : LoopI X := ⟨7, ⟨4, 3, 0⟩, F.dog_Parse.L2_dog_reader_more.head, [(0, F.dog_Parse.L2_dog_reader_more.e0)], some F.dog_Parse.L2_dog_reader_more.er, F.dog_Parse.L2_dog_reader_more.f n n⟩
def F.dog_Parse.L8.head : Shape := ⟨[(0, .str), (2, (.const (.ref 0 0))), (3, (.const (.ref 1 0))), (4, (.const (.ref 2 0))), (5, (.sl .str .unk)), (6, (.const (.imms 2 [(.fn 41 [(.ref 2 0)] []), (.fn 42 [(.ref 2 0)] [])]))), (7, (.const (.ref 3 0))), (26, (.sl .str .unk)), (27, (.int .i64)), (28, (.int .i64))], [[.str, (.int .i64), (.sl (.agg [.bool, (.int .u64), (.int .i64)]) (.own 0)), (.int .i64), (.sl (.agg [.str, .str]) (.own 1)), (.int .i64)], [(.int .i64), (.int .i64)], [.str, (.int .i64), (.sl (.agg [.bool, (.int .u64), (.int .i64)]) (.own 2)), (.int .i64), (.sl (.agg [.str, .str]) .unk), (.int .i64), (.int .i64), (.int .i64)], [(.int .i64), (.int .i64)]], [true, true, true], [], [], 4, 0, 0⟩
def F.dog_Parse.L8.e0 : Shape := ⟨[(0, .str), (2, (.const (.ref 0 0))), (3, (.const (.ref 1 0))), (4, (.const (.ref 2 0))), (5, (.sl .str .unk)), (6, (.const (.imms 2 [(.fn 41 [(.ref 2 0)] []), (.fn 42 [(.ref 2 0)] [])]))), (7, (.const (.ref 3 0)))], [[.str, (.int .i64), (.sl (.agg [.bool, (.int .u64), (.int .i64)]) (.own 0)), (.int .i64), (.sl (.agg [.str, .str]) (.own 1)), (.int .i64)], [(.int .i64), (.int .i64)], [.str, (.int .i64), (.sl (.agg [.bool, (.int .u64), (.int .i64)]) (.own 2)), (.int .i64), (.sl (.agg [.str, .str]) .unk), (.int .i64), (.int .i64), (.int .i64)], [(.int .i64), (.int .i64)]], [true, true, true], [], [], 4, 0, 0⟩
noncomputable def F.dog_Parse.L8.f {X : Type} (n m : Nat) (ks : Ks X) (s : F.dog_Parse.L8.head.den) : Option X := F.dog_Parse.L8 n (fun q0 q5 qb0_0 qb0_1 qb0_2 qb0_3 qb0_4 qb0_5 qb1_0 qb1_1 qb2_0 qb2_1 qb2_2 qb2_3 qb2_4 qb2_5 qb2_6 qb2_7 qb3_0 qb3_1 qk0 qk1 qk2 => ks.ex 0 (F.dog_Parse.L8.e0.e ((q0, (), (), (), q5, (), (), ()), ((qb0_0, qb0_1, qb0_2, qb0_3, qb0_4, qb0_5, ()), (qb1_0, qb1_1, ()), (qb2_0, qb2_1, qb2_2, qb2_3, qb2_4, qb2_5, qb2_6, qb2_7, ()), (qb3_0, qb3_1, ()), ()), (qk0, qk1, qk2, ()), ())) (F.dog_Parse.L8.e0.h ((q0, (), (), (), q5, (), (), ()), ((qb0_0, qb0_1, qb0_2, qb0_3, qb0_4, qb0_5, ()), (qb1_0, qb1_1, ()), (qb2_0, qb2_1, qb2_2, qb2_3, qb2_4, qb2_5, qb2_6, qb2_7, ()), (qb3_0, qb3_1, ()), ()), (qk0, qk1, qk2, ()), ()))) m s.1.1 s.1.2.2.2.2.1 s.1.2.2.2.2.2.2.2.1 s.1.2.2.2.2.2.2.2.2.1 s.1.2.2.2.2.2.2.2.2.2.1 s.2.1.1.1 s.2.1.1.2.1 s.2.1.1.2.2.1 s.2.1.1.2.2.2.1 s.2.1.1.2.2.2.2.1 s.2.1.1.2.2.2.2.2.1 s.2.1.2.1.1 s.2.1.2.1.2.1 s.2.1.2.2.1.1 s.2.1.2.2.1.2.1 s.2.1.2.2.1.2.2.1 s.2.1.2.2.1.2.2.2.1 s.2.1.2.2.1.2.2.2.2.1 s.2.1.2.2.1.2.2.2.2.2.1 s.2.1.2.2.1.2.2.2.2.2.2.1 s.2.1.2.2.1.2.2.2.2.2.2.2.1 s.2.1.2.2.2.1.1 s.2.1.2.2.2.1.2.1 s.2.2.1.1 s.2.2.1.2.1 s.2.2.1.2.2.1
noncomputable def F.dog_Parse.L8.li (X : Type) (n : Nat) : LoopI X := ⟨8, ⟨0, 0, 0⟩, F.dog_Parse.L8.head, [(0, F.dog_Parse.L8.e0)], none, F.dog_Parse.L8.f n n⟩
noncomputable def cx18 (X : Type) (n : Nat) : Cx X := mkCx tab.get [(18, Tryz.f18), (41, Tryz.f41), (42, Tryz.f42), (43, Tryz.f43), (72, Tryz.f72), (74, Tryz.f74), (75, Tryz.f75), (76, Tryz.f76)] [(11, orcOf [.str] (.many [(.int .i64), (.int .i64)]) (fun x => F.dog_Kind n x.1)), (40, orcOf [.str, .str] (.one (.sl .str .unk)) (fun x => O.split1 n x.1 x.2.1)), (50, orcOf [(.sl (.agg [.str, .str]) .unk)] (.one (.sl (.agg [.str, .str]) .unk)) (fun x => F.tag_Normal n x.1)), (70, orcOf [.str, .str] (.many [.str, .str, .bool]) (fun x => F.strings_Cut n x.1 x.2.1)), (71, orcOf [(.int .i64), .str, (.int .i64), (.int .i64)] (.one (.agg [(.int .i64), (.int .i64)])) (fun x => F.class_Text n x.1 x.2.1 x.2.2.1 x.2.2.2.1)), (73, orcOf [.str] (.many [(.agg [.bool, (.int .u64), (.int .i64)]), (.agg [(.int .i64), (.int .i64)])]) (fun x => F.dec_Parse n x.1)), (77, orcOf [.str, .str] (.many [.str, .bool]) (fun x => F.strings_CutPrefix n x.1 x.2.1)), (120, orcOf [.str] (.many [(.int .i64), (.agg [(.int .i64), (.int .i64)])]) (fun x => F.num_Rate n x.1)), (121, orcOf [.str] (.many [(.sl (.agg [.str, .str]) .unk), (.agg [(.int .i64), (.int .i64)])]) (fun x => F.tag_Parse n x.1)), (122, orcOf [.str] (.many [(.int .i64), (.agg [(.int .i64), (.int .i64)])]) (fun x => F.num_Time n x.1))] [(18, 8, [F.dog_Parse.L8.li X n]), (41, 9, [F.dog_Parse.L9_dog_reader_first.li X n]), (43, 2, [F.dog_Parse.L2_dog_reader_more.li X n])] [] [(18, 20, [(1, 2)]), (18, 21, [(4, 5)])] []
theorem F.dog_Parse.L9_dog_reader_first.ok (X : Type) (n : Nat) : LoopOK (cx18 X n) 41 Tryz.f41.ntmps (loopNo Tryz.f41 0) (F.dog_Parse.L9_dog_reader_first.li X n) :=
  ⟨F.dog_Parse.L9_dog_reader_first.f n, n, fun _ _ => rfl, fun _ _ => rfl, fun m ks s => by kernel_rfl⟩
theorem F.dog_Parse.L2_dog_reader_more.ok (X : Type) (n : Nat) : LoopOK (cx18 X n) 43 Tryz.f43.ntmps (loopNo Tryz.f43 0) (F.dog_Parse.L2_dog_reader_more.li X n) :=
  ⟨F.dog_Parse.L2_dog_reader_more.f n, n, fun _ _ => rfl, fun _ _ => rfl, fun m ks s => by kernel_rfl⟩
theorem F.dog_Parse.L8.ok (X : Type) (n : Nat) : LoopOK (cx18 X n) 18 Tryz.f18.ntmps (loopNo Tryz.f18 0) (F.dog_Parse.L8.li X n) :=
  ⟨F.dog_Parse.L8.f n, n, fun _ _ => rfl, fun _ _ => rfl, fun m ks s => by kernel_rfl⟩
theorem cx18_ok (X : Type) (n : Nat) : CxOK Tryz.prog SW (cx18 X n) := mkCx_ok mixed (tabOK tab_ok) ⟨⟨Tryz.func18, by decide⟩,
  ⟨Tryz.func41, by decide⟩,
  ⟨Tryz.func42, by decide⟩,
  ⟨Tryz.func43, by decide⟩,
  ⟨Tryz.func72, by decide⟩,
  ⟨Tryz.func74, by decide⟩,
  ⟨Tryz.func75, by decide⟩,
  ⟨Tryz.func76, by decide⟩, trivial⟩ ⟨orcOf_ok (ok11 n),
  orcOf_ok (ok40 n),
  orcOf_ok (ok50 n),
  orcOf_ok (ok70 n),
  orcOf_ok (ok71 n),
  orcOf_ok (ok73 n),
  orcOf_ok (ok77 n),
  orcOf_ok (ok120 n),
  orcOf_ok (ok121 n),
  orcOf_ok (ok122 n), trivial⟩ ⟨okC_mk (fun _ => rfl) (by kernel_rfl) (castP (by kernel_rfl) (show (LoopOK (cx18 X n) 18 Tryz.f18.ntmps (loopNo Tryz.f18 0) (F.dog_Parse.L8.li X n) ∧ True) ∧ True from ⟨⟨F.dog_Parse.L8.ok X n, trivial⟩, trivial⟩)) (castP (by kernel_rfl) (show True from trivial)),
  okC_mk (fun _ => rfl) (by kernel_rfl) (castP (by kernel_rfl) (show (LoopOK (cx18 X n) 41 Tryz.f41.ntmps (loopNo Tryz.f41 0) (F.dog_Parse.L9_dog_reader_first.li X n) ∧ True) ∧ True from ⟨⟨F.dog_Parse.L9_dog_reader_first.ok X n, trivial⟩, trivial⟩)) (castP (by kernel_rfl) (show True from trivial)),
  okC_mk (fun _ => rfl) (by kernel_rfl) (castP (by kernel_rfl) (show True from trivial)) (castP (by kernel_rfl) (show True from trivial)),
  okC_mk (fun _ => rfl) (by kernel_rfl) (castP (by kernel_rfl) (show (LoopOK (cx18 X n) 43 Tryz.f43.ntmps (loopNo Tryz.f43 0) (F.dog_Parse.L2_dog_reader_more.li X n) ∧ True) ∧ True from ⟨⟨F.dog_Parse.L2_dog_reader_more.ok X n, trivial⟩, trivial⟩)) (castP (by kernel_rfl) (show True from trivial)),
  okC_mk (fun _ => rfl) (by kernel_rfl) (castP (by kernel_rfl) (show True from trivial)) (castP (by kernel_rfl) (show True from trivial)),
  okC_mk (fun _ => rfl) (by kernel_rfl) (castP (by kernel_rfl) (show True from trivial)) (castP (by kernel_rfl) (show True from trivial)),
  okC_mk (fun _ => rfl) (by kernel_rfl) (castP (by kernel_rfl) (show True from trivial)) (castP (by kernel_rfl) (show True from trivial)),
  okC_mk (fun _ => rfl) (by kernel_rfl) (castP (by kernel_rfl) (show True from trivial)) (castP (by kernel_rfl) (show True from trivial)), trivial⟩ trivial
theorem ok18 (n : Nat) : FnOK Tryz.prog SW 18 [.str] (.many [(.agg [.str, (.int .i64), (.sl (.agg [.bool, (.int .u64), (.int .i64)]) .unk), (.int .i64), (.sl (.agg [.str, .str]) .unk), (.int .i64)]), (.agg [(.int .i64), (.int .i64)])]) (fun x => F.dog_Parse n x.1) := fnOK_of WOf.st (cx18_ok _ n) (d := 8) (fun x => by kernel_rfl)
def F.ref07_Equal.L4.head : Shape := ⟨[(2, (.const (.ref 0 0))), (3, (.const (.ref 1 0))), (5, (.int .i64))], [[.str, (.int .i64), (.sl (.agg [.bool, (.int .u64), (.int .i64)]) .unk), (.int .i64), (.sl (.agg [.str, .str]) .unk), (.int .i64)], [.str, (.int .i64), (.sl (.agg [.bool, (.int .u64), (.int .i64)]) .unk), (.int .i64), (.sl (.agg [.str, .str]) .unk), (.int .i64)]], [], [], [], 2, 0, 0⟩
def F.ref07_Equal.L4.e0 : Shape := ⟨[(2, (.const (.ref 0 0))), (3, (.const (.ref 1 0)))], [[.str, (.int .i64), (.sl (.agg [.bool, (.int .u64), (.int .i64)]) .unk), (.int .i64), (.sl (.agg [.str, .str]) .unk), (.int .i64)], [.str, (.int .i64), (.sl (.agg [.bool, (.int .u64), (.int .i64)]) .unk), (.int .i64), (.sl (.agg [.str, .str]) .unk), (.int .i64)]], [], [], [], 2, 0, 0⟩
def F.ref07_Equal.L4.er : Shape := ⟨[(4, .bool)], [[.str, (.int .i64), (.sl (.agg [.bool, (.int .u64), (.int .i64)]) .unk), (.int .i64), (.sl (.agg [.str, .str]) .unk), (.int .i64)], [.str, (.int .i64), (.sl (.agg [.bool, (.int .u64), (.int .i64)]) .unk), (.int .i64), (.sl (.agg [.str, .str]) .unk), (.int .i64)]], [], [], [], 2, 0, 0⟩
noncomputable def F.ref07_Equal.L4.f {X : Type} (n m : Nat) (ks : Ks X) (s : F.ref07_Equal.L4.head.den) : Option X := F.ref07_Equal.L4 n (fun qb0_0 qb0_1 qb0_2 qb0_3 qb0_4 qb0_5 qb1_0 qb1_1 qb1_2 qb1_3 qb1_4 qb1_5 => ks.ex 0 (F.ref07_Equal.L4.e0.e (((), (), ()), ((qb0_0, qb0_1, qb0_2, qb0_3, qb0_4, qb0_5, ()), (qb1_0, qb1_1, qb1_2, qb1_3, qb1_4, qb1_5, ()), ()), (), ())) (F.ref07_Equal.L4.e0.h (((), (), ()), ((qb0_0, qb0_1, qb0_2, qb0_3, qb0_4, qb0_5, ()), (qb1_0, qb1_1, qb1_2, qb1_3, qb1_4, qb1_5, ()), ()), (), ()))) (fun q4 qb0_0 qb0_1 qb0_2 qb0_3 qb0_4 qb0_5 qb1_0 qb1_1 qb1_2 qb1_3 qb1_4 qb1_5 => ks.ret (F.ref07_Equal.L4.er.e ((q4, ()), ((qb0_0, qb0_1, qb0_2, qb0_3, qb0_4, qb0_5, ()), (qb1_0, qb1_1, qb1_2, qb1_3, qb1_4, qb1_5, ()), ()), (), ())) (F.ref07_Equal.L4.er.h ((q4, ()), ((qb0_0, qb0_1, qb0_2, qb0_3, qb0_4, qb0_5, ()), (qb1_0, qb1_1, qb1_2, qb1_3, qb1_4, qb1_5, ()), ()), (), ()))) m s.1.2.2.1 s.2.1.1.1 s.2.1.1.2.1 s.2.1.1.2.2.1 s.2.1.1.2.2.2.1 s.2.1.1.2.2.2.2.1 s.2.1.1.2.2.2.2.2.1 s.2.1.2.1.1 s.2.1.2.1.2.1 s.2.1.2.1.2.2.1 s.2.1.2.1.2.2.2.1 s.2.1.2.1.2.2.2.2.1 s.2.1.2.1.2.2.2.2.2.1
noncomputable def F.ref07_Equal.L4.li (X : Type) (n : Nat) : LoopI X := ⟨8, ⟨0, 0, 0⟩, F.ref07_Equal.L4.head, [(0, F.ref07_Equal.L4.e0)], some F.ref07_Equal.L4.er, F.ref07_Equal.L4.f n n⟩
def F.ref07_Equal.L9.head : Shape := ⟨[(2, (.const (.ref 0 0))), (3, (.const (.ref 1 0))), (6, (.int .i64))], [[.str, (.int .i64), (.sl (.agg [.bool, (.int .u64), (.int .i64)]) .unk), (.int .i64), (.sl (.agg [.str, .str]) .unk), (.int .i64)], [.str, (.int .i64), (.sl (.agg [.bool, (.int .u64), (.int .i64)]) .unk), (.int .i64), (.sl (.agg [.str, .str]) .unk), (.int .i64)]], [], [], [], 2, 0, 0⟩
def F.ref07_Equal.L9.e2 : Shape := ⟨[], [[.str, (.int .i64), (.sl (.agg [.bool, (.int .u64), (.int .i64)]) .unk), (.int .i64), (.sl (.agg [.str, .str]) .unk), (.int .i64)], [.str, (.int .i64), (.sl (.agg [.bool, (.int .u64), (.int .i64)]) .unk), (.int .i64), (.sl (.agg [.str, .str]) .unk), (.int .i64)]], [], [], [], 2, 0, 0⟩
def F.ref07_Equal.L9.er : Shape := ⟨[(4, .bool)], [[.str, (.int .i64), (.sl (.agg [.bool, (.int .u64), (.int .i64)]) .unk), (.int .i64), (.sl (.agg [.str, .str]) .unk), (.int .i64)], [.str, (.int .i64), (.sl (.agg [.bool, (.int .u64), (.int .i64)]) .unk), (.int .i64), (.sl (.agg [.str, .str]) .unk), (.int .i64)]], [], [], [], 2, 0, 0⟩
noncomputable def F.ref07_Equal.L9.f {X : Type} (n m : Nat) (ks : Ks X) (s : F.ref07_Equal.L9.head.den) : Option X := F.ref07_Equal.L9 n (fun qb0_0 qb0_1 qb0_2 qb0_3 qb0_4 qb0_5 qb1_0 qb1_1 qb1_2 qb1_3 qb1_4 qb1_5 => ks.ex 2 (F.ref07_Equal.L9.e2.e ((), ((qb0_0, qb0_1, qb0_2, qb0_3, qb0_4, qb0_5, ()), (qb1_0, qb1_1, qb1_2, qb1_3, qb1_4, qb1_5, ()), ()), (), ())) (F.ref07_Equal.L9.e2.h ((), ((qb0_0, qb0_1, qb0_2, qb0_3, qb0_4, qb0_5, ()), (qb1_0, qb1_1, qb1_2, qb1_3, qb1_4, qb1_5, ()), ()), (), ()))) (fun q4 qb0_0 qb0_1 qb0_2 qb0_3 qb0_4 qb0_5 qb1_0 qb1_1 qb1_2 qb1_3 qb1_4 qb1_5 => ks.ret (F.ref07_Equal.L9.er.e ((q4, ()), ((qb0_0, qb0_1, qb0_2, qb0_3, qb0_4, qb0_5, ()), (qb1_0, qb1_1, qb1_2, qb1_3, qb1_4, qb1_5, ()), ()), (), ())) (F.ref07_Equal.L9.er.h ((q4, ()), ((qb0_0, qb0_1, qb0_2, qb0_3, qb0_4, qb0_5, ()), (qb1_0, qb1_1, qb1_2, qb1_3, qb1_4, qb1_5, ()), ()), (), ()))) m s.1.2.2.1 s.2.1.1.1 s.2.1.1.2.1 s.2.1.1.2.2.1 s.2.1.1.2.2.2.1 s.2.1.1.2.2.2.2.1 s.2.1.1.2.2.2.2.2.1 s.2.1.2.1.1 s.2.1.2.1.2.1 s.2.1.2.1.2.2.1 s.2.1.2.1.2.2.2.1 s.2.1.2.1.2.2.2.2.1 s.2.1.2.1.2.2.2.2.2.1
noncomputable def F.ref07_Equal.L9.li (X : Type) (n : Nat) : LoopI X := ⟨8, ⟨0, 0, 0⟩, F.ref07_Equal.L9.head, [(2, F.ref07_Equal.L9.e2)], some F.ref07_Equal.L9.er, F.ref07_Equal.L9.f n n⟩
noncomputable def cx20 (X : Type) (n : Nat) : Cx X := mkCx tab.get [(20, Tryz.f20)] [] [(20, 4, [F.ref07_Equal.L4.li X n]), (20, 9, [F.ref07_Equal.L9.li X n])] [] [] []
theorem F.ref07_Equal.L4.ok (X : Type) (n : Nat) : LoopOK (cx20 X n) 20 Tryz.f20.ntmps (loopNo Tryz.f20 0) (F.ref07_Equal.L4.li X n) :=
  ⟨F.ref07_Equal.L4.f n, n, fun _ _ => rfl, fun _ _ => rfl, fun m ks s => by kernel_rfl⟩
theorem F.ref07_Equal.L9.ok (X : Type) (n : Nat) : LoopOK (cx20 X n) 20 Tryz.f20.ntmps (loopNo Tryz.f20 1) (F.ref07_Equal.L9.li X n) :=
  ⟨F.ref07_Equal.L9.f n, n, fun _ _ => rfl, fun _ _ => rfl, fun m ks s => by kernel_rfl⟩
theorem cx20_ok (X : Type) (n : Nat) : CxOK Tryz.prog SW (cx20 X n) := mkCx_ok mixed (tabOK tab_ok) ⟨⟨Tryz.func20, by decide⟩, trivial⟩ trivial ⟨okC_mk (fun _ => rfl) (by kernel_rfl) (castP (by kernel_rfl) (show (LoopOK (cx20 X n) 20 Tryz.f20.ntmps (loopNo Tryz.f20 0) (F.ref07_Equal.L4.li X n) ∧ True) ∧ (LoopOK (cx20 X n) 20 Tryz.f20.ntmps (loopNo Tryz.f20 1) (F.ref07_Equal.L9.li X n) ∧ True) ∧ True from ⟨⟨F.ref07_Equal.L4.ok X n, trivial⟩, ⟨F.ref07_Equal.L9.ok X n, trivial⟩, trivial⟩)) (castP (by kernel_rfl) (show True from trivial)), trivial⟩ trivial
theorem ok20 (n : Nat) : FnOK Tryz.prog SW 20 [(.agg [.str, (.int .i64), (.sl (.agg [.bool, (.int .u64), (.int .i64)]) .unk), (.int .i64), (.sl (.agg [.str, .str]) .unk), (.int .i64)]), (.agg [.str, (.int .i64), (.sl (.agg [.bool, (.int .u64), (.int .i64)]) .unk), (.int .i64), (.sl (.agg [.str, .str]) .unk), (.int .i64)])] (.one .bool) (fun x => F.ref07_Equal n x.1 x.2.1) := fnOK_of WOf.st (cx20_ok _ n) (d := 8) (fun x => by kernel_rfl)
noncomputable def cx9 (X : Type) (n : Nat) : Cx X := mkCx tab.get [(9, Tryz.f9)] [(15, orcOf [(.agg [.str, (.int .i64), (.sl (.agg [.bool, (.int .u64), (.int .i64)]) .unk), (.int .i64), (.sl (.agg [.str, .str]) .unk), (.int .i64)])] (.many [.str, (.int .i64)]) (fun x => F.dog_Line n x.1)), (18, orcOf [.str] (.many [(.agg [.str, (.int .i64), (.sl (.agg [.bool, (.int .u64), (.int .i64)]) .unk), (.int .i64), (.sl (.agg [.str, .str]) .unk), (.int .i64)]), (.agg [(.int .i64), (.int .i64)])]) (fun x => F.dog_Parse n x.1)), (20, orcOf [(.agg [.str, (.int .i64), (.sl (.agg [.bool, (.int .u64), (.int .i64)]) .unk), (.int .i64), (.sl (.agg [.str, .str]) .unk), (.int .i64)]), (.agg [.str, (.int .i64), (.sl (.agg [.bool, (.int .u64), (.int .i64)]) .unk), (.int .i64), (.sl (.agg [.str, .str]) .unk), (.int .i64)])] (.one .bool) (fun x => F.ref07_Equal n x.1 x.2.1))] [] [] [] []
theorem cx9_ok (X : Type) (n : Nat) : CxOK Tryz.prog SW (cx9 X n) := mkCx_ok mixed (tabOK tab_ok) ⟨⟨Tryz.func9, by decide⟩, trivial⟩ ⟨orcOf_ok (ok15 n),
  orcOf_ok (ok18 n),
  orcOf_ok (ok20 n), trivial⟩ ⟨okC_mk (fun _ => rfl) (by kernel_rfl) (castP (by kernel_rfl) (show True from trivial)) (castP (by kernel_rfl) (show True from trivial)), trivial⟩ trivial
theorem ok9 (n : Nat) : FnOK Tryz.prog SW 9 [] (.one .bool) (fun x => F.law11_awake n ) := fnOK_of WOf.st (cx9_ok _ n) (d := 8) (fun x => by kernel_rfl)
def F.law07_Few.L4.head : Shape := ⟨[(1, (.const (.ref 0 0))), (3, (.int .i64))], [[.str, (.int .i64), (.sl (.agg [.bool, (.int .u64), (.int .i64)]) .unk), (.int .i64), (.sl (.agg [.str, .str]) .unk), (.int .i64)]], [], [], [], 1, 0, 0⟩
def F.law07_Few.L4.e0 : Shape := ⟨[], [[.str, (.int .i64), (.sl (.agg [.bool, (.int .u64), (.int .i64)]) .unk), (.int .i64), (.sl (.agg [.str, .str]) .unk), (.int .i64)]], [], [], [], 1, 0, 0⟩
def F.law07_Few.L4.er : Shape := ⟨[(2, .bool)], [[.str, (.int .i64), (.sl (.agg [.bool, (.int .u64), (.int .i64)]) .unk), (.int .i64), (.sl (.agg [.str, .str]) .unk), (.int .i64)]], [], [], [], 1, 0, 0⟩
noncomputable def F.law07_Few.L4.f {X : Type} (n m : Nat) (ks : Ks X) (s : F.law07_Few.L4.head.den) : Option X := F.law07_Few.L4 n (fun qb0_0 qb0_1 qb0_2 qb0_3 qb0_4 qb0_5 => ks.ex 0 (F.law07_Few.L4.e0.e ((), ((qb0_0, qb0_1, qb0_2, qb0_3, qb0_4, qb0_5, ()), ()), (), ())) (F.law07_Few.L4.e0.h ((), ((qb0_0, qb0_1, qb0_2, qb0_3, qb0_4, qb0_5, ()), ()), (), ()))) (fun q2 qb0_0 qb0_1 qb0_2 qb0_3 qb0_4 qb0_5 => ks.ret (F.law07_Few.L4.er.e ((q2, ()), ((qb0_0, qb0_1, qb0_2, qb0_3, qb0_4, qb0_5, ()), ()), (), ())) (F.law07_Few.L4.er.h ((q2, ()), ((qb0_0, qb0_1, qb0_2, qb0_3, qb0_4, qb0_5, ()), ()), (), ()))) m s.1.2.1 s.2.1.1.1 s.2.1.1.2.1 s.2.1.1.2.2.1 s.2.1.1.2.2.2.1 s.2.1.1.2.2.2.2.1 s.2.1.1.2.2.2.2.2.1
noncomputable def F.law07_Few.L4.li (X : Type) (n : Nat) : LoopI X := ⟨8, ⟨0, 0, 0⟩, F.law07_Few.L4.head, [(0, F.law07_Few.L4.e0)], some F.law07_Few.L4.er, F.law07_Few.L4.f n n⟩
noncomputable def cx14 (X : Type) (n : Nat) : Cx X := mkCx tab.get [(14, Tryz.f14)] [] [(14, 4, [F.law07_Few.L4.li X n])] [] [] []
theorem F.law07_Few.L4.ok (X : Type) (n : Nat) : LoopOK (cx14 X n) 14 Tryz.f14.ntmps (loopNo Tryz.f14 0) (F.law07_Few.L4.li X n) :=
  ⟨F.law07_Few.L4.f n, n, fun _ _ => rfl, fun _ _ => rfl, fun m ks s => by kernel_rfl⟩
theorem cx14_ok (X : Type) (n : Nat) : CxOK Tryz.prog SW (cx14 X n) := mkCx_ok mixed (tabOK tab_ok) ⟨⟨Tryz.func14, by decide⟩, trivial⟩ trivial ⟨okC_mk (fun _ => rfl) (by kernel_rfl) (castP (by kernel_rfl) (show (LoopOK (cx14 X n) 14 Tryz.f14.ntmps (loopNo Tryz.f14 0) (F.law07_Few.L4.li X n) ∧ True) ∧ True from ⟨⟨F.law07_Few.L4.ok X n, trivial⟩, trivial⟩)) (castP (by kernel_rfl) (show True from trivial)), trivial⟩ trivial
theorem ok14 (n : Nat) : FnOK Tryz.prog SW 14 [(.agg [.str, (.int .i64), (.sl (.agg [.bool, (.int .u64), (.int .i64)]) .unk), (.int .i64), (.sl (.agg [.str, .str]) .unk), (.int .i64)])] (.one .bool) (fun x => F.law07_Few n x.1) := fnOK_of WOf.st (cx14_ok _ n) (d := 8) (fun x => by kernel_rfl)
def F.slices_Equal_api_Dec_api_Dec.L4.head : Shape := ⟨[(0, (.sl (.agg [.bool, (.int .u64), (.int .i64)]) .unk)), (1, (.sl (.agg [.bool, (.int .u64), (.int .i64)]) .unk)), (12, (.int .i64)), (13, (.int .i64))], [], [], [], [], 0, 0, 0⟩
def F.slices_Equal_api_Dec_api_Dec.L4.e0 : Shape := ⟨[], [], [], [], [], 0, 0, 0⟩
def F.slices_Equal_api_Dec_api_Dec.L4.er : Shape := ⟨[(4, .bool)], [], [], [], [], 0, 0, 0⟩
noncomputable def F.slices_Equal_api_Dec_api_Dec.L4.f {X : Type} (n m : Nat) (ks : Ks X) (s : F.slices_Equal_api_Dec_api_Dec.L4.head.den) : Option X := F.slices_Equal_api_Dec_api_Dec.L4 n (fun (_ : Unit) => ks.ex 0 (F.slices_Equal_api_Dec_api_Dec.L4.e0.e ((), (), (), ())) (F.slices_Equal_api_Dec_api_Dec.L4.e0.h ((), (), (), ()))) (fun q4 => ks.ret (F.slices_Equal_api_Dec_api_Dec.L4.er.e ((q4, ()), (), (), ())) (F.slices_Equal_api_Dec_api_Dec.L4.er.h ((q4, ()), (), (), ()))) m s.1.1 s.1.2.1 s.1.2.2.1 s.1.2.2.2.1
noncomputable def F.slices_Equal_api_Dec_api_Dec.L4.li (X : Type) (n : Nat) : LoopI X := ⟨8, ⟨0, 0, 0⟩, F.slices_Equal_api_Dec_api_Dec.L4.head, [(0, F.slices_Equal_api_Dec_api_Dec.L4.e0)], some F.slices_Equal_api_Dec_api_Dec.L4.er, F.slices_Equal_api_Dec_api_Dec.L4.f n n⟩
noncomputable def cx95 (X : Type) (n : Nat) : Cx X := mkCx tab.get [(95, Tryz.f95)] [] [(95, 4, [F.slices_Equal_api_Dec_api_Dec.L4.li X n])] [] [] []
theorem F.slices_Equal_api_Dec_api_Dec.L4.ok (X : Type) (n : Nat) : LoopOK (cx95 X n) 95 Tryz.f95.ntmps (loopNo Tryz.f95 0) (F.slices_Equal_api_Dec_api_Dec.L4.li X n) :=
  ⟨F.slices_Equal_api_Dec_api_Dec.L4.f n, n, fun _ _ => rfl, fun _ _ => rfl, fun m ks s => by kernel_rfl⟩
theorem cx95_ok (X : Type) (n : Nat) : CxOK Tryz.prog SW (cx95 X n) := mkCx_ok mixed (tabOK tab_ok) ⟨⟨Tryz.func95, by decide⟩, trivial⟩ trivial ⟨okC_mk (fun _ => rfl) (by kernel_rfl) (castP (by kernel_rfl) (show (LoopOK (cx95 X n) 95 Tryz.f95.ntmps (loopNo Tryz.f95 0) (F.slices_Equal_api_Dec_api_Dec.L4.li X n) ∧ True) ∧ True from ⟨⟨F.slices_Equal_api_Dec_api_Dec.L4.ok X n, trivial⟩, trivial⟩)) (castP (by kernel_rfl) (show True from trivial)), trivial⟩ trivial
theorem ok95 (n : Nat) : FnOK Tryz.prog SW 95 [(.sl (.agg [.bool, (.int .u64), (.int .i64)]) .unk), (.sl (.agg [.bool, (.int .u64), (.int .i64)]) .unk)] (.one .bool) (fun x => F.slices_Equal_api_Dec_api_Dec n x.1 x.2.1) := fnOK_of WOf.st (cx95_ok _ n) (d := 8) (fun x => by kernel_rfl)
noncomputable def cx51 (X : Type) (n : Nat) : Cx X := mkCx tab.get [(51, Tryz.f51)] [(95, orcOf [(.sl (.agg [.bool, (.int .u64), (.int .i64)]) .unk), (.sl (.agg [.bool, (.int .u64), (.int .i64)]) .unk)] (.one .bool) (fun x => F.slices_Equal_api_Dec_api_Dec n x.1 x.2.1))] [] [] [] []
theorem cx51_ok (X : Type) (n : Nat) : CxOK Tryz.prog SW (cx51 X n) := mkCx_ok mixed (tabOK tab_ok) ⟨⟨Tryz.func51, by decide⟩, trivial⟩ ⟨orcOf_ok (ok95 n), trivial⟩ ⟨okC_mk (fun _ => rfl) (by kernel_rfl) (castP (by kernel_rfl) (show True from trivial)) (castP (by kernel_rfl) (show True from trivial)), trivial⟩ trivial
theorem ok51 (n : Nat) : FnOK Tryz.prog SW 51 [(.sl (.agg [.bool, (.int .u64), (.int .i64)]) .unk), (.sl (.agg [.bool, (.int .u64), (.int .i64)]) .unk)] (.one .bool) (fun x => F.metric_equal_api_Dec n x.1 x.2.1) := fnOK_of WOf.st (cx51_ok _ n) (d := 8) (fun x => by kernel_rfl)
def F.slices_Equal_api_Tag_api_Tag.L4.head : Shape := ⟨[(0, (.sl (.agg [.str, .str]) .unk)), (1, (.sl (.agg [.str, .str]) .unk)), (12, (.int .i64)), (13, (.int .i64))], [], [], [], [], 0, 0, 0⟩
def F.slices_Equal_api_Tag_api_Tag.L4.e0 : Shape := ⟨[], [], [], [], [], 0, 0, 0⟩
def F.slices_Equal_api_Tag_api_Tag.L4.er : Shape := ⟨[(4, .bool)], [], [], [], [], 0, 0, 0⟩
noncomputable def F.slices_Equal_api_Tag_api_Tag.L4.f {X : Type} (n m : Nat) (ks : Ks X) (s : F.slices_Equal_api_Tag_api_Tag.L4.head.den) : Option X := F.slices_Equal_api_Tag_api_Tag.L4 n (fun (_ : Unit) => ks.ex 0 (F.slices_Equal_api_Tag_api_Tag.L4.e0.e ((), (), (), ())) (F.slices_Equal_api_Tag_api_Tag.L4.e0.h ((), (), (), ()))) (fun q4 => ks.ret (F.slices_Equal_api_Tag_api_Tag.L4.er.e ((q4, ()), (), (), ())) (F.slices_Equal_api_Tag_api_Tag.L4.er.h ((q4, ()), (), (), ()))) m s.1.1 s.1.2.1 s.1.2.2.1 s.1.2.2.2.1
noncomputable def F.slices_Equal_api_Tag_api_Tag.L4.li (X : Type) (n : Nat) : LoopI X := ⟨8, ⟨0, 0, 0⟩, F.slices_Equal_api_Tag_api_Tag.L4.head, [(0, F.slices_Equal_api_Tag_api_Tag.L4.e0)], some F.slices_Equal_api_Tag_api_Tag.L4.er, F.slices_Equal_api_Tag_api_Tag.L4.f n n⟩
noncomputable def cx96 (X : Type) (n : Nat) : Cx X := mkCx tab.get [(96, Tryz.f96)] [] [(96, 4, [F.slices_Equal_api_Tag_api_Tag.L4.li X n])] [] [] []
theorem F.slices_Equal_api_Tag_api_Tag.L4.ok (X : Type) (n : Nat) : LoopOK (cx96 X n) 96 Tryz.f96.ntmps (loopNo Tryz.f96 0) (F.slices_Equal_api_Tag_api_Tag.L4.li X n) :=
  ⟨F.slices_Equal_api_Tag_api_Tag.L4.f n, n, fun _ _ => rfl, fun _ _ => rfl, fun m ks s => by kernel_rfl⟩
theorem cx96_ok (X : Type) (n : Nat) : CxOK Tryz.prog SW (cx96 X n) := mkCx_ok mixed (tabOK tab_ok) ⟨⟨Tryz.func96, by decide⟩, trivial⟩ trivial ⟨okC_mk (fun _ => rfl) (by kernel_rfl) (castP (by kernel_rfl) (show (LoopOK (cx96 X n) 96 Tryz.f96.ntmps (loopNo Tryz.f96 0) (F.slices_Equal_api_Tag_api_Tag.L4.li X n) ∧ True) ∧ True from ⟨⟨F.slices_Equal_api_Tag_api_Tag.L4.ok X n, trivial⟩, trivial⟩)) (castP (by kernel_rfl) (show True from trivial)), trivial⟩ trivial
theorem ok96 (n : Nat) : FnOK Tryz.prog SW 96 [(.sl (.agg [.str, .str]) .unk), (.sl (.agg [.str, .str]) .unk)] (.one .bool) (fun x => F.slices_Equal_api_Tag_api_Tag n x.1 x.2.1) := fnOK_of WOf.st (cx96_ok _ n) (d := 8) (fun x => by kernel_rfl)
noncomputable def cx52 (X : Type) (n : Nat) : Cx X := mkCx tab.get [(52, Tryz.f52)] [(96, orcOf [(.sl (.agg [.str, .str]) .unk), (.sl (.agg [.str, .str]) .unk)] (.one .bool) (fun x => F.slices_Equal_api_Tag_api_Tag n x.1 x.2.1))] [] [] [] []
theorem cx52_ok (X : Type) (n : Nat) : CxOK Tryz.prog SW (cx52 X n) := mkCx_ok mixed (tabOK tab_ok) ⟨⟨Tryz.func52, by decide⟩, trivial⟩ ⟨orcOf_ok (ok96 n), trivial⟩ ⟨okC_mk (fun _ => rfl) (by kernel_rfl) (castP (by kernel_rfl) (show True from trivial)) (castP (by kernel_rfl) (show True from trivial)), trivial⟩ trivial
theorem ok52 (n : Nat) : FnOK Tryz.prog SW 52 [(.sl (.agg [.str, .str]) .unk), (.sl (.agg [.str, .str]) .unk)] (.one .bool) (fun x => F.metric_equal_api_Tag n x.1 x.2.1) := fnOK_of WOf.st (cx52_ok _ n) (d := 8) (fun x => by kernel_rfl)
noncomputable def cx22 (X : Type) (n : Nat) : Cx X := mkCx tab.get [(22, Tryz.f22)] [(51, orcOf [(.sl (.agg [.bool, (.int .u64), (.int .i64)]) .unk), (.sl (.agg [.bool, (.int .u64), (.int .i64)]) .unk)] (.one .bool) (fun x => F.metric_equal_api_Dec n x.1 x.2.1)), (52, orcOf [(.sl (.agg [.str, .str]) .unk), (.sl (.agg [.str, .str]) .unk)] (.one .bool) (fun x => F.metric_equal_api_Tag n x.1 x.2.1))] [] [] [] []
theorem cx22_ok (X : Type) (n : Nat) : CxOK Tryz.prog SW (cx22 X n) := mkCx_ok mixed (tabOK tab_ok) ⟨⟨Tryz.func22, by decide⟩, trivial⟩ ⟨orcOf_ok (ok51 n),
  orcOf_ok (ok52 n), trivial⟩ ⟨okC_mk (fun _ => rfl) (by kernel_rfl) (castP (by kernel_rfl) (show True from trivial)) (castP (by kernel_rfl) (show True from trivial)), trivial⟩ trivial
theorem ok22 (n : Nat) : FnOK Tryz.prog SW 22 [(.agg [.str, (.int .i64), (.sl (.agg [.bool, (.int .u64), (.int .i64)]) .unk), (.int .i64), (.sl (.agg [.str, .str]) .unk), (.int .i64)]), (.agg [.str, (.int .i64), (.sl (.agg [.bool, (.int .u64), (.int .i64)]) .unk), (.int .i64), (.sl (.agg [.str, .str]) .unk), (.int .i64)])] (.one .bool) (fun x => F.metric_Equal n x.1 x.2.1) := fnOK_of WOf.st (cx22_ok _ n) (d := 8) (fun x => by kernel_rfl)
def F.law11_DogPieces.L23.head : Shape := ⟨[(1, (.int .i64)), (5, (.const (.ref 1 0))), (7, (.const (.ref 2 0))), (8, .str), (21, .str), (22, (.int .i64))], [[.str, (.int .i64), (.sl (.agg [.bool, (.int .u64), (.int .i64)]) .unk), (.int .i64), (.sl (.agg [.str, .str]) .unk), (.int .i64)], [.str, (.int .i64), (.sl (.agg [.bool, (.int .u64), (.int .i64)]) .unk), (.int .i64), (.sl (.agg [.str, .str]) .unk), (.int .i64)], [.str, (.int .i64), (.sl (.agg [.bool, (.int .u64), (.int .i64)]) .unk), (.int .i64), (.sl (.agg [.str, .str]) (.own 0)), (.int .i64)], [.str, (.int .i64), (.sl (.agg [.bool, (.int .u64), (.int .i64)]) .unk), (.int .i64), (.sl (.agg [.str, .str]) .unk), (.int .i64)], [(.int .i64), (.int .i64)], [.str, (.int .i64), (.sl (.agg [.bool, (.int .u64), (.int .i64)]) .unk), (.int .i64), (.sl (.agg [.str, .str]) .unk), (.int .i64)], [(.int .i64), (.int .i64)], [.str, (.int .i64), (.sl (.agg [.bool, (.int .u64), (.int .i64)]) .unk), (.int .i64), (.sl (.agg [.str, .str]) .unk), (.int .i64)], [(.int .i64), (.int .i64)], [.str, (.int .i64), (.sl (.agg [.bool, (.int .u64), (.int .i64)]) .unk), (.int .i64), (.sl (.agg [.str, .str]) .unk), (.int .i64)], [(.int .i64), (.int .i64)], [.str, (.int .i64), (.sl (.agg [.bool, (.int .u64), (.int .i64)]) .unk), (.int .i64), (.sl (.agg [.str, .str]) .unk), (.int .i64)], [(.int .i64), (.int .i64)], [.str, (.int .i64), (.sl (.agg [.bool, (.int .u64), (.int .i64)]) .unk), (.int .i64), (.sl (.agg [.str, .str]) .unk), (.int .i64)], [(.int .i64), (.int .i64)]], [true], [], [], 15, 0, 0⟩
def F.law11_DogPieces.L23.e0 : Shape := ⟨[(5, (.const (.ref 1 0))), (7, (.const (.ref 2 0))), (21, .str)], [[.str, (.int .i64), (.sl (.agg [.bool, (.int .u64), (.int .i64)]) .unk), (.int .i64), (.sl (.agg [.str, .str]) .unk), (.int .i64)], [.str, (.int .i64), (.sl (.agg [.bool, (.int .u64), (.int .i64)]) .unk), (.int .i64), (.sl (.agg [.str, .str]) .unk), (.int .i64)], [.str, (.int .i64), (.sl (.agg [.bool, (.int .u64), (.int .i64)]) .unk), (.int .i64), (.sl (.agg [.str, .str]) (.own 0)), (.int .i64)], [.str, (.int .i64), (.sl (.agg [.bool, (.int .u64), (.int .i64)]) .unk), (.int .i64), (.sl (.agg [.str, .str]) .unk), (.int .i64)], [(.int .i64), (.int .i64)], [.str, (.int .i64), (.sl (.agg [.bool, (.int .u64), (.int .i64)]) .unk), (.int .i64), (.sl (.agg [.str, .str]) .unk), (.int .i64)], [(.int .i64), (.int .i64)], [.str, (.int .i64), (.sl (.agg [.bool, (.int .u64), (.int .i64)]) .unk), (.int .i64), (.sl (.agg [.str, .str]) .unk), (.int .i64)], [(.int .i64), (.int .i64)], [.str, (.int .i64), (.sl (.agg [.bool, (.int .u64), (.int .i64)]) .unk), (.int .i64), (.sl (.agg [.str, .str]) .unk), (.int .i64)], [(.int .i64), (.int .i64)], [.str, (.int .i64), (.sl (.agg [.bool, (.int .u64), (.int .i64)]) .unk), (.int .i64), (.sl (.agg [.str, .str]) .unk), (.int .i64)], [(.int .i64), (.int .i64)], [.str, (.int .i64), (.sl (.agg [.bool, (.int .u64), (.int .i64)]) .unk), (.int .i64), (.sl (.agg [.str, .str]) .unk), (.int .i64)], [(.int .i64), (.int .i64)]], [true], [], [], 15, 0, 0⟩
def F.law11_DogPieces.L23.er : Shape := ⟨[(4, .bool)], [[.str, (.int .i64), (.sl (.agg [.bool, (.int .u64), (.int .i64)]) .unk), (.int .i64), (.sl (.agg [.str, .str]) .unk), (.int .i64)], [.str, (.int .i64), (.sl (.agg [.bool, (.int .u64), (.int .i64)]) .unk), (.int .i64), (.sl (.agg [.str, .str]) .unk), (.int .i64)], [.str, (.int .i64), (.sl (.agg [.bool, (.int .u64), (.int .i64)]) .unk), (.int .i64), (.sl (.agg [.str, .str]) (.own 0)), (.int .i64)], [.str, (.int .i64), (.sl (.agg [.bool, (.int .u64), (.int .i64)]) .unk), (.int .i64), (.sl (.agg [.str, .str]) .unk), (.int .i64)], [(.int .i64), (.int .i64)], [.str, (.int .i64), (.sl (.agg [.bool, (.int .u64), (.int .i64)]) .unk), (.int .i64), (.sl (.agg [.str, .str]) .unk), (.int .i64)], [(.int .i64), (.int .i64)], [.str, (.int .i64), (.sl (.agg [.bool, (.int .u64), (.int .i64)]) .unk), (.int .i64), (.sl (.agg [.str, .str]) .unk), (.int .i64)], [(.int .i64), (.int .i64)], [.str, (.int .i64), (.sl (.agg [.bool, (.int .u64), (.int .i64)]) .unk), (.int .i64), (.sl (.agg [.str, .str]) .unk), (.int .i64)], [(.int .i64), (.int .i64)], [.str, (.int .i64), (.sl (.agg [.bool, (.int .u64), (.int .i64)]) .unk), (.int .i64), (.sl (.agg [.str, .str]) .unk), (.int .i64)], [(.int .i64), (.int .i64)], [.str, (.int .i64), (.sl (.agg [.bool, (.int .u64), (.int .i64)]) .unk), (.int .i64), (.sl (.agg [.str, .str]) .unk), (.int .i64)], [(.int .i64), (.int .i64)]], [true], [], [], 15, 0, 0⟩
noncomputable def F.law11_DogPieces.L23.f {X : Type} (n m : Nat) (ks : Ks X) (s : F.law11_DogPieces.L23.head.den) : Option X := F.law11_DogPieces.L23 n (fun q21 qb0_0 qb0_1 qb0_2 qb0_3 qb0_4 qb0_5 qb1_0 qb1_1 qb1_2 qb1_3 qb1_4 qb1_5 qb2_0 qb2_1 qb2_2 qb2_3 qb2_4 qb2_5 qb3_0 qb3_1 qb3_2 qb3_3 qb3_4 qb3_5 qb4_0 qb4_1 qb5_0 qb5_1 qb5_2 qb5_3 qb5_4 qb5_5 qb6_0 qb6_1 qb7_0 qb7_1 qb7_2 qb7_3 qb7_4 qb7_5 qb8_0 qb8_1 qb9_0 qb9_1 qb9_2 qb9_3 qb9_4 qb9_5 qb10_0 qb10_1 qb11_0 qb11_1 qb11_2 qb11_3 qb11_4 qb11_5 qb12_0 qb12_1 qb13_0 qb13_1 qb13_2 qb13_3 qb13_4 qb13_5 qb14_0 qb14_1 qk0 => ks.ex 0 (F.law11_DogPieces.L23.e0.e (((), (), q21, ()), ((qb0_0, qb0_1, qb0_2, qb0_3, qb0_4, qb0_5, ()), (qb1_0, qb1_1, qb1_2, qb1_3, qb1_4, qb1_5, ()), (qb2_0, qb2_1, qb2_2, qb2_3, qb2_4, qb2_5, ()), (qb3_0, qb3_1, qb3_2, qb3_3, qb3_4, qb3_5, ()), (qb4_0, qb4_1, ()), (qb5_0, qb5_1, qb5_2, qb5_3, qb5_4, qb5_5, ()), (qb6_0, qb6_1, ()), (qb7_0, qb7_1, qb7_2, qb7_3, qb7_4, qb7_5, ()), (qb8_0, qb8_1, ()), (qb9_0, qb9_1, qb9_2, qb9_3, qb9_4, qb9_5, ()), (qb10_0, qb10_1, ()), (qb11_0, qb11_1, qb11_2, qb11_3, qb11_4, qb11_5, ()), (qb12_0, qb12_1, ()), (qb13_0, qb13_1, qb13_2, qb13_3, qb13_4, qb13_5, ()), (qb14_0, qb14_1, ()), ()), (qk0, ()), ())) (F.law11_DogPieces.L23.e0.h (((), (), q21, ()), ((qb0_0, qb0_1, qb0_2, qb0_3, qb0_4, qb0_5, ()), (qb1_0, qb1_1, qb1_2, qb1_3, qb1_4, qb1_5, ()), (qb2_0, qb2_1, qb2_2, qb2_3, qb2_4, qb2_5, ()), (qb3_0, qb3_1, qb3_2, qb3_3, qb3_4, qb3_5, ()), (qb4_0, qb4_1, ()), (qb5_0, qb5_1, qb5_2, qb5_3, qb5_4, qb5_5, ()), (qb6_0, qb6_1, ()), (qb7_0, qb7_1, qb7_2, qb7_3, qb7_4, qb7_5, ()), (qb8_0, qb8_1, ()), (qb9_0, qb9_1, qb9_2, qb9_3, qb9_4, qb9_5, ()), (qb10_0, qb10_1, ()), (qb11_0, qb11_1, qb11_2, qb11_3, qb11_4, qb11_5, ()), (qb12_0, qb12_1, ()), (qb13_0, qb13_1, qb13_2, qb13_3, qb13_4, qb13_5, ()), (qb14_0, qb14_1, ()), ()), (qk0, ()), ()))) (fun q4 qb0_0 qb0_1 qb0_2 qb0_3 qb0_4 qb0_5 qb1_0 qb1_1 qb1_2 qb1_3 qb1_4 qb1_5 qb2_0 qb2_1 qb2_2 qb2_3 qb2_4 qb2_5 qb3_0 qb3_1 qb3_2 qb3_3 qb3_4 qb3_5 qb4_0 qb4_1 qb5_0 qb5_1 qb5_2 qb5_3 qb5_4 qb5_5 qb6_0 qb6_1 qb7_0 qb7_1 qb7_2 qb7_3 qb7_4 qb7_5 qb8_0 qb8_1 qb9_0 qb9_1 qb9_2 qb9_3 qb9_4 qb9_5 qb10_0 qb10_1 qb11_0 qb11_1 qb11_2 qb11_3 qb11_4 qb11_5 qb12_0 qb12_1 qb13_0 qb13_1 qb13_2 qb13_3 qb13_4 qb13_5 qb14_0 qb14_1 qk0 => ks.ret (F.law11_DogPieces.L23.er.e ((q4, ()), ((qb0_0, qb0_1, qb0_2, qb0_3, qb0_4, qb0_5, ()), (qb1_0, qb1_1, qb1_2, qb1_3, qb1_4, qb1_5, ()), (qb2_0, qb2_1, qb2_2, qb2_3, qb2_4, qb2_5, ()), (qb3_0, qb3_1, qb3_2, qb3_3, qb3_4, qb3_5, ()), (qb4_0, qb4_1, ()), (qb5_0, qb5_1, qb5_2, qb5_3, qb5_4, qb5_5, ()), (qb6_0, qb6_1, ()), (qb7_0, qb7_1, qb7_2, qb7_3, qb7_4, qb7_5, ()), (qb8_0, qb8_1, ()), (qb9_0, qb9_1, qb9_2, qb9_3, qb9_4, qb9_5, ()), (qb10_0, qb10_1, ()), (qb11_0, qb11_1, qb11_2, qb11_3, qb11_4, qb11_5, ()), (qb12_0, qb12_1, ()), (qb13_0, qb13_1, qb13_2, qb13_3, qb13_4, qb13_5, ()), (qb14_0, qb14_1, ()), ()), (qk0, ()), ())) (F.law11_DogPieces.L23.er.h ((q4, ()), ((qb0_0, qb0_1, qb0_2, qb0_3, qb0_4, qb0_5, ()), (qb1_0, qb1_1, qb1_2, qb1_3, qb1_4, qb1_5, ()), (qb2_0, qb2_1, qb2_2, qb2_3, qb2_4, qb2_5, ()), (qb3_0, qb3_1, qb3_2, qb3_3, qb3_4, qb3_5, ()), (qb4_0, qb4_1, ()), (qb5_0, qb5_1, qb5_2, qb5_3, qb5_4, qb5_5, ()), (qb6_0, qb6_1, ()), (qb7_0, qb7_1, qb7_2, qb7_3, qb7_4, qb7_5, ()), (qb8_0, qb8_1, ()), (qb9_0, qb9_1, qb9_2, qb9_3, qb9_4, qb9_5, ()), (qb10_0, qb10_1, ()), (qb11_0, qb11_1, qb11_2, qb11_3, qb11_4, qb11_5, ()), (qb12_0, qb12_1, ()), (qb13_0, qb13_1, qb13_2, qb13_3, qb13_4, qb13_5, ()), (qb14_0, qb14_1, ()), ()), (qk0, ()), ()))) m s.1.1 s.1.2.2.2.1 s.1.2.2.2.2.1 s.1.2.2.2.2.2.1 s.2.1.1.1 s.2.1.1.2.1 s.2.1.1.2.2.1 s.2.1.1.2.2.2.1 s.2.1.1.2.2.2.2.1 s.2.1.1.2.2.2.2.2.1 s.2.1.2.1.1 s.2.1.2.1.2.1 s.2.1.2.1.2.2.1 s.2.1.2.1.2.2.2.1 s.2.1.2.1.2.2.2.2.1 s.2.1.2.1.2.2.2.2.2.1 s.2.1.2.2.1.1 s.2.1.2.2.1.2.1 s.2.1.2.2.1.2.2.1 s.2.1.2.2.1.2.2.2.1 s.2.1.2.2.1.2.2.2.2.1 s.2.1.2.2.1.2.2.2.2.2.1 s.2.1.2.2.2.1.1 s.2.1.2.2.2.1.2.1 s.2.1.2.2.2.1.2.2.1 s.2.1.2.2.2.1.2.2.2.1 s.2.1.2.2.2.1.2.2.2.2.1 s.2.1.2.2.2.1.2.2.2.2.2.1 s.2.1.2.2.2.2.1.1 s.2.1.2.2.2.2.1.2.1 s.2.1.2.2.2.2.2.1.1 s.2.1.2.2.2.2.2.1.2.1 s.2.1.2.2.2.2.2.1.2.2.1 s.2.1.2.2.2.2.2.1.2.2.2.1 s.2.1.2.2.2.2.2.1.2.2.2.2.1 s.2.1.2.2.2.2.2.1.2.2.2.2.2.1 s.2.1.2.2.2.2.2.2.1.1 s.2.1.2.2.2.2.2.2.1.2.1 s.2.1.2.2.2.2.2.2.2.1.1 s.2.1.2.2.2.2.2.2.2.1.2.1 s.2.1.2.2.2.2.2.2.2.1.2.2.1 s.2.1.2.2.2.2.2.2.2.1.2.2.2.1 s.2.1.2.2.2.2.2.2.2.1.2.2.2.2.1 s.2.1.2.2.2.2.2.2.2.1.2.2.2.2.2.1 s.2.1.2.2.2.2.2.2.2.2.1.1 s.2.1.2.2.2.2.2.2.2.2.1.2.1 s.2.1.2.2.2.2.2.2.2.2.2.1.1 s.2.1.2.2.2.2.2.2.2.2.2.1.2.1 s.2.1.2.2.2.2.2.2.2.2.2.1.2.2.1 s.2.1.2.2.2.2.2.2.2.2.2.1.2.2.2.1 s.2.1.2.2.2.2.2.2.2.2.2.1.2.2.2.2.1 s.2.1.2.2.2.2.2.2.2.2.2.1.2.2.2.2.2.1 s.2.1.2.2.2.2.2.2.2.2.2.2.1.1 s.2.1.2.2.2.2.2.2.2.2.2.2.1.2.1 s.2.1.2.2.2.2.2.2.2.2.2.2.2.1.1 s.2.1.2.2.2.2.2.2.2.2.2.2.2.1.2.1 s.2.1.2.2.2.2.2.2.2.2.2.2.2.1.2.2.1 s.2.1.2.2.2.2.2.2.2.2.2.2.2.1.2.2.2.1 s.2.1.2.2.2.2.2.2.2.2.2.2.2.1.2.2.2.2.1 s.2.1.2.2.2.2.2.2.2.2.2.2.2.1.2.2.2.2.2.1 s.2.1.2.2.2.2.2.2.2.2.2.2.2.2.1.1 s.2.1.2.2.2.2.2.2.2.2.2.2.2.2.1.2.1 s.2.1.2.2.2.2.2.2.2.2.2.2.2.2.2.1.1 s.2.1.2.2.2.2.2.2.2.2.2.2.2.2.2.1.2.1 s.2.1.2.2.2.2.2.2.2.2.2.2.2.2.2.1.2.2.1 s.2.1.2.2.2.2.2.2.2.2.2.2.2.2.2.1.2.2.2.1 s.2.1.2.2.2.2.2.2.2.2.2.2.2.2.2.1.2.2.2.2.1 s.2.1.2.2.2.2.2.2.2.2.2.2.2.2.2.1.2.2.2.2.2.1 s.2.1.2.2.2.2.2.2.2.2.2.2.2.2.2.2.1.1 s.2.1.2.2.2.2.2.2.2.2.2.2.2.2.2.2.1.2.1 s.2.2.1.1
noncomputable def F.law11_DogPieces.L23.li (X : Type) (n : Nat) : LoopI X := ⟨8, ⟨0, 0, 0⟩, F.law11_DogPieces.L23.head, [(0, F.law11_DogPieces.L23.e0)], some F.law11_DogPieces.L23.er, F.law11_DogPieces.L23.f n n⟩
noncomputable def cx6 (X : Type) (n : Nat) : Cx X := mkCx tab.get [(6, Tryz.f6)] [(9, orcOf [] (.one .bool) (fun x => F.law11_awake n )), (14, orcOf [(.agg [.str, (.int .i64), (.sl (.agg [.bool, (.int .u64), (.int .i64)]) .unk), (.int .i64), (.sl (.agg [.str, .str]) .unk), (.int .i64)])] (.one .bool) (fun x => F.law07_Few n x.1)), (15, orcOf [(.agg [.str, (.int .i64), (.sl (.agg [.bool, (.int .u64), (.int .i64)]) .unk), (.int .i64), (.sl (.agg [.str, .str]) .unk), (.int .i64)])] (.many [.str, (.int .i64)]) (fun x => F.dog_Line n x.1)), (18, orcOf [.str] (.many [(.agg [.str, (.int .i64), (.sl (.agg [.bool, (.int .u64), (.int .i64)]) .unk), (.int .i64), (.sl (.agg [.str, .str]) .unk), (.int .i64)]), (.agg [(.int .i64), (.int .i64)])]) (fun x => F.dog_Parse n x.1)), (21, orcOf [(.agg [.str, (.int .i64), (.sl (.agg [.bool, (.int .u64), (.int .i64)]) .unk), (.int .i64), (.sl (.agg [.str, .str]) .unk), (.int .i64)])] (.many [(.agg [.str, (.int .i64), (.sl (.agg [.bool, (.int .u64), (.int .i64)]) .unk), (.int .i64), (.sl (.agg [.str, .str]) .unk), (.int .i64)]), (.int .i64)]) (fun x => F.metric_Normal n x.1)), (22, orcOf [(.agg [.str, (.int .i64), (.sl (.agg [.bool, (.int .u64), (.int .i64)]) .unk), (.int .i64), (.sl (.agg [.str, .str]) .unk), (.int .i64)]), (.agg [.str, (.int .i64), (.sl (.agg [.bool, (.int .u64), (.int .i64)]) .unk), (.int .i64), (.sl (.agg [.str, .str]) .unk), (.int .i64)])] (.one .bool) (fun x => F.metric_Equal n x.1 x.2.1))] [(6, 23, [F.law11_DogPieces.L23.li X n])] [] [] []
theorem F.law11_DogPieces.L23.ok (X : Type) (n : Nat) : LoopOK (cx6 X n) 6 Tryz.f6.ntmps (loopNo Tryz.f6 0) (F.law11_DogPieces.L23.li X n) :=
  ⟨F.law11_DogPieces.L23.f n, n, fun _ _ => rfl, fun _ _ => rfl, fun m ks s => by kernel_rfl⟩
theorem cx6_ok (X : Type) (n : Nat) : CxOK Tryz.prog SW (cx6 X n) := mkCx_ok mixed (tabOK tab_ok) ⟨⟨Tryz.func6, by decide⟩, trivial⟩ ⟨orcOf_ok (ok9 n),
  orcOf_ok (ok14 n),
  orcOf_ok (ok15 n),
  orcOf_ok (ok18 n),
  orcOf_ok (ok21 n),
  orcOf_ok (ok22 n), trivial⟩ ⟨okC_mk (fun _ => rfl) (by kernel_rfl) (castP (by kernel_rfl) (show (LoopOK (cx6 X n) 6 Tryz.f6.ntmps (loopNo Tryz.f6 0) (F.law11_DogPieces.L23.li X n) ∧ True) ∧ True from ⟨⟨F.law11_DogPieces.L23.ok X n, trivial⟩, trivial⟩)) (castP (by kernel_rfl) (show True from trivial)), trivial⟩ trivial
theorem ok6 (n : Nat) : FnOK Tryz.prog SW 6 [(.agg [.str, (.int .i64), (.sl (.agg [.bool, (.int .u64), (.int .i64)]) .unk), (.int .i64), (.sl (.agg [.str, .str]) .unk), (.int .i64)]), (.int .i64)] (.one .bool) (fun x => F.law11_DogPieces n x.1 x.2.1) := fnOK_of WOf.st (cx6_ok _ n) (d := 8) (fun x => by kernel_rfl)
end Go.AM
set_option linter.unusedVariables false
set_option linter.unusedSimpArgs false
namespace Go.AM
def isDig (b : UInt8) : Bool := decide (48 ≤ b.toNat) && decide (b.toNat ≤ 57)
def dv (b : UInt8) : Nat := b.toNat - 48
def valF (a : Nat) (l : List UInt8) : Nat := l.foldl (fun a b => a * 10 + dv b) a
theorem valF_nil (a : Nat) : valF a [] = a := rfl
theorem valF_cons (a : Nat) (b : UInt8) (l : List UInt8) : valF a (b :: l) = valF (a * 10 + dv b) l := by unfold valF; rw [List.foldl_cons]
def val (l : List UInt8) : Nat := valF 0 l
def Digs (l : List UInt8) : Prop := l.all isDig = true
theorem isDig_iff {b : UInt8} : isDig b = true ↔ 48 ≤ b.toNat ∧ b.toNat ≤ 57 := by simp [isDig]
theorem digs_cons {b : UInt8} {l : List UInt8} : Digs (b :: l) ↔ isDig b = true ∧ Digs l := by simp [Digs]
theorem digs_append {l m : List UInt8} : Digs (l ++ m) ↔ Digs l ∧ Digs m := by simp [Digs]
theorem digs_rep (k : Nat) : Digs (List.replicate k 48) := by
  unfold Digs
  rw [List.all_eq_true]
  intro x hx
  rw [List.eq_of_mem_replicate hx]
  rfl
theorem digs_drop {l : List UInt8} (k : Nat) (h : Digs l) : Digs (l.drop k) := by
  unfold Digs at h ⊢
  rw [List.all_eq_true] at h ⊢
  exact fun x hx => h x (List.mem_of_mem_drop hx)
theorem digs_take {l : List UInt8} (k : Nat) (h : Digs l) : Digs (l.take k) := by
  unfold Digs at h ⊢
  rw [List.all_eq_true] at h ⊢
  exact fun x hx => h x (List.mem_of_mem_take hx)
theorem dv_lt {b : UInt8} (h : isDig b = true) : dv b < 10 := by
  have := isDig_iff.1 h
  unfold dv
  omega
theorem u8_ext {a b : UInt8} (h : a.toNat = b.toNat) : a = b := UInt8.toNat_inj.1 h
theorem dv_inj {a b : UInt8} (ha : isDig a = true) (hb : isDig b = true) (h : dv a = dv b) : a = b := by
  have h1 := isDig_iff.1 ha
  have h2 := isDig_iff.1 hb
  unfold dv at h
  exact u8_ext (by omega)
theorem valF_eq (a : Nat) (l : List UInt8) : valF a l = a * 10 ^ l.length + val l := by
  unfold val
  induction l generalizing a with
  | nil => rw [valF_nil, valF_nil]; simp
  | cons b l ih =>
    simp only [valF_cons, List.length_cons]
    rw [ih (a * 10 + dv b), ih (0 * 10 + dv b), Nat.pow_succ, Nat.add_mul, Nat.zero_mul, Nat.zero_add, Nat.mul_assoc, Nat.mul_comm 10, Nat.add_assoc]
theorem val_nil : val [] = 0 := rfl
theorem val_cons (b : UInt8) (l : List UInt8) : val (b :: l) = dv b * 10 ^ l.length + val l := by
  show valF (0 * 10 + dv b) l = _
  rw [valF_eq, Nat.zero_mul, Nat.zero_add]
theorem val_append (l m : List UInt8) : val (l ++ m) = val l * 10 ^ m.length + val m := by
  induction l with
  | nil => simp [val_nil]
  | cons b l ih => rw [List.cons_append, val_cons, val_cons, ih, List.length_append, Nat.pow_add, Nat.add_mul, Nat.mul_assoc, Nat.add_assoc]
theorem val_snoc (l : List UInt8) (b : UInt8) : val (l ++ [b]) = val l * 10 + dv b := by rw [val_append, val_cons]; simp [val_nil]
theorem val_lt {l : List UInt8} (h : Digs l) : val l < 10 ^ l.length := by
  induction l with
  | nil => simp [val_nil]
  | cons b l ih =>
    obtain ⟨h1, h2⟩ := digs_cons.1 h
    have := ih h2
    have hd := dv_lt h1
    rw [val_cons, List.length_cons, Nat.pow_succ, Nat.mul_comm (10 ^ l.length)]
    have h3 : dv b * 10 ^ l.length ≤ 9 * 10 ^ l.length := Nat.mul_le_mul_right _ (by omega)
    omega
theorem dv_48 : dv 48 = 0 := rfl
theorem val_rep (k : Nat) : val (List.replicate k 48) = 0 := by
  induction k with
  | zero => rfl
  | succ k ih => rw [List.replicate_succ, val_cons, ih, dv_48]; simp
theorem val_zeros_left (k : Nat) (l : List UInt8) : val (List.replicate k 48 ++ l) = val l := by rw [val_append, val_rep]; simp
theorem val_zeros_right (k : Nat) (l : List UInt8) : val (l ++ List.replicate k 48) = val l * 10 ^ k := by rw [val_append, val_rep]; simp
theorem val_eq_zero {l : List UInt8} (hd : Digs l) (h : val l = 0) : l = List.replicate l.length 48 := by
  induction l with
  | nil => rfl
  | cons b l ih =>
    obtain ⟨h1, h2⟩ := digs_cons.1 hd
    rw [val_cons] at h
    have hp : 0 < 10 ^ l.length := Nat.pow_pos (by omega)
    have h3 : dv b = 0 := by
      cases hb : dv b with
      | zero => rfl
      | succ k => rw [hb, Nat.succ_mul] at h; omega
    rw [List.length_cons, List.replicate_succ, ← ih h2 (by omega)]
    rw [dv_inj (a := b) (b := 48) h1 rfl h3]
theorem val_inj {l m : List UInt8} (hl : Digs l) (hm : Digs m) (hlen : l.length = m.length) (h : val l = val m) : l = m := by
  induction l generalizing m with
  | nil => cases m with
    | nil => rfl
    | cons => simp at hlen
  | cons b l ih => cases m with
    | nil => simp at hlen
    | cons c m =>
      obtain ⟨h1, h2⟩ := digs_cons.1 hl
      obtain ⟨h3, h4⟩ := digs_cons.1 hm
      have hlen : l.length = m.length := by simpa using hlen
      rw [val_cons, val_cons, hlen] at h
      have b1 := val_lt h2
      have b2 := val_lt h4
      rw [hlen] at b1
      have hp : 0 < 10 ^ m.length := Nat.pow_pos (by omega)
      have e : dv b = dv c := by
        have q1 := congrArg (· / 10 ^ m.length) h
        simp only [Nat.mul_comm (dv b), Nat.mul_comm (dv c), Nat.mul_add_div hp, Nat.div_eq_of_lt b1, Nat.div_eq_of_lt b2] at q1
        omega
      rw [e] at h
      rw [dv_inj h1 h3 e, ih h2 h4 hlen (by omega)]
theorem dig_of (k : Nat) (h : k < 10) : (UInt8.ofNat (48 + k)).toNat = 48 + k := by simp [UInt8.toNat_ofNat']; omega
theorem isDig_of (k : Nat) (h : k < 10) : isDig (UInt8.ofNat (48 + k)) = true := by rw [isDig_iff, dig_of k h]; omega
theorem dv_of (k : Nat) (h : k < 10) : dv (UInt8.ofNat (48 + k)) = k := by unfold dv; rw [dig_of k h]; omega
theorem dd_small {u : Nat} (h : u < 10) : Lib.decDigits u = [UInt8.ofNat (48 + u)] := Lib.decDigits_one h
theorem dd_big {u : Nat} (h : ¬ u < 10) : Lib.decDigits u = Lib.decDigits (u / 10) ++ [UInt8.ofNat (48 + u % 10)] := by rw [Lib.decDigits, dif_neg h]
theorem dd_digs (u : Nat) : Digs (Lib.decDigits u) := by
  induction u using Nat.strongRecOn with
  | _ u ih =>
    by_cases h : u < 10
    · rw [dd_small h, digs_cons]; exact ⟨isDig_of u h, rfl⟩
    · rw [dd_big h, digs_append, digs_cons]
      exact ⟨ih _ (by omega), isDig_of _ (by omega), rfl⟩
theorem dd_val (u : Nat) : val (Lib.decDigits u) = u := by
  induction u using Nat.strongRecOn with
  | _ u ih =>
    by_cases h : u < 10
    · rw [dd_small h, val_cons, dv_of u h]; simp [val_nil]
    · rw [dd_big h, val_snoc, ih _ (by omega), dv_of _ (by omega)]; omega
theorem dd_ne (u : Nat) : Lib.decDigits u ≠ [] := by
  by_cases h : u < 10
  · rw [dd_small h]; simp
  · rw [dd_big h]; simp
theorem dd_length (u : Nat) : (Lib.decDigits u).length = Lib.nDigits u := Lib.decDigits_length u
theorem dd_length_le {u k : Nat} (hk : 0 < k) (h : u < 10 ^ k) : (Lib.decDigits u).length ≤ k := by
  rw [dd_length]
  induction k generalizing u with
  | zero => omega
  | succ k ih =>
    by_cases h1 : u < 10
    · rw [Lib.nDigits_small h1]; omega
    · rw [Lib.nDigits_big h1]
      cases k with
      | zero => simp at h; omega
      | succ k =>
        have := ih (u := u / 10) (by omega) (by rw [Nat.pow_succ] at h; omega)
        omega
theorem dd_length_ge {u k : Nat} (h : 10 ^ k ≤ u) : k < (Lib.decDigits u).length := by
  rw [dd_length]
  have := Lib.lt_pow_nDigits u
  exact (Nat.pow_lt_pow_iff_right (by omega)).1 (Nat.lt_of_le_of_lt h this)
def Norm (l : List UInt8) : Prop := l ≠ [] ∧ (l.head? = some 48 → l.length = 1)
theorem dd_head (u : Nat) : Norm (Lib.decDigits u) := by
  refine ⟨dd_ne u, ?_⟩
  induction u using Nat.strongRecOn with
  | _ u ih =>
    by_cases h : u < 10
    · rw [dd_small h]; simp
    · rw [dd_big h]
      intro hh
      have hn := dd_ne (u / 10)
      rw [List.head?_append, Option.or_of_isSome (by cases e : Lib.decDigits (u / 10) with | nil => exact absurd e hn | cons => rfl)] at hh
      have h1 := ih (u / 10) (by omega) hh
      have hv := dd_val (u / 10)
      cases e : Lib.decDigits (u / 10) with
      | nil => exact absurd e hn
      | cons b r =>
        rw [e] at h1 hh hv
        have hr : r = [] := by simpa using h1
        subst hr
        have hb : b = 48 := by simpa using hh
        subst hb
        rw [val_cons, dv_48] at hv
        simp [val_nil] at hv
        omega
theorem dd_inv {l : List UInt8} (hd : Digs l) (hn : Norm l) : Lib.decDigits (val l) = l := by
  have hv := dd_val (val l)
  have h1 := dd_digs (val l)
  have h2 := dd_head (val l)
  have hlen : (Lib.decDigits (val l)).length = l.length := by
    cases l with
    | nil => exact absurd rfl hn.1
    | cons b r =>
      have hle : (Lib.decDigits (val (b :: r))).length ≤ (b :: r).length := dd_length_le (by simp) (val_lt hd)
      by_cases hb : b = 48
      · have : r = [] := by simpa using hn.2 (by simp [hb])
        subst this
        have := List.length_pos_iff.2 (dd_ne (val [b]))
        simp at hle ⊢
        omega
      · have h3 : 10 ^ r.length ≤ val (b :: r) := by
          rw [val_cons]
          have : 1 ≤ dv b := by
            cases e : dv b with
            | zero => exact absurd (dv_inj (digs_cons.1 hd).1 (b := 48) rfl e) hb
            | succ k => omega
          have := Nat.mul_le_mul_right (10 ^ r.length) this
          omega
        have := dd_length_ge h3
        simp at hle ⊢
        omega
  exact val_inj h1 hd hlen hv
theorem pu10 (acc : Nat) (l : List UInt8) (hd : Digs l) (ha : acc < 18446744073709551616) : Lib.parseUint10 acc l = if valF acc l < 18446744073709551616 then .ok (valF acc l) else .range := by
  induction l generalizing acc with
  | nil => rw [valF_nil, if_pos ha]; rfl
  | cons b l ih =>
    obtain ⟨h1, h2⟩ := digs_cons.1 hd
    have hb := isDig_iff.1 h1
    have hmono : ∀ x, x ≤ valF x l := fun x => by
      rw [valF_eq]
      have : 0 < 10 ^ l.length := Nat.pow_pos (by omega)
      have := Nat.le_mul_of_pos_right x this
      omega
    have hm := hmono (acc * 10 + dv b)
    simp only [Lib.parseUint10, hb, and_self, if_true]
    rw [valF_cons]
    generalize hV : valF (acc * 10 + dv b) l = V at hm ⊢
    unfold dv at hm
    by_cases h3 : 1844674407370955162 ≤ acc
    · rw [if_pos h3, if_neg (by omega)]
    · rw [if_neg h3]
      by_cases h4 : 18446744073709551616 ≤ acc * 10 + (b.toNat - 48)
      · rw [if_pos h4, if_neg (by omega)]
      · rw [if_neg h4, ih _ h2 (by omega)]
        have : valF (acc * 10 + (b.toNat - 48)) l = V := hV
        rw [this]
theorem atoi_digs {l : List UInt8} (hd : Digs l) (hn : l ≠ []) : Lib.atoiAll l = if val l < 9223372036854775808 then .ok (val l : Int) else .range := by
  cases l with
  | nil => exact absurd rfl hn
  | cons b r =>
    have hb := isDig_iff.1 (digs_cons.1 hd).1
    simp only [Lib.atoiAll]
    rw [if_neg (by omega)]
    unfold Lib.parseMag
    rw [if_neg (by simp), pu10 0 _ hd (by omega)]
    have e : valF 0 (b :: r) = val (b :: r) := rfl
    rw [e]
    by_cases h1 : val (b :: r) < 18446744073709551616
    · rw [if_pos h1]
      simp only []
      by_cases h2 : val (b :: r) < 9223372036854775808
      · rw [if_pos h2, if_neg (by omega), if_neg (by omega), if_neg (by omega)]
      · rw [if_neg h2, if_pos (by omega)]
    · rw [if_neg h1, if_neg (by omega)]
def trz : List UInt8 → List UInt8
  | [] => []
  | b :: l => if trz l = [] then (if b = 48 then [] else [b]) else b :: trz l
theorem trimR_rep (l : List UInt8) (c : UInt8) : ∃ k, l = Lib.trimRightB l c ++ List.replicate k c ∧ (∀ x, (Lib.trimRightB l c).getLast? = some x → x ≠ c) := by
  have h := List.takeWhile_append_dropWhile (p := fun b : UInt8 => b == c) (l := l.reverse)
  refine ⟨(l.reverse.takeWhile (· == c)).length, ?_, ?_⟩
  · unfold Lib.trimRightB
    have h2 := congrArg List.reverse h
    rw [List.reverse_append, List.reverse_reverse] at h2
    have h3 : (l.reverse.takeWhile (· == c)).reverse = List.replicate (l.reverse.takeWhile (· == c)).length c := by
      rw [List.eq_replicate_iff]
      refine ⟨by simp, fun b hb => ?_⟩
      have := List.all_eq_true.1 (List.all_takeWhile (p := fun b : UInt8 => b == c) (l := l.reverse)) b (List.mem_reverse.1 hb)
      simpa using this
    rw [h3] at h2
    exact h2.symm
  · intro x hx
    unfold Lib.trimRightB at hx
    rw [List.getLast?_reverse] at hx
    have := List.head?_dropWhile_not (p := fun b : UInt8 => b == c) (l := l.reverse)
    rw [hx] at this
    simpa using this
theorem trz_rep (l : List UInt8) : ∃ k, l = trz l ++ List.replicate k 48 ∧ (∀ x, (trz l).getLast? = some x → x ≠ 48) := by
  induction l with
  | nil => exact ⟨0, rfl, by simp [trz]⟩
  | cons b l ih =>
    obtain ⟨k, h1, h2⟩ := ih
    unfold trz
    by_cases h : trz l = []
    · rw [if_pos h]
      rw [h, List.nil_append] at h1
      by_cases hb : b = 48
      · rw [if_pos hb]
        exact ⟨k + 1, by rw [List.replicate_succ, ← h1, hb]; rfl, by simp⟩
      · rw [if_neg hb]
        exact ⟨k, by rw [← h1]; rfl, by simp [hb]⟩
    · rw [if_neg h]
      refine ⟨k, by rw [List.cons_append, ← h1], ?_⟩
      intro x hx
      rw [List.getLast?_cons] at hx
      cases e : (trz l).getLast? with
      | none => simp at e; exact absurd e h
      | some y =>
        rw [e] at hx
        have hy := h2 y e
        simp at hx
        rw [← hx]; exact hy
theorem rep_uniq {a b : List UInt8} {c : UInt8} {i j : Nat} (h : a ++ List.replicate i c = b ++ List.replicate j c) (ha : ∀ x, a.getLast? = some x → x ≠ c) (hb : ∀ x, b.getLast? = some x → x ≠ c) : a = b := by
  induction i generalizing j with
  | zero =>
    cases j with
    | zero => simpa using h
    | succ j =>
      rw [List.replicate_succ', ← List.append_assoc] at h
      simp only [List.replicate_zero, List.append_nil] at h
      exact absurd rfl (ha c (by rw [h]; simp))
  | succ i ih =>
    cases j with
    | zero =>
      rw [List.replicate_succ', ← List.append_assoc] at h
      simp only [List.replicate_zero, List.append_nil] at h
      exact absurd rfl (hb c (by rw [← h]; simp))
    | succ j =>
      rw [List.replicate_succ', List.replicate_succ', ← List.append_assoc, ← List.append_assoc] at h
      exact ih (List.append_inj_left' h rfl)
theorem trimR_trz (l : List UInt8) : Lib.trimRightB l 48 = trz l := by
  obtain ⟨i, h1, h2⟩ := trimR_rep l 48
  obtain ⟨j, h3, h4⟩ := trz_rep l
  exact rep_uniq (h1.symm.trans h3) h2 h4
theorem trz_zeros (l : List UInt8) (k : Nat) : trz (l ++ List.replicate k 48) = trz l := by
  obtain ⟨i, h1, h2⟩ := trz_rep (l ++ List.replicate k 48)
  obtain ⟨j, h3, h4⟩ := trz_rep l
  refine rep_uniq (i := i) (j := j + k) (c := 48) ?_ h2 h4
  rw [← h1]
  conv => lhs; rw [h3]
  rw [List.append_assoc, List.replicate_append_replicate]
theorem trz_self {l : List UInt8} (h : ∀ x, l.getLast? = some x → x ≠ 48) : trz l = l := by
  obtain ⟨j, h3, h4⟩ := trz_rep l
  exact (rep_uniq (i := 0) (j := j) (c := 48) (by rw [← h3]; simp) h h4).symm
theorem trz_le (l : List UInt8) : (trz l).length ≤ l.length := by
  obtain ⟨k, h1, _⟩ := trz_rep l
  have := congrArg List.length h1
  simp at this
  omega
theorem trz_digs {l : List UInt8} (h : Digs l) : Digs (trz l) := by
  obtain ⟨k, h1, _⟩ := trz_rep l
  rw [h1, digs_append] at h
  exact h.1
theorem trz_pad (l : List UInt8) : l = trz l ++ List.replicate (l.length - (trz l).length) 48 := by
  obtain ⟨k, h1, _⟩ := trz_rep l
  have := congrArg List.length h1
  simp at this
  rw [show l.length - (trz l).length = k from by omega]
  exact h1
theorem trz_last {l : List UInt8} {x : UInt8} (h : (trz l).getLast? = some x) : x ≠ 48 := by
  obtain ⟨k, _, h2⟩ := trz_rep l
  exact h2 x h
theorem trz_nil {l : List UInt8} (hd : Digs l) : trz l = [] ↔ val l = 0 := by
  constructor
  · intro h
    have := trz_pad l
    rw [h, List.nil_append] at this
    rw [this, val_rep]
  · intro h
    have := val_eq_zero hd h
    obtain ⟨k, h1, h2⟩ := trz_rep l
    rw [this] at h1 ⊢
    have := trz_zeros [] l.length
    simpa [trz] using this
end Go.AM
set_option linter.unusedVariables false
set_option linter.unusedSimpArgs false
namespace Go.AM
abbrev DecD := Bool × Int × Int × Unit
abbrev DecR := DecD × Int × Unit
def two64 : Nat := 18446744073709551616
theorem two64_eq : two64 = 18446744073709551616 := rfl
def normR (neg : Bool) (c0 : Nat) (E : Int) : DecR :=
  if E < -18 then ((false, 0, 0, ()), 10, ()) else if c0 * 10 ^ (E - 18).toNat < two64 then ((neg, ((c0 * 10 ^ (E - 18).toNat : Nat) : Int), (if E ≤ 18 then E else 18), ()), 0, ()) else ((false, 0, 0, ()), 10, ())
def zeroD : DecR := ((false, 0, 0, ()), 0, ())
def valR (neg : Bool) (d : List UInt8) (e : Int) : DecR :=
  if val d = 0 then zeroD else normR neg (val (trz d)) (e + ((d.length - (trz d).length : Nat) : Int))
theorem val_trz (d : List UInt8) : val d = val (trz d) * 10 ^ (d.length - (trz d).length) := by
  have := congrArg val (trz_pad d)
  rw [val_zeros_right] at this
  exact this
theorem core_trz {d : List UInt8} (hd : Digs d) (h : val d ≠ 0) : val (trz d) % 10 ≠ 0 := by
  have hne : trz d ≠ [] := fun hh => h ((trz_nil hd).1 hh)
  obtain ⟨x, hx⟩ : ∃ x, (trz d).getLast? = some x := by
    cases e : (trz d).getLast? with
    | none => simp at e; exact absurd e hne
    | some x => exact ⟨x, rfl⟩
  have hx48 := trz_last hx
  obtain ⟨ys, hys⟩ := List.getLast?_eq_some_iff.1 hx
  have hdig := trz_digs hd
  rw [hys] at hdig ⊢
  obtain ⟨_, h2⟩ := digs_append.1 hdig
  obtain ⟨h3, _⟩ := digs_cons.1 h2
  rw [val_snoc]
  have := dv_lt h3
  have h0 : dv x ≠ 0 := fun h0 => hx48 (dv_inj h3 (b := 48) rfl h0)
  omega
theorem core_unique {a b i j : Nat} (ha : a % 10 ≠ 0) (hb : b % 10 ≠ 0) (h : a * 10 ^ i = b * 10 ^ j) : a = b ∧ i = j := by
  induction i generalizing j with
  | zero =>
    cases j with
    | zero => simpa using h
    | succ j => rw [Nat.pow_zero, Nat.mul_one, Nat.pow_succ, ← Nat.mul_assoc] at h; omega
  | succ i ih =>
    cases j with
    | zero => rw [Nat.pow_zero, Nat.mul_one, Nat.pow_succ, ← Nat.mul_assoc] at h; omega
    | succ j =>
      rw [Nat.pow_succ, Nat.pow_succ, ← Nat.mul_assoc, ← Nat.mul_assoc] at h
      obtain ⟨h1, h2⟩ := ih (Nat.eq_of_mul_eq_mul_right (by omega) h)
      exact ⟨h1, by omega⟩
theorem valR_core {d : List UInt8} (hd : Digs d) {c0 z : Nat} (h0 : c0 % 10 ≠ 0) (hv : val d = c0 * 10 ^ z) (neg : Bool) (e : Int) : valR neg d e = normR neg c0 (e + z) := by
  have hne : val d ≠ 0 := by
    rw [hv]
    have := Nat.mul_pos (show 0 < c0 by omega) (Nat.pow_pos (n := z) (show 0 < 10 by omega))
    omega
  unfold valR
  rw [if_neg hne]
  obtain ⟨h1, h2⟩ := core_unique (core_trz hd hne) h0 ((val_trz d).symm.trans hv)
  rw [h1, h2]
theorem ten_split (c : Nat) (h : 0 < c) : ∃ c0 z, c = c0 * 10 ^ z ∧ c0 % 10 ≠ 0 := by
  induction c using Nat.strongRecOn with
  | _ c ih =>
    by_cases h1 : c % 10 = 0
    · obtain ⟨c0, z, h2, h3⟩ := ih (c / 10) (by omega) (by omega)
      exact ⟨c0, z + 1, by rw [Nat.pow_succ, ← Nat.mul_assoc, ← h2]; omega, h3⟩
    · exact ⟨c, 0, by simp, h1⟩
theorem valR_zeros_left (neg : Bool) {d : List UInt8} (hd : Digs d) (k : Nat) (e : Int) : valR neg (List.replicate k 48 ++ d) e = valR neg d e := by
  have hD : Digs (List.replicate k 48 ++ d) := digs_append.2 ⟨digs_rep _, hd⟩
  by_cases h : val d = 0
  · have : val (List.replicate k 48 ++ d) = 0 := by rw [val_zeros_left, h]
    unfold valR
    rw [if_pos h, if_pos this]
  · obtain ⟨c0, z, h1, h2⟩ := ten_split (val d) (by omega)
    rw [valR_core hd h2 h1, valR_core hD h2 (by rw [val_zeros_left, h1])]
theorem valR_zeros_right (neg : Bool) {d : List UInt8} (hd : Digs d) (k : Nat) (e : Int) : valR neg (d ++ List.replicate k 48) e = valR neg d (e + k) := by
  have hD : Digs (d ++ List.replicate k 48) := digs_append.2 ⟨hd, digs_rep _⟩
  by_cases h : val d = 0
  · have : val (d ++ List.replicate k 48) = 0 := by rw [val_zeros_right, h]; simp
    unfold valR
    rw [if_pos h, if_pos this]
  · obtain ⟨c0, z, h1, h2⟩ := ten_split (val d) (by omega)
    rw [valR_core hd h2 h1, valR_core hD h2 (z := z + k) (by rw [val_zeros_right, h1, Nat.pow_add, Nat.mul_assoc])]
    congr 1
    omega
theorem times_eq (n : Nat) (c d : Nat) (hc : c < two64) (hd : d < two64) : F.dec_times n (c : Int) (d : Int) = some ((((c * 10 + d) % two64 : Nat) : Int), decide (c * 10 + d < two64), ()) := by
  unfold F.dec_times O.mul64
  rw [two64_eq] at *
  rw [bif_pos (by omega), some_bind']
  unfold O.add64
  rw [show (c : Int).toNat = c from rfl, show (10 : Int).toNat = 10 from rfl]
  dsimp only
  rw [bif_pos (by omega), some_bind']
  simp only [Int.toNat_natCast, show (0 : Int).toNat = 0 from rfl, Nat.add_zero]
  by_cases h : c * 10 < 18446744073709551616
  · have e1 : ((((c * 10 / 18446744073709551616 : Nat) : Int)) == 0) = true := by simp; omega
    rw [e1, cond_true]
    have e2 : c * 10 % 18446744073709551616 = c * 10 := Nat.mod_eq_of_lt h
    rw [e2]
    congr 2
    congr 1
    by_cases h2 : c * 10 + d < 18446744073709551616
    · have : (c * 10 + d) / 18446744073709551616 = 0 := Nat.div_eq_of_lt h2
      simp [h2, this]
    · have : ¬ (c * 10 + d) / 18446744073709551616 = 0 := by omega
      have e : ((((c * 10 + d) / 18446744073709551616 : Nat) : Int) == 0) = false := by simp; omega
      rw [e]; simp [h2]
  · have e1 : ((((c * 10 / 18446744073709551616 : Nat) : Int)) == 0) = false := by simp; omega
    rw [e1, cond_false]
    have : ¬ c * 10 + d < 18446744073709551616 := by omega
    simp only [this, decide_false]
    congr 2
    omega
theorem strip_norm (n : Nat) (X : Type) (k0 : Bool → Int → Int → Bool → Int → Int → Option X) (neg b : Bool) (x y : Int) (c0 : Nat) (h0 : c0 % 10 ≠ 0) : ∀ (z m : Nat) (e : Int), c0 * 10 ^ z < two64 → -9223372036854775808 ≤ e → e + z ≤ 9223372036854775807 → z < m →
    ∃ j, j ≤ z ∧ F.dec_Normal.L3 n k0 m neg ((c0 * 10 ^ z : Nat) : Int) e b x y = k0 neg ((c0 * 10 ^ j : Nat) : Int) (e + z - j) b x y ∧ (j = 0 ∨ 18 ≤ e + z - j) ∧ (e + z - j ≤ 18 ∨ j = z) := by
  intro z
  induction z with
  | zero =>
    intro m e hc he1 he2 hm
    obtain ⟨m, rfl⟩ : ∃ q, m = q + 1 := ⟨m - 1, by omega⟩
    refine ⟨0, Nat.le_refl _, ?_, Or.inl rfl, Or.inr rfl⟩
    show F.dec_Normal.L3.step n _ k0 _ _ _ _ _ _ = _
    unfold F.dec_Normal.L3.step
    have e1 : ((((c0 * 10 ^ 0 : Nat) : Int).tmod 10) == 0) = false := by
      rw [Nat.pow_zero, Nat.mul_one]
      have : ¬ ((c0 : Int).tmod 10) = 0 := by
        rw [show ((c0 : Int).tmod 10) = ((c0 % 10 : Nat) : Int) from rfl]; omega
      simpa using this
    rw [e1, cond_false]
    congr 1
    omega
  | succ z ih =>
    intro m e hc he1 he2 hm
    obtain ⟨m, rfl⟩ : ∃ q, m = q + 1 := ⟨m - 1, by omega⟩
    have hstep : F.dec_Normal.L3 n k0 (m + 1) neg ((c0 * 10 ^ (z + 1) : Nat) : Int) e b x y = F.dec_Normal.L3.step n (F.dec_Normal.L3 n k0 m) k0 neg ((c0 * 10 ^ (z + 1) : Nat) : Int) e b x y := rfl
    have hmul : c0 * 10 ^ (z + 1) = c0 * 10 ^ z * 10 := by rw [Nat.pow_succ, Nat.mul_assoc]
    have e1 : ((((c0 * 10 ^ (z + 1) : Nat) : Int).tmod 10) == 0) = true := by
      have : ((c0 * 10 ^ (z + 1) : Nat) : Int).tmod 10 = 0 := by
        rw [show (((c0 * 10 ^ (z + 1) : Nat) : Int).tmod 10) = ((c0 * 10 ^ (z + 1) % 10 : Nat) : Int) from rfl]; omega
      simpa using this
    have e2 : ((c0 * 10 ^ (z + 1) : Nat) : Int).tdiv 10 = ((c0 * 10 ^ z : Nat) : Int) := by
      rw [show (((c0 * 10 ^ (z + 1) : Nat) : Int).tdiv 10) = ((c0 * 10 ^ (z + 1) / 10 : Nat) : Int) from rfl]; omega
    rw [hstep]
    unfold F.dec_Normal.L3.step
    rw [e1, cond_true]
    by_cases h18 : e < 18
    · rw [bif_pos h18, e2, IntWalk.u64_in _ (by rw [two64_eq] at hc; omega), wrap_in (by omega)]
      obtain ⟨j, j1, j2, j3, j4⟩ := ih m (e + 1) (by omega) (by omega) (by omega) (by omega)
      refine ⟨j, by omega, ?_, ?_, ?_⟩
      · rw [j2]
        congr 1
        omega
      · rcases j3 with j3 | j3
        · exact Or.inl j3
        · exact Or.inr (by omega)
      · rcases j4 with j4 | j4
        · exact Or.inl (by omega)
        · exact Or.inl (by omega)
    · rw [bif_neg h18]
      refine ⟨z + 1, Nat.le_refl _, ?_, Or.inr (by omega), Or.inr rfl⟩
      congr 1
      omega
theorem grow_norm (n : Nat) (X : Type) (k2 : Bool → Int → Int → Bool → Int → Int → Option X) (K : Int → Bool → Int → Int → Option X) (neg b : Bool) (x y : Int) : ∀ (m c d : Nat), 0 < c → c < two64 → two64 ≤ c * 10 ^ m → 18 + (d : Int) ≤ 9223372036854775807 →
    F.dec_Normal.L5 n k2 (fun q _ _ _ u v w => K q u v w) (m + 1) neg (c : Int) (18 + (d : Int)) b x y = if c * 10 ^ d < two64 then k2 neg ((c * 10 ^ d : Nat) : Int) 18 b x y else K 10 false 0 0 := by
  intro m
  induction m with
  | zero => intro c d h1 h2 h3; rw [Nat.pow_zero, Nat.mul_one] at h3; omega
  | succ m ih =>
    intro c d h1 h2 h3 h4
    have hstep : F.dec_Normal.L5 n k2 (fun q _ _ _ u v w => K q u v w) (m + 1 + 1) neg (c : Int) (18 + (d : Int)) b x y = F.dec_Normal.L5.step n (F.dec_Normal.L5 n k2 (fun q _ _ _ u v w => K q u v w) (m + 1)) k2 (fun q _ _ _ u v w => K q u v w) neg (c : Int) (18 + (d : Int)) b x y := rfl
    rw [hstep]
    unfold F.dec_Normal.L5.step
    cases d with
    | zero =>
      rw [bif_neg (by omega), Nat.pow_zero, Nat.mul_one, if_pos h2]
      rfl
    | succ d =>
      rw [bif_pos (by omega), show (0 : Int) = ((0 : Nat) : Int) from rfl, times_eq n c 0 h2 (by decide), some_bind']
      have hp : c * 10 ≤ c * 10 ^ (d + 1) := by
        rw [Nat.pow_succ, ← Nat.mul_assoc]
        have : 0 < 10 ^ d := Nat.pow_pos (by omega)
        have := Nat.le_mul_of_pos_right c this
        omega
      by_cases hf : c * 10 + 0 < two64
      · simp only [hf, decide_true, Bool.not_true, cond_false]
        rw [wrap_in (by omega), show (18 + ((d + 1 : Nat) : Int) - 1) = 18 + (d : Int) from by omega, Nat.mod_eq_of_lt hf]
        have := ih (c * 10 + 0) d (by omega) hf (by rw [Nat.pow_succ] at h3; rw [Nat.add_zero, Nat.mul_assoc, Nat.mul_comm 10]; exact h3) (by omega)
        rw [show ((0 : Nat) : Int) = (0 : Int) from rfl] at *
        rw [this, Nat.add_zero, Nat.mul_assoc, Nat.mul_comm 10, ← Nat.pow_succ]
      · have : ¬ c * 10 ^ (d + 1) < two64 := by omega
        simp only [hf, decide_false, Bool.not_false, cond_true]
        rw [if_neg this]
theorem normal_core (n : Nat) (hn : 100 ≤ n) (neg : Bool) (c0 z : Nat) (h0 : c0 % 10 ≠ 0) (hc : c0 * 10 ^ z < two64) (e : Int) (he : -9223372036854775808 ≤ e ∧ e ≤ 9223372036854775807) :
    F.dec_Normal n (neg, ((c0 * 10 ^ z : Nat) : Int), e, ()) = some (normR neg c0 (e + z)) := by
  have hz : z ≤ 20 := by
    refine Classical.byContradiction fun hh => ?_
    have h1 : 10 ^ 20 ≤ 10 ^ z := Nat.pow_le_pow_right (by omega) (by omega)
    have h2 := Nat.le_mul_of_pos_left (10 ^ z) (show 0 < c0 by omega)
    rw [two64_eq] at hc
    omega
  have hpos : 0 < c0 * 10 ^ z := Nat.mul_pos (by omega) (Nat.pow_pos (by omega))
  unfold F.dec_Normal
  have e0 : (((c0 * 10 ^ z : Nat) : Int) == 0) = false := by
    have : ¬ ((c0 * 10 ^ z : Nat) : Int) = 0 := by omega
    simpa using this
  simp only [e0, cond_false]
  by_cases hbig : 9223372036854775807 < e + z
  ·
    have h18 : ¬ e < 18 := by omega
    obtain ⟨m, rfl⟩ : ∃ q, n = q + 1 := ⟨n - 1, by omega⟩
    have hs : ∀ (k0 : Bool → Int → Int → Bool → Int → Int → Option DecR), F.dec_Normal.L3 (m + 1) k0 (m + 1) neg ((c0 * 10 ^ z : Nat) : Int) e false 0 0 = k0 neg ((c0 * 10 ^ z : Nat) : Int) e false 0 0 := by
      intro k0
      show F.dec_Normal.L3.step (m + 1) (F.dec_Normal.L3 (m + 1) k0 m) k0 _ _ _ _ _ _ = _
      unfold F.dec_Normal.L3.step
      rw [bif_neg h18]
      cases (((c0 * 10 ^ z : Nat) : Int).tmod 10 == 0) <;> rfl
    rw [hs]
    obtain ⟨d, hd⟩ : ∃ d : Nat, e = 18 + (d : Int) := ⟨(e - 18).toNat, by omega⟩
    have hfuel : two64 ≤ c0 * 10 ^ z * 10 ^ m := by
      have h1 : 10 ^ 20 ≤ 10 ^ m := Nat.pow_le_pow_right (by omega) (by omega)
      have h2 := Nat.le_mul_of_pos_left (10 ^ m) hpos
      rw [two64_eq]
      omega
    rw [hd, grow_norm (m + 1) _ _ (fun q u v w => some ((u, v, w, ()), q, ())) neg false 0 0 m _ d hpos hc hfuel (by omega)]
    have hnot : ∀ w, 20 ≤ w → ¬ c0 * 10 ^ w < two64 := by
      intro w hw
      have h1 : 10 ^ 20 ≤ 10 ^ w := Nat.pow_le_pow_right (by omega) hw
      have h2 := Nat.le_mul_of_pos_left (10 ^ w) (show 0 < c0 by omega)
      rw [two64_eq]
      omega
    unfold normR
    rw [if_neg (show ¬ 18 + (d : Int) + z < -18 by omega), if_neg (by rw [Nat.mul_assoc, ← Nat.pow_add]; exact hnot _ (by omega)), if_neg (hnot _ (by omega))]
  · obtain ⟨j, j1, j2, j3, j4⟩ := strip_norm n DecR (fun e1_b0_0 e1_b0_1 e1_b0_2 e1_b1_0 e1_b1_1 e1_b1_2 =>
        F.dec_Normal.L5 n
          (fun e3_b0_0 e3_b0_1 e3_b0_2 e3_b1_0 e3_b1_1 e3_b1_2 =>
            bif decide (e3_b0_2 < (-18 : Int)) then
              some (((false, (0 : Int), (0 : Int), ()), (10 : Int), ()))
            else
              some (((e3_b0_0, e3_b0_1, e3_b0_2, ()), (0 : Int), ())))
          (fun e4_3 e4_b0_0 e4_b0_1 e4_b0_2 e4_b1_0 e4_b1_1 e4_b1_2 =>
            some (((e4_b1_0, e4_b1_1, e4_b1_2, ()), e4_3, ()))) n e1_b0_0 e1_b0_1 e1_b0_2 e1_b1_0 e1_b1_1 e1_b1_2) neg false 0 0 c0 h0 z n e hc he.1 (by omega) (by omega)
    refine j2.trans ?_
    have hcj : c0 * 10 ^ j < two64 := by
      have h1 : 10 ^ j ≤ 10 ^ z := Nat.pow_le_pow_right (by omega) j1
      have := Nat.mul_le_mul_left c0 h1
      omega
    have hposj : 0 < c0 * 10 ^ j := Nat.mul_pos (by omega) (Nat.pow_pos (by omega))
    obtain ⟨m, rfl⟩ : ∃ q, n = q + 1 := ⟨n - 1, by omega⟩
    by_cases hE : 18 ≤ e + z - j
    · obtain ⟨d, hd⟩ : ∃ d : Nat, e + z - j = 18 + (d : Int) := ⟨(e + z - j - 18).toNat, by omega⟩
      have hfuel : two64 ≤ c0 * 10 ^ j * 10 ^ m := by
        have h1 : 10 ^ 20 ≤ 10 ^ m := Nat.pow_le_pow_right (by omega) (by omega)
        have h2 := Nat.le_mul_of_pos_left (10 ^ m) hposj
        rw [two64_eq]
        omega
      show F.dec_Normal.L5 (m + 1) _ _ (m + 1) neg _ (e + z - j) false 0 0 = _
      rw [hd, grow_norm (m + 1) _ _ (fun q u v w => some ((u, v, w, ()), q, ())) neg false 0 0 m _ d hposj hcj hfuel (by omega)]
      unfold normR
      rw [if_neg (show ¬ e + z < -18 by omega), Nat.mul_assoc, ← Nat.pow_add, show j + d = (e + z - 18).toNat from by omega]
      by_cases hf : c0 * 10 ^ (e + z - 18).toNat < two64
      · rw [if_pos hf, if_pos hf, bif_neg (by omega)]
        congr 3
        by_cases hh : e + z ≤ 18
        · rw [if_pos hh, show e + (z : Int) = 18 from by omega]
        · rw [if_neg hh]
      · rw [if_neg hf, if_neg hf]
    · have hj0 : j = 0 := by omega
      subst hj0
      have hlow : ∀ (k2 : Bool → Int → Int → Bool → Int → Int → Option DecR) (kr : Int → Bool → Int → Int → Bool → Int → Int → Option DecR) (c : Int) (E : Int), ¬ E > 18 → F.dec_Normal.L5 (m + 1) k2 kr (m + 1) neg c E false 0 0 = k2 neg c E false 0 0 := by
        intro k2 kr c E hE
        show F.dec_Normal.L5.step (m + 1) (F.dec_Normal.L5 (m + 1) k2 kr m) k2 kr neg c E false 0 0 = _
        unfold F.dec_Normal.L5.step
        rw [bif_neg hE]
      rw [hlow _ _ _ _ (by omega)]
      unfold normR
      rw [Nat.pow_zero, Nat.mul_one, show (e + (z : Int) - 18).toNat = 0 from by omega, Nat.pow_zero, Nat.mul_one, show (e + (z : Int) - ((0 : Nat) : Int)) = e + z from by omega]
      by_cases h18 : e + z < -18
      · rw [bif_pos h18, if_pos h18]
      · rw [bif_neg h18, if_neg h18, if_pos (by rw [Nat.pow_zero, Nat.mul_one] at hcj; exact hcj), if_pos (by omega)]
theorem normal_eq (n : Nat) (hn : 100 ≤ n) (neg : Bool) (c : Nat) (hc : c < two64) (e : Int) (he : -9223372036854775808 ≤ e ∧ e ≤ 9223372036854775807) : F.dec_Normal n (neg, (c : Int), e, ()) = some (valR neg (Lib.decDigits c) e) := by
  by_cases h : c = 0
  · subst h
    unfold valR
    rw [if_pos (dd_val 0)]
    rfl
  · obtain ⟨c0, z, h1, h2⟩ := ten_split c (by omega)
    rw [valR_core (dd_digs c) h2 (by rw [dd_val]; exact h1)]
    rw [h1] at hc ⊢
    exact normal_core n hn neg c0 z h2 hc e he
end Go.AM
set_option linter.unusedVariables false
set_option linter.unusedSimpArgs false
namespace Go.AM
def lz (d : List UInt8) : List UInt8 := d.dropWhile (· == 48)
theorem lz_rep (d : List UInt8) : d = List.replicate (d.length - (lz d).length) 48 ++ lz d := by
  induction d with
  | nil => rfl
  | cons b d ih =>
    unfold lz at ih ⊢
    by_cases h : b = 48
    · subst h
      have e : ((48 : UInt8) :: d).dropWhile (· == 48) = d.dropWhile (· == 48) := by simp [List.dropWhile_cons]
      have hl : (d.dropWhile (· == 48)).length ≤ d.length := (List.dropWhile_sublist _).length_le
      rw [e, List.length_cons, show d.length + 1 - (d.dropWhile (· == 48)).length = (d.length - (d.dropWhile (· == 48)).length) + 1 from by omega, List.replicate_succ, List.cons_append, ← ih]
    · have e : (b :: d).dropWhile (· == 48) = b :: d := by simp [List.dropWhile_cons, h]
      rw [e]
      simp
theorem lz_val (d : List UInt8) : val (lz d) = val d := by
  conv => rhs; rw [lz_rep d]
  rw [val_zeros_left]
theorem lz_digs {d : List UInt8} (h : Digs d) : Digs (lz d) := by
  rw [lz_rep d, digs_append] at h
  exact h.2
theorem lz_le (d : List UInt8) : (lz d).length ≤ d.length := (List.dropWhile_sublist _).length_le
end Go.AM
set_option linter.unusedVariables false
set_option linter.unusedSimpArgs false
namespace Go.AM
abbrev FaultR := Int × Int × Unit
abbrev ParseR := DecD × FaultR × Unit
theorem hasPrefix_one (n : Nat) (s : List UInt8) (c : UInt8) : F.strings_HasPrefix n s [c] = some (decide (s.head? = some c)) := by
  unfold F.strings_HasPrefix F.stringslite_HasPrefix
  cases s with
  | nil => rfl
  | cons b s =>
    have e : sub (b :: s) (0 : Int) ((([c] : List UInt8).length : Nat) : Int) = some [b] := sub_nat (b :: s) 0 1 (by omega) (by simp)
    rw [bif_pos (by simp; omega), e, some_bind', some_bind']
    by_cases h : b = c
    · subst h; simp
    · simp [h]
def tw (s : List UInt8) : List UInt8 := s.takeWhile isDig
theorem tw_digs (s : List UInt8) : Digs (tw s) := List.all_takeWhile
theorem tw_split (s : List UInt8) : s = tw s ++ s.drop (tw s).length := by
  induction s with
  | nil => rfl
  | cons b s ih =>
    unfold tw at ih ⊢
    by_cases h : isDig b = true
    · simp only [List.takeWhile_cons, h, if_true, List.length_cons, List.drop_succ_cons, List.cons_append]
      rw [← ih]
    · simp [List.takeWhile_cons, h]
theorem tw_le (s : List UInt8) : (tw s).length ≤ s.length := (List.takeWhile_sublist _).length_le
theorem tw_append {a t : List UInt8} (ha : Digs a) (ht : ∀ x, t.head? = some x → isDig x = false) : tw (a ++ t) = a := by
  induction a with
  | nil =>
    cases t with
    | nil => rfl
    | cons x t =>
      have := ht x rfl
      simp [tw, List.takeWhile_cons, this]
  | cons b a ih =>
    obtain ⟨h1, h2⟩ := digs_cons.1 ha
    have := ih h2
    unfold tw at this ⊢
    simp [List.takeWhile_cons, h1, this]
theorem digits_loop (n : Nat) (X : Type) (k0 : Int → (List UInt8) → Int → Int → Int → Option X) (v3 b0 b1 : Int) (s : List UInt8) (hs : s.length < 4611686018427387904) : ∀ (r : List UInt8) (k m : Nat), s.drop k = r → k ≤ s.length → r.length < m →
    F.dec_look.L2_dec_look_1 n k0 m v3 s b0 b1 (k : Int) = k0 v3 s b0 b1 ((k + (tw r).length : Nat) : Int) := by
  intro r
  induction r with
  | nil =>
    intro k m hk hkl hm
    have := drop_nil' hk
    obtain ⟨m, rfl⟩ : ∃ q, m = q + 1 := ⟨m - 1, by omega⟩
    show F.dec_look.L2_dec_look_1.step n _ k0 _ _ _ _ _ = _
    unfold F.dec_look.L2_dec_look_1.step
    rw [bif_neg (by omega)]
    rfl
  | cons x r ih =>
    intro k m hk hkl hm
    obtain ⟨h1, h2, h3⟩ := drop_cons hk
    obtain ⟨m, rfl⟩ : ∃ q, m = q + 1 := ⟨m - 1, by omega⟩
    show F.dec_look.L2_dec_look_1.step n (F.dec_look.L2_dec_look_1 n k0 m) k0 _ _ _ _ _ = _
    unfold F.dec_look.L2_dec_look_1.step
    rw [bif_pos (by omega), idx_nat, h2, some_bind', some_bind']
    unfold tw at ih ⊢
    by_cases hd : isDig x = true
    · have hx := isDig_iff.1 hd
      rw [bif_pos (by omega), bif_pos (by omega), wrap_succ (by omega), ih (k + 1) m h3 (by omega) (by simp at hm; omega)]
      simp only [List.takeWhile_cons, hd, if_true, List.length_cons]
      congr 2
      omega
    · simp only [List.takeWhile_cons, hd, if_false]
      by_cases h48 : 48 ≤ x.toNat
      · have : ¬ x.toNat ≤ 57 := fun h => hd (isDig_iff.2 ⟨h48, h⟩)
        rw [bif_pos (by omega), bif_neg (by omega)]
        rfl
      · rw [bif_neg (by omega)]
        rfl
def p0 (s : List UInt8) : Nat := if s.head? = some 45 then 1 else 0
def p1q (q : Nat) (s : List UInt8) : Nat := q + (tw (s.drop q)).length
def p3q (q : Nat) (s : List UInt8) : Nat := p1q q s + 1 + (tw (s.drop (p1q q s + 1))).length
theorem p0_le (s : List UInt8) : p0 s ≤ s.length := by
  unfold p0
  cases s with
  | nil => simp
  | cons b s => split <;> simp
theorem p1_le {q : Nat} {s : List UInt8} (hq : q ≤ s.length) : p1q q s ≤ s.length := by
  have h2 := tw_le (s.drop q)
  simp at h2
  unfold p1q
  omega
def endR (right : Prop) [Decidable right] (at' : Nat) (len : Nat) : FaultR :=
  if right ∧ at' = len then (0, 0, ()) else if at' = len then (11, (at' : Int), ()) else (14, (at' : Int), ())
def lookQ (q : Nat) (s : List UInt8) : FaultR :=
  if q < p1q q s ∧ (s.drop (p1q q s)).head? = some 46 then endR (p1q q s + 1 < p3q q s) (p3q q s) s.length else endR (q < p1q q s) (p1q q s) s.length
def lookR (s : List UInt8) : FaultR := lookQ (p0 s) s
theorem end_eq (a b : Nat) (at' len : Nat) : (bif decide ((at' : Int) > (a : Int)) then
      bif (at' : Int) == (len : Int) then some (((0 : Int), (0 : Int), ())) else bif (at' : Int) == (len : Int) then some (((11 : Int), (at' : Int), ())) else some (((14 : Int), (at' : Int), ()))
    else bif (at' : Int) == (len : Int) then some (((11 : Int), (at' : Int), ())) else some (((14 : Int), (at' : Int), ()))) = some (endR (a < at') at' len) := by
  unfold endR
  by_cases h1 : at' = len
  · have e : ((at' : Int) == (len : Int)) = true := by simp [h1]
    rw [e]
    by_cases h2 : a < at'
    · rw [bif_pos (by omega), if_pos ⟨h2, h1⟩]; rfl
    · rw [bif_neg (by omega), if_neg (fun h => h2 h.1), if_pos h1]; rfl
  · have e : ((at' : Int) == (len : Int)) = false := by
      have : ¬ (at' : Int) = (len : Int) := by omega
      simpa using this
    rw [e, if_neg (fun h => h1 h.2), if_neg h1]
    simp only [cond_false]
    cases decide ((at' : Int) > (a : Int)) <;> rfl
theorem look_tail (n : Nat) (s : List UInt8) (hs : s.length < 4000000000000000000) (hn : s.length < n) (q : Nat) (hq : q ≤ s.length) :
    F.dec_look.L2_dec_look_1 n
        (fun e4_3 e4_b0_0 e4_b1_0 e4_b1_1 e4_b2_0 =>
          bif decide (e4_b2_0 > e4_3) then
            (sub e4_b0_0 e4_b2_0 (e4_b0_0.length : Int)).bind fun x5 =>
              (F.strings_HasPrefix n x5 ([46])).bind fun y6 =>
                bif y6 then
                  F.dec_look.L2_dec_look_1 n
                    (fun e7_3 e7_b0_0 e7_b1_0 e7_b1_1 e7_b2_0 =>
                      bif decide (e7_b2_0 > e7_3) then
                        bif e7_b2_0 == (e7_b0_0.length : Int) then
                          some (((0 : Int), (0 : Int), ()))
                        else
                        bif e7_b2_0 == (e7_b0_0.length : Int) then
                          some (((11 : Int), e7_b2_0, ()))
                        else
                          some (((14 : Int), e7_b2_0, ()))
                      else
                      bif e7_b2_0 == (e7_b0_0.length : Int) then
                        some (((11 : Int), e7_b2_0, ()))
                      else
                        some (((14 : Int), e7_b2_0, ()))) n (IntKind.wrap .i64 (e4_b2_0 + (1 : Int))) e4_b0_0 e4_b1_0 e4_b1_1 (IntKind.wrap .i64 (e4_b2_0 + (1 : Int)))
                else
                bif decide (e4_b2_0 > e4_3) then
                  bif e4_b2_0 == (e4_b0_0.length : Int) then
                    some (((0 : Int), (0 : Int), ()))
                  else
                  bif e4_b2_0 == (e4_b0_0.length : Int) then
                    some (((11 : Int), e4_b2_0, ()))
                  else
                    some (((14 : Int), e4_b2_0, ()))
                else
                bif e4_b2_0 == (e4_b0_0.length : Int) then
                  some (((11 : Int), e4_b2_0, ()))
                else
                  some (((14 : Int), e4_b2_0, ()))
          else
          bif decide (e4_b2_0 > e4_3) then
            bif e4_b2_0 == (e4_b0_0.length : Int) then
              some (((0 : Int), (0 : Int), ()))
            else
            bif e4_b2_0 == (e4_b0_0.length : Int) then
              some (((11 : Int), e4_b2_0, ()))
            else
              some (((14 : Int), e4_b2_0, ()))
          else
          bif e4_b2_0 == (e4_b0_0.length : Int) then
            some (((11 : Int), e4_b2_0, ()))
          else
            some (((14 : Int), e4_b2_0, ()))) n (q : Int) s (0 : Int) (0 : Int) (q : Int)
    = some (lookQ q s) := by
  rw [digits_loop n _ _ _ _ _ s (by omega) (s.drop q) q n rfl hq (by simp; omega)]
  have hkl : p1q q s ≤ s.length := p1_le hq
  show (bif decide (((p1q q s : Nat) : Int) > (q : Int)) then _ else _) = _
  unfold lookQ
  have hk3 : p3q q s = p1q q s + 1 + (tw (s.drop (p1q q s + 1))).length := rfl
  have hsh : q + (tw (s.drop q)).length = p1q q s := rfl
  simp only [hsh]
  generalize p3q q s = k3 at hk3 ⊢
  clear hsh
  generalize p1q q s = k at hkl hk3 ⊢
  subst hk3
  have hE := end_eq q 0 k s.length
  rw [hE]
  by_cases h1 : q < k
  · rw [bif_pos (by omega)]
    have hsub : sub s (k : Int) (s.length : Int) = some (s.drop k) := by
      have := sub_nat s k s.length hkl (Nat.le_refl _)
      rw [List.take_length] at this
      exact this
    rw [hsub, some_bind', hasPrefix_one, some_bind']
    by_cases h2 : (s.drop k).head? = some 46
    · have hlt : k < s.length := by
        cases e : s.drop k with
        | nil => rw [e] at h2; simp at h2
        | cons b r =>
          have := congrArg List.length e
          simp at this
          omega
      rw [decide_eq_true h2, cond_true, if_pos ⟨h1, h2⟩, wrap_succ (by omega), digits_loop n _ _ _ _ _ s (by omega) (s.drop (k + 1)) (k + 1) n rfl (by omega) (by simp; omega)]
      exact end_eq (k + 1) 0 _ s.length
    · rw [decide_eq_false h2, cond_false, if_neg (fun h => h2 h.2)]
  · rw [bif_neg (by omega), if_neg (fun h => h1 h.1)]
theorem look_eq (n : Nat) (s : List UInt8) (hs : s.length < 4000000000000000000) (hn : s.length < n) : F.dec_look n s = some (lookR s) := by
  unfold F.dec_look
  rw [hasPrefix_one, some_bind']
  by_cases h : s.head? = some 45
  · have hp : p0 s = 1 := by unfold p0; rw [if_pos h]
    rw [decide_eq_true h, cond_true]
    have hq : 1 ≤ s.length := by have := p0_le s; omega
    have := look_tail n s hs hn 1 hq
    refine this.trans ?_
    unfold lookR
    rw [hp]
  · have hp : p0 s = 0 := by unfold p0; rw [if_neg h]
    rw [decide_eq_false h, cond_false]
    have := look_tail n s hs hn 0 (by omega)
    refine this.trans ?_
    unfold lookR
    rw [hp]
end Go.AM
set_option linter.unusedVariables false
set_option linter.unusedSimpArgs false
namespace Go.AM
def outR (r : DecR) : ParseR := if r.2.1 = 0 then (r.1, (0, 0, ()), ()) else ((false, 0, 0, ()), (r.2.1, 0, ()), ())
def badR (f : FaultR) : ParseR := ((false, 0, 0, ()), f, ())
def aheadD (s : List UInt8) : List UInt8 := tw (s.drop (p0 s))
def behindD (s : List UInt8) : List UInt8 := if (s.drop (p1q (p0 s) s)).head? = some 46 then tw (s.drop (p1q (p0 s) s + 1)) else []
def negD (s : List UInt8) : Bool := decide (s.head? = some 45)
def parseR (s : List UInt8) : ParseR :=
  if (lookR s).1 = 0 then outR (valR (negD s) (aheadD s ++ behindD s) (-((behindD s).length : Int))) else badR (lookR s)
theorem valR_code (neg : Bool) (d : List UInt8) (e : Int) : (valR neg d e).2.1 = 0 ∨ (valR neg d e).2.1 = 10 ∧ (valR neg d e).1 = (false, 0, 0, ()) := by
  unfold valR zeroD normR
  by_cases h : val d = 0
  · rw [if_pos h]; exact Or.inl rfl
  · rw [if_neg h]
    split
    · exact Or.inr ⟨rfl, rfl⟩
    · split
      · exact Or.inl rfl
      · exact Or.inr ⟨rfl, rfl⟩
theorem valR_same {d d' : List UInt8} (hd : Digs d) (hd' : Digs d') (h : val d = val d') (neg : Bool) (e : Int) : valR neg d e = valR neg d' e := by
  by_cases h0 : val d = 0
  · unfold valR
    rw [if_pos h0, if_pos (h ▸ h0)]
  · obtain ⟨c0, z, h1, h2⟩ := ten_split (val d) (by omega)
    rw [valR_core hd h2 h1, valR_core hd' h2 (h ▸ h1)]
theorem valR_big {d : List UInt8} (hd : Digs d) (h : two64 ≤ val d) (ht : trz d = d) (neg : Bool) (e : Int) : valR neg d e = ((false, 0, 0, ()), 10, ()) := by
  have h0 : val d ≠ 0 := by rw [two64_eq] at h; omega
  have hc := core_trz hd h0
  rw [ht] at hc
  rw [valR_core hd hc (z := 0) (by simp)]
  unfold normR
  split
  · rfl
  · rw [if_neg]
    have := Nat.le_mul_of_pos_right (val d) (Nat.pow_pos (n := (e + ((0 : Nat) : Int) - 18).toNat) (show 0 < 10 by omega))
    omega
end Go.AM
set_option linter.unusedVariables false
set_option linter.unusedSimpArgs false
namespace Go.AM
theorem coef_loop (n : Nat) (X : Type) (k0 : Bool → Int → Int → Int → Int → Int → Int → Bool → Int → Int → Option X) (s : List UInt8) (hs : s.length < 4611686018427387904) (b : Bool) (x1 x2 x3 x4 x5 x6 : Int) (neg : Bool) (E : Int) : ∀ (r : List UInt8) (k m : Nat), s.drop k = r → k ≤ s.length → r.length < m → Digs r → val (s.take k) < two64 →
    F.dec_Parse.L14 n k0 m s (s.length : Int) (k : Int) b x1 x2 x3 x4 x5 x6 neg (val (s.take k) : Int) E = if val s < two64 then k0 b x1 x2 x3 x4 x5 x6 neg (val s) E else k0 b x1 x2 x3 x4 x5 x6 neg 1 (-19) := by
  intro r
  induction r with
  | nil =>
    intro k m hk hkl hm hd hv
    have hk := drop_nil' hk
    obtain ⟨m, rfl⟩ : ∃ q, m = q + 1 := ⟨m - 1, by omega⟩
    show F.dec_Parse.L14.step n _ k0 _ _ _ _ _ _ _ _ _ _ _ _ _ = _
    unfold F.dec_Parse.L14.step
    rw [List.take_of_length_le hk] at hv ⊢
    rw [bif_neg (by omega), if_pos hv]
  | cons x r ih =>
    intro k m hk hkl hm hd hv
    obtain ⟨h1, h2, h3⟩ := drop_cons hk
    obtain ⟨d1, d2⟩ := digs_cons.1 hd
    have hx := isDig_iff.1 d1
    obtain ⟨m, rfl⟩ : ∃ q, m = q + 1 := ⟨m - 1, by omega⟩
    show F.dec_Parse.L14.step n (F.dec_Parse.L14 n k0 m) k0 _ _ _ _ _ _ _ _ _ _ _ _ _ = _
    unfold F.dec_Parse.L14.step
    have htk : s.take (k + 1) = s.take k ++ [x] := by rw [List.take_add_one, h2]; rfl
    have hvk : val (s.take (k + 1)) = val (s.take k) * 10 + dv x := by rw [htk, val_snoc]
    have hsv : val (s.take (k + 1)) ≤ val s := by
      have e : s = s.take (k + 1) ++ s.drop (k + 1) := (List.take_append_drop _ _).symm
      have h5 : val s = val (s.take (k + 1)) * 10 ^ (s.drop (k + 1)).length + val (s.drop (k + 1)) := by
        conv => lhs; rw [e]
        rw [val_append]
      have := Nat.le_mul_of_pos_right (val (s.take (k + 1))) (Nat.pow_pos (n := (s.drop (k + 1)).length) (show 0 < 10 by omega))
      omega
    have hdl := dv_lt d1
    have hdx : IntKind.wrap .u64 (IntKind.wrap .u8 ((x.toNat : Int) - 48)) = (dv x : Int) := by
      have h8 : IntKind.wrap .u8 ((x.toNat : Int) - 48) = (x.toNat : Int) - 48 := IntWalk.u8_in _ (by omega)
      rw [h8, IntWalk.u64_in _ (by omega)]; unfold dv; omega
    rw [bif_pos (by omega), idx_nat, h2, some_bind', hdx, times_eq n _ _ hv (by rw [two64_eq]; omega), some_bind', ← hvk, wrap_succ (by omega)]
    by_cases hf : val (s.take (k + 1)) < two64
    · simp only [hf, decide_true, Bool.not_true, cond_false, Nat.mod_eq_of_lt hf]
      exact ih (k + 1) m h3 (by omega) (by simp at hm; omega) d2 hf
    · simp only [hf, decide_false, Bool.not_false, cond_true]
      rw [if_neg (by omega)]
theorem cutPrefix_one (n : Nat) (s : List UInt8) : F.strings_CutPrefix n s [45] = some (s.drop (p0 s), negD s, ()) := by
  unfold F.strings_CutPrefix F.stringslite_CutPrefix
  have hp : F.stringslite_HasPrefix n s [45] = some (decide (s.head? = some 45)) := by
    have := hasPrefix_one n s 45
    unfold F.strings_HasPrefix at this
    cases e : F.stringslite_HasPrefix n s [45] with
    | none => rw [e] at this; cases this
    | some b => rw [e] at this; exact this
  rw [hp, some_bind']
  unfold p0 negD
  by_cases h : s.head? = some 45
  · have hl : 1 ≤ s.length := by cases s with | nil => simp at h | cons => simp
    have hsub : sub s ((([45] : List UInt8).length : Nat) : Int) (s.length : Int) = some (s.drop 1) := by
      have := sub_nat s 1 s.length hl (Nat.le_refl _)
      rw [List.take_length] at this
      exact this
    rw [decide_eq_true h, Bool.not_true, cond_false, hsub, if_pos h]
    rfl
  · rw [decide_eq_false h, Bool.not_false, cond_true, if_neg h]
    rfl
theorem idxByte_app {a t : List UInt8} (ha : Digs a) : Lib.indexByte (a ++ 46 :: t) 46 = (a.length : Int) := by
  induction a with
  | nil => simp [Lib.indexByte]
  | cons b a ih =>
    obtain ⟨h1, h2⟩ := digs_cons.1 ha
    have hb : ¬ b = 46 := fun h => by subst h; simp [isDig] at h1
    have := ih h2
    simp only [List.cons_append, Lib.indexByte, beq_iff_eq, hb, if_false, this]
    have hne : ¬ (a.length : Int) = -1 := by omega
    simp [hne]
theorem idxByte_no {a : List UInt8} (ha : Digs a) : Lib.indexByte a 46 = -1 := by
  induction a with
  | nil => rfl
  | cons b a ih =>
    obtain ⟨h1, h2⟩ := digs_cons.1 ha
    have hb : ¬ b = 46 := fun h => by subst h; simp [isDig] at h1
    simp [Lib.indexByte, hb, ih h2]
theorem look_ok {s : List UInt8} (h : (lookR s).1 = 0) : lookR s = (0, 0, ()) ∧ aheadD s ≠ [] ∧
    ((s.drop (p0 s) = aheadD s ∧ behindD s = []) ∨ (s.drop (p0 s) = aheadD s ++ 46 :: behindD s ∧ behindD s ≠ [])) := by
  unfold lookR lookQ at h ⊢
  have split := tw_split (s.drop (p0 s))
  rw [List.drop_drop] at split
  have hle := p1_le (p0_le s)
  by_cases hp : p0 s < p1q (p0 s) s ∧ (s.drop (p1q (p0 s) s)).head? = some 46
  · rw [if_pos hp] at h ⊢
    unfold endR at h ⊢
    by_cases h3 : p1q (p0 s) s + 1 < p3q (p0 s) s ∧ p3q (p0 s) s = s.length
    · rw [if_pos h3]
      refine ⟨rfl, ?_, Or.inr ?_⟩
      · intro hh
        have : (tw (s.drop (p0 s))).length = 0 := by unfold aheadD at hh; rw [hh]; rfl
        have := hp.1
        unfold p1q at this
        omega
      · have hb : behindD s = tw (s.drop (p1q (p0 s) s + 1)) := by unfold behindD; rw [if_pos hp.2]
        have h2 := tw_split (s.drop (p1q (p0 s) s + 1))
        rw [List.drop_drop] at h2
        have h4 : s.drop (p1q (p0 s) s + 1 + (tw (s.drop (p1q (p0 s) s + 1))).length) = [] := List.drop_eq_nil_of_le (by
          have h5 := h3.2
          unfold p3q at h5
          omega)
        rw [h4, List.append_nil] at h2
        have h5 : s.drop (p1q (p0 s) s) = 46 :: s.drop (p1q (p0 s) s + 1) := by
          cases e : s.drop (p1q (p0 s) s) with
          | nil => rw [e] at hp; simp at hp
          | cons c r =>
            rw [e] at hp
            have hc : c = 46 := by simpa using hp.2
            subst hc
            obtain ⟨_, _, g3⟩ := drop_cons e
            rw [g3]
        refine ⟨?_, ?_⟩
        · rw [split]
          have : s.drop (p0 s + (tw (s.drop (p0 s))).length) = s.drop (p1q (p0 s) s) := rfl
          rw [this, h5, hb, ← h2]
          rfl
        · rw [hb]
          intro hh
          have h6 := h3.1
          unfold p3q at h6
          rw [hh] at h6
          simp at h6
    · rw [if_neg h3] at h
      split at h <;> cases h
  · rw [if_neg hp] at h ⊢
    unfold endR at h ⊢
    by_cases h3 : p0 s < p1q (p0 s) s ∧ p1q (p0 s) s = s.length
    · rw [if_pos h3]
      have hd : s.drop (p1q (p0 s) s) = [] := List.drop_eq_nil_of_le (by omega)
      refine ⟨rfl, ?_, Or.inl ⟨?_, ?_⟩⟩
      · intro hh
        have : (tw (s.drop (p0 s))).length = 0 := by unfold aheadD at hh; rw [hh]; rfl
        have := h3.1
        unfold p1q at this
        omega
      · have : s.drop (p0 s + (tw (s.drop (p0 s))).length) = s.drop (p1q (p0 s) s) := rfl
        rw [this, hd, List.append_nil] at split
        exact split
      · unfold behindD
        rw [hd]
        simp
    · rw [if_neg h3] at h
      split at h <;> cases h
theorem behind_digs (s : List UInt8) : Digs (behindD s) := by
  unfold behindD
  split
  · exact tw_digs _
  · rfl
theorem cut_point (n : Nat) {s : List UInt8} (hs : s.length ≤ 10000) (h : (lookR s).1 = 0) : ∃ f, F.strings_Cut n (s.drop (p0 s)) [46] = some (aheadD s, behindD s, f, ()) := by
  obtain ⟨_, _, h3⟩ := look_ok h
  unfold F.strings_Cut F.stringslite_Cut O.index1
  rcases h3 with ⟨a, b⟩ | ⟨a, b⟩
  · have hi : Lib.indexByte (aheadD s) 46 = -1 := idxByte_no (tw_digs _)
    rw [a, b]
    simp only [some_bind']
    rw [hi]
    exact ⟨false, rfl⟩
  · have hl : (aheadD s ++ 46 :: behindD s).length ≤ 10000 := by rw [← a]; simp; omega
    have hl2 : (aheadD s).length + ((behindD s).length + 1) ≤ 10000 := by simpa using hl
    have hi : Lib.indexByte (aheadD s ++ 46 :: behindD s) 46 = ((aheadD s).length : Int) := idxByte_app (tw_digs _)
    rw [a]
    simp only [some_bind']
    rw [hi]
    have s1 : sub (aheadD s ++ 46 :: behindD s) 0 ((aheadD s).length : Int) = some (aheadD s) := by
      have := sub_nat (aheadD s ++ 46 :: behindD s) 0 (aheadD s).length (by omega) (by simp)
      rw [List.drop_zero, List.take_left'] at this
      · exact this
      · rfl
    have hdr : (aheadD s ++ 46 :: behindD s).drop ((aheadD s).length + 1) = behindD s := by
      rw [List.drop_append, List.drop_eq_nil_of_le (by omega), List.nil_append, show (aheadD s).length + 1 - (aheadD s).length = 1 from by omega]
      rfl
    have s2 : sub (aheadD s ++ 46 :: behindD s) (((aheadD s).length + 1 : Nat) : Int) ((aheadD s ++ 46 :: behindD s).length : Int) = some (behindD s) := by
      have := sub_nat (aheadD s ++ 46 :: behindD s) ((aheadD s).length + 1) (aheadD s ++ 46 :: behindD s).length (by simp) (Nat.le_refl _)
      rw [List.take_length, hdr] at this
      exact this
    have hw : IntKind.wrap .i64 (((aheadD s).length : Int) + ((([46] : List UInt8).length : Nat) : Int)) = (((aheadD s).length + 1 : Nat) : Int) := wrap_succ (by omega)
    rw [bif_pos (by omega), s1, some_bind', hw, s2]
    exact ⟨true, rfl⟩
theorem trimR_eq (n : Nat) {s : List UInt8} (h : s.length ≤ 10000) : O.trimR n s [48] = some (trz s) := by
  unfold O.trimR
  have hb : (Nat.blt (48 : UInt8).toNat 128 && Nat.ble s.length big47) = true := by
    rw [Bool.and_eq_true, Nat.ble_eq]
    exact ⟨rfl, by unfold big47; omega⟩
  simp only [hb, cond_true, trimR_trz]
theorem trimL_eq (n : Nat) {s : List UInt8} (h : s.length ≤ 10000) : O.trimL n s [48] = some (lz s) := by
  unfold O.trimL
  have hb : (Nat.blt (48 : UInt8).toNat 128 && Nat.ble s.length big47) = true := by
    rw [Bool.and_eq_true, Nat.ble_eq]
    exact ⟨rfl, by unfold big47; omega⟩
  simp only [hb, cond_true]
  rfl
theorem trz_trz (d : List UInt8) : trz (trz d) = trz d := trz_self (fun x hx => trz_last hx)
theorem valR_lz (neg : Bool) {d : List UInt8} (hd : Digs d) (e : Int) : valR neg (lz d) e = valR neg d e := valR_same (lz_digs hd) hd (lz_val d) neg e
theorem coef_out (n : Nat) (hn : 200000 ≤ n) (neg : Bool) (d : List UInt8) (hd : Digs d) (hl : d.length ≤ 10000) (E : Int) (hE : -100000 ≤ E ∧ E ≤ 100000) (ht : trz d = d) (x1 x2 x3 x4 x5 x6 : Int) :
    F.dec_Parse.L14 n
                        (fun e9_b0_0 e9_b0_1 e9_b0_2 e9_b1_0 e9_b1_1 e9_b2_0 e9_b2_1 e9_b3_0 e9_b3_1 e9_b3_2 =>
                          (F.dec_Normal n (e9_b3_0, e9_b3_1, e9_b3_2, ())).bind fun y10 =>
                            bif !(y10.2.1 == (0 : Int)) then
                              some (((false, (0 : Int), (0 : Int), ()), (y10.2.1, (0 : Int), ()), ()))
                            else
                              some (((y10.1.1, y10.1.2.1, y10.1.2.2.1, ()), ((0 : Int), (0 : Int), ()), ()))) n d (d.length : Int) (0 : Int) false x1 x2 x3 x4 x5 x6 neg (0 : Int) E
    = some (outR (valR neg d E)) := by
  refine (coef_loop n _ _ d (by omega) false x1 x2 x3 x4 x5 x6 neg E d 0 n rfl (by omega) (by omega) hd (by rw [List.take_zero, val_nil, two64_eq]; omega)).trans ?_
  have out : ∀ r : DecR, (r.2.1 = 0 ∨ r.2.1 = 10 ∧ r.1 = (false, 0, 0, ())) → ((some r).bind fun y10 =>
                            bif !(y10.2.1 == (0 : Int)) then
                              some (((false, (0 : Int), (0 : Int), ()), (y10.2.1, (0 : Int), ()), ()))
                            else
                              some (((y10.1.1, y10.1.2.1, y10.1.2.2.1, ()), ((0 : Int), (0 : Int), ()), ()))) = some (outR r) := by
    intro r hr
    rw [some_bind']
    unfold outR
    rcases hr with h | ⟨h1, h2⟩
    · rw [h, if_pos rfl]; rfl
    · rw [h1, if_neg (by decide)]; rfl
  by_cases hv : val d < two64
  · rw [if_pos hv, normal_eq n (by omega) neg _ hv E (by omega), valR_same (dd_digs _) hd (dd_val _)]
    exact out _ (valR_code neg d E)
  · have h19 := normal_eq n (by omega) neg 1 (by decide) (-19) (by omega)
    have hb := valR_big hd (by omega) ht neg E
    rw [if_neg hv, show (1 : Int) = ((1 : Nat) : Int) from rfl, h19, hb]
    have e1 : valR neg (Lib.decDigits 1) (-19) = ((false, 0, 0, ()), 10, ()) := by
      rw [valR_core (dd_digs 1) (c0 := 1) (z := 0) (by decide) (by rw [dd_val])]
      unfold normR
      rw [if_pos (by omega)]
    rw [e1]
    exact out _ (Or.inr ⟨rfl, rfl⟩)
theorem decparse_eq (n : Nat) (hn : 200000 ≤ n) (s : List UInt8) (hs : s.length ≤ 10000) : F.dec_Parse n s = some (parseR s) := by
  unfold F.dec_Parse
  rw [look_eq n s (by omega) (by omega), some_bind']
  by_cases h : (lookR s).1 = 0
  · obtain ⟨h1, h2, h3⟩ := look_ok h
    obtain ⟨f, hcut⟩ := cut_point n hs h
    have e0 : (!((0 : Int) == 0 && (0 : Int) == 0)) = false := rfl
    rw [h1]
    simp only [e0, cond_false]
    rw [cutPrefix_one, some_bind']
    simp only [hcut, some_bind']
    have ha : Digs (aheadD s) := tw_digs _
    have hb := behind_digs s
    have hlen : (aheadD s).length + (behindD s).length ≤ 10000 := by
      have hd : (s.drop (p0 s)).length ≤ 10000 := by simp; omega
      rcases h3 with ⟨a, b⟩ | ⟨a, b⟩
      · rw [b]; rw [a] at hd; simpa using hd
      · rw [a] at hd; simp at hd; omega
    unfold parseR
    rw [if_pos h]
    generalize aheadD s = a at *
    generalize behindD s = b at *
    have htb := trz_le b
    rw [trimR_eq n (by omega), some_bind', bif_pos (by rw [strMax_eq]; omega), trimL_eq n (by simp; omega), some_bind']
    have hab : Digs (a ++ trz b) := digs_append.2 ⟨ha, trz_digs hb⟩
    have hall := lz_le (a ++ trz b)
    have hallL : (lz (a ++ trz b)).length ≤ a.length + (trz b).length := by simpa using hall
    have hts := trz_le (lz (a ++ trz b))
    rw [trimR_eq n (by omega), some_bind']
    have hval : valR (negD s) (lz (a ++ trz b)) (-((trz b).length : Int)) = valR (negD s) (a ++ b) (-(b.length : Int)) := by
      rw [valR_lz _ hab]
      have hpad := trz_pad b
      conv => rhs; rw [hpad]
      rw [← List.append_assoc, valR_zeros_right _ hab]
      congr 1
      simp
      omega
    have hD := lz_digs hab
    have hw : IntKind.wrap .i64 (0 - ((trz b).length : Int)) = -((trz b).length : Int) := by rw [wrap_in (by omega)]; omega
    rw [hw]
    by_cases hz : (trz b).length = 0
    · have ez : (-((trz b).length : Int) == 0) = true := by simp [hz]
      rw [ez, cond_true]
      by_cases hsh : (trz (lz (a ++ trz b))).length < (lz (a ++ trz b)).length
      · have hw2 : IntKind.wrap .i64 (((lz (a ++ trz b)).length : Int) - ((trz (lz (a ++ trz b))).length : Int)) = (((lz (a ++ trz b)).length - (trz (lz (a ++ trz b))).length : Nat) : Int) := by rw [wrap_in (by omega)]; omega
        rw [bif_pos (by omega), hw2]
        have := coef_out n hn (negD s) _ (trz_digs hD) (by omega) (((lz (a ++ trz b)).length - (trz (lz (a ++ trz b))).length : Nat) : Int) (by omega) (trz_trz _) 0 0 0 0 0 0
        refine this.trans ?_
        congr 2
        rw [← hval, hz]
        have hpad := trz_pad (lz (a ++ trz b))
        conv => rhs; rw [hpad]
        rw [valR_zeros_right _ (trz_digs hD)]
        congr 1
        omega
      · have hq : trz (lz (a ++ trz b)) = lz (a ++ trz b) := by
          have hpad := trz_pad (lz (a ++ trz b))
          rw [show (lz (a ++ trz b)).length - (trz (lz (a ++ trz b))).length = 0 from by omega, List.replicate_zero, List.append_nil] at hpad
          exact hpad.symm
        rw [bif_neg (by omega)]
        have := coef_out n hn (negD s) _ hD (by omega) (-((trz b).length : Int)) (by omega) hq 0 0 0 0 0 0
        refine this.trans ?_
        rw [hval]
    · have ez : (-((trz b).length : Int) == 0) = false := by
        have : ¬ (-((trz b).length : Int)) = 0 := by omega
        simpa using this
      rw [ez, cond_false]
      have hq : trz (lz (a ++ trz b)) = lz (a ++ trz b) := by
        refine trz_self fun x hx => ?_
        have hrep := lz_rep (a ++ trz b)
        have hlast : (a ++ trz b).getLast? = some x := by
          rw [hrep, List.getLast?_append, hx]; rfl
        rw [List.getLast?_append] at hlast
        cases e : (trz b).getLast? with
        | none => simp at e; rw [e] at hz; simp at hz
        | some y =>
          rw [e] at hlast
          have hy : y = x := by simpa using hlast
          rw [← hy]
          exact trz_last e
      have := coef_out n hn (negD s) _ hD (by omega) (-((trz b).length : Int)) (by omega) hq 0 0 0 0 0 0
      refine this.trans ?_
      rw [hval]
  · have e : ((lookR s).1 == 0) = false := by simpa using h
    unfold parseR
    rw [if_neg h, e]
    rfl
end Go.AM
set_option linter.unusedVariables false
set_option linter.unusedSimpArgs false
namespace Go.AM
def checkR (neg : Bool) (c : Nat) (e : Int) : Int :=
  if c ≠ 0 ∧ (e < -18 ∨ e > 18) then 10 else if (valR neg (Lib.decDigits c) e).2.1 = 0 ∧ (valR neg (Lib.decDigits c) e).1 = (neg, (c : Int), e, ()) then 0 else 21
theorem decD_beq (a b : DecD) : ((a.1 == b.1) && ((a.2.1 == b.2.1) && (a.2.2.1 == b.2.2.1))) = decide (a = b) := by
  obtain ⟨a1, a2, a3, _⟩ := a
  obtain ⟨b1, b2, b3, _⟩ := b
  by_cases h : (((a1, a2, a3, ()) : DecD) = (b1, b2, b3, ()))
  · have : a1 = b1 ∧ a2 = b2 ∧ a3 = b3 := by simpa using h
    rw [decide_eq_true h]
    simp [this]
  · rw [decide_eq_false h]
    have : ¬ (a1 = b1 ∧ a2 = b2 ∧ a3 = b3) := fun hh => h (by simp [hh])
    simp only [Bool.and_eq_false_iff, beq_eq_false_iff_ne]
    by_cases g1 : a1 = b1
    · by_cases g2 : a2 = b2
      · exact Or.inr (Or.inr fun g3 => this ⟨g1, g2, g3⟩)
      · exact Or.inr (Or.inl g2)
    · exact Or.inl g1
theorem check_tail (neg : Bool) (c : Nat) (e : Int) (r : DecR) (hr : r = valR neg (Lib.decDigits c) e) :
    (bif !(r.2.1 == (0 : Int)) then some ((21 : Int)) else bif !((r.1.1 == neg) && ((r.1.2.1 == (c : Int)) && (r.1.2.2.1 == e))) then some ((21 : Int)) else some ((0 : Int)))
     = some (if (valR neg (Lib.decDigits c) e).2.1 = 0 ∧ (valR neg (Lib.decDigits c) e).1 = (neg, (c : Int), e, ()) then 0 else 21) := by
  subst hr
  have hb := decD_beq (valR neg (Lib.decDigits c) e).1 (neg, (c : Int), e, ())
  simp only at hb
  rw [hb]
  by_cases h1 : (valR neg (Lib.decDigits c) e).2.1 = 0
  · have e1 : ((valR neg (Lib.decDigits c) e).2.1 == 0) = true := by simp [h1]
    rw [e1]
    by_cases h2 : (valR neg (Lib.decDigits c) e).1 = (neg, (c : Int), e, ())
    · rw [decide_eq_true h2, if_pos ⟨h1, h2⟩]; rfl
    · rw [decide_eq_false h2, if_neg (fun h => h2 h.2)]; rfl
  · have e1 : ((valR neg (Lib.decDigits c) e).2.1 == 0) = false := by simpa using h1
    rw [e1, if_neg (fun h => h1 h.1)]; rfl
theorem check_eq (n : Nat) (hn : 100 ≤ n) (neg : Bool) (c : Nat) (hc : c < two64) (e : Int) (he : -9223372036854775808 ≤ e ∧ e ≤ 9223372036854775807) : F.dec_Check n (neg, (c : Int), e, ()) = some (checkR neg c e) := by
  unfold F.dec_Check checkR
  simp only [normal_eq n hn neg c hc e he, some_bind']
  have T := check_tail neg c e _ rfl
  by_cases h0 : c = 0
  · have e0 : (((c : Int)) == 0) = true := by simp [h0]
    rw [e0, if_neg (fun h => h.1 h0)]
    exact T
  · have e0 : (((c : Int)) == 0) = false := by simpa using h0
    rw [e0]
    simp only [Bool.not_false, cond_true]
    by_cases h1 : e < -18
    · rw [bif_pos h1, if_pos ⟨h0, Or.inl h1⟩]
    · rw [bif_neg h1]
      by_cases h2 : e > 18
      · rw [bif_pos h2, if_pos ⟨h0, Or.inr h2⟩]
      · rw [bif_neg h2, if_neg (by omega)]
        exact T
theorem dd_len64 {c : Nat} (hc : c < two64) : (Lib.decDigits c).length ≤ 20 := by rw [dd_length]; exact Lib.nDigits_le20 c hc
theorem check_zero {neg : Bool} {c : Nat} {e : Int} (h : checkR neg c e = 0) : valR neg (Lib.decDigits c) e = ((neg, (c : Int), e, ()), 0, ()) ∧ -18 ≤ e ∧ e ≤ 18 := by
  unfold checkR at h
  by_cases h1 : c ≠ 0 ∧ (e < -18 ∨ e > 18)
  · rw [if_pos h1] at h; cases h
  rw [if_neg h1] at h
  by_cases h2 : (valR neg (Lib.decDigits c) e).2.1 = 0 ∧ (valR neg (Lib.decDigits c) e).1 = (neg, (c : Int), e, ())
  · have h3 : valR neg (Lib.decDigits c) e = ((neg, (c : Int), e, ()), 0, ()) := by
      obtain ⟨a, b⟩ := h2
      generalize valR neg (Lib.decDigits c) e = r at a b ⊢
      obtain ⟨r1, r2, _⟩ := r
      simp only at a b
      rw [a, b]
    refine ⟨h3, ?_⟩
    by_cases h0 : c = 0
    · subst h0
      unfold valR at h3
      rw [if_pos (dd_val 0)] at h3
      have : (0 : Int) = e := congrArg (fun r : DecR => r.1.2.2.1) h3
      omega
    · omega
  · rw [if_neg h2] at h; cases h
def sgn (neg : Bool) : List UInt8 := if neg then [45] else []
def wideW (c : Nat) (e : Int) : List UInt8 := List.replicate (1 - e - (Lib.decDigits c).length).toNat 48 ++ Lib.decDigits c
def textD (neg : Bool) (c : Nat) (e : Int) : List UInt8 :=
  if 0 ≤ e then sgn neg ++ (Lib.decDigits c ++ List.replicate e.toNat 48)
  else sgn neg ++ ((wideW c e).take ((wideW c e).length - e.natAbs) ++ [46] ++ (wideW c e).drop ((wideW c e).length - e.natAbs))
theorem repeatL_one (k : Nat) : Lib.repeatL [48] k = List.replicate k 48 := by
  induction k with
  | zero => rfl
  | succ k ih => rw [Lib.repeatL, ih]; rfl
theorem repeat_eq (n : Nat) {k : Int} (h : 0 ≤ k ∧ k ≤ 100000) : O.repeat' n [48] k = some (List.replicate k.toNat 48) := by
  unfold O.repeat'
  have hb : (decide (0 ≤ k) && Nat.ble k.toNat big47 && Nat.ble (([48] : List UInt8).length * k.toNat) big47) = true := by
    rw [Bool.and_eq_true, Bool.and_eq_true, Nat.ble_eq, Nat.ble_eq]
    unfold big47
    simp only [List.length_cons, List.length_nil]
    refine ⟨⟨by simp; omega, by omega⟩, by omega⟩
  rw [hb, cond_true, repeatL_one]
theorem wideW_len (c : Nat) (hc : c < two64) (e : Int) (he : -18 ≤ e ∧ e < 0) : e.natAbs < (wideW c e).length ∧ (wideW c e).length ≤ 40 ∧ Digs (wideW c e) := by
  have := dd_len64 hc
  unfold wideW
  refine ⟨?_, ?_, digs_append.2 ⟨digs_rep _, dd_digs c⟩⟩
  · simp; omega
  · simp; omega
theorem text_dec (n : Nat) (hn : 200000 ≤ n) (neg : Bool) (c : Nat) (hc : c < two64) (e : Int) (he : -9223372036854775808 ≤ e ∧ e ≤ 9223372036854775807) : F.dec_Text n (neg, (c : Int), e, ()) = some (if checkR neg c e = 0 then (textD neg c e, 0, ()) else ([], checkR neg c e, ())) := by
  unfold F.dec_Text
  simp only [check_eq n (by omega) neg c hc e he, some_bind']
  by_cases h : checkR neg c e = 0
  · obtain ⟨h1, h2, h3⟩ := check_zero h
    have hl := dd_len64 hc
    rw [h, if_pos rfl]
    have e0 : (!((0 : Int) == 0)) = false := rfl
    rw [e0, cond_false]
    have hf : O.futoa n (c : Int) 10 = some (Lib.decDigits c) := by
      unfold O.futoa
      have : (decide ((0 : Int) ≤ (c : Int)) && decide ((c : Int) < 18446744073709551616) && decide ((10 : Int) = 10)) = true := by
        rw [two64_eq] at hc
        simp; omega
      rw [this]; rfl
    rw [hf, some_bind']
    unfold textD
    by_cases hE : 0 ≤ e
    · rw [bif_pos hE, if_pos hE, repeat_eq n (by omega), some_bind', bif_pos (by rw [strMax_eq]; simp; omega)]
      cases neg
      · rfl
      · rw [cond_true, bif_pos (by rw [strMax_eq]; simp; omega)]
        rfl
    · obtain ⟨w1, w2, w3⟩ := wideW_len c hc e (by omega)
      have hmax : (if (IntKind.wrap .i64 ((IntKind.wrap .i64 ((1 : Int) - e)) - ((Lib.decDigits c).length : Int))) > (0 : Int) then (IntKind.wrap .i64 ((IntKind.wrap .i64 ((1 : Int) - e)) - ((Lib.decDigits c).length : Int))) else (0 : Int)) = (((1 - e - (Lib.decDigits c).length).toNat : Nat) : Int) := by
        rw [wrap_in (x := (1 : Int) - e) (by omega), wrap_in (by omega)]
        split <;> omega
      have hwl : (List.replicate (1 - e - (Lib.decDigits c).length).toNat (48 : UInt8)).length + (Lib.decDigits c).length = (wideW c e).length := by unfold wideW; simp
      rw [bif_neg (by omega), if_neg hE, hmax, repeat_eq n (by omega), some_bind', Int.toNat_natCast, bif_pos (by rw [strMax_eq]; omega)]
      have hww : List.replicate (1 - e - (Lib.decDigits c).length).toNat (48 : UInt8) ++ Lib.decDigits c = wideW c e := rfl
      rw [hww]
      generalize wideW c e = w at w1 w2 w3
      have hat : IntKind.wrap .i64 ((w.length : Int) + e) = ((w.length - e.natAbs : Nat) : Int) := by rw [wrap_in (by omega)]; omega
      rw [hat]
      have s1 : sub w 0 ((w.length - e.natAbs : Nat) : Int) = some (w.take (w.length - e.natAbs)) := by
        have := sub_nat w 0 (w.length - e.natAbs) (by omega) (by omega)
        rw [List.drop_zero] at this
        exact this
      have s2 : sub w ((w.length - e.natAbs : Nat) : Int) (w.length : Int) = some (w.drop (w.length - e.natAbs)) := by
        have := sub_nat w (w.length - e.natAbs) w.length (by omega) (Nat.le_refl _)
        rw [List.take_length] at this
        exact this
      rw [s1, some_bind', bif_pos (by rw [strMax_eq]; simp; omega), s2, some_bind', bif_pos (by rw [strMax_eq]; simp; omega)]
      cases neg
      · rfl
      · rw [cond_true, bif_pos (by rw [strMax_eq]; simp; omega)]
        rfl
  · have e0 : (checkR neg c e == 0) = false := by simpa using h
    rw [e0, if_neg h]
    rfl
theorem p0_form (neg : Bool) {a : List UInt8} (ha : Digs a) (hne : a ≠ []) (t : List UInt8) : p0 (sgn neg ++ (a ++ t)) = (sgn neg).length ∧ negD (sgn neg ++ (a ++ t)) = neg := by
  cases a with
  | nil => exact absurd rfl hne
  | cons b a =>
    obtain ⟨h1, _⟩ := digs_cons.1 ha
    have hb : ¬ b = 45 := fun h => by subst h; simp [isDig] at h1
    unfold p0 negD
    cases neg
    · simp [sgn, hb]
    · simp [sgn]
theorem parse_whole (neg : Bool) {a : List UInt8} (ha : Digs a) (hne : a ≠ []) : parseR (sgn neg ++ a) = outR (valR neg a 0) := by
  have hp := p0_form neg ha hne []
  rw [List.append_nil] at hp
  obtain ⟨h0, hneg⟩ := hp
  have hlen : 0 < a.length := List.length_pos_iff.2 hne
  have hd0 : (sgn neg ++ a).drop (sgn neg).length = a := by rw [List.drop_left']; rfl
  have htw : tw a = a := by
    have := tw_append ha (t := []) (by simp)
    rw [List.append_nil] at this
    exact this
  have h1 : p1q (sgn neg).length (sgn neg ++ a) = (sgn neg ++ a).length := by unfold p1q; rw [hd0, htw, List.length_append]
  have hdr : (sgn neg ++ a).drop (sgn neg ++ a).length = [] := List.drop_length
  have hl : lookR (sgn neg ++ a) = (0, 0, ()) := by
    unfold lookR lookQ endR
    rw [h0, h1, hdr, if_neg (by simp), if_pos ⟨by rw [List.length_append]; omega, rfl⟩]
  have hb : behindD (sgn neg ++ a) = [] := by unfold behindD; rw [h0, h1, hdr]; rfl
  have hA : aheadD (sgn neg ++ a) = a := by unfold aheadD; rw [h0, hd0, htw]
  unfold parseR
  rw [hl, if_pos rfl, hb, hA, hneg, List.append_nil]
  rfl
theorem parse_point (neg : Bool) {a b : List UInt8} (ha : Digs a) (hne : a ≠ []) (hb : Digs b) (hbn : b ≠ []) : parseR (sgn neg ++ (a ++ 46 :: b)) = outR (valR neg (a ++ b) (-(b.length : Int))) := by
  obtain ⟨h0, hneg⟩ := p0_form neg ha hne (46 :: b)
  have hlen : 0 < a.length := List.length_pos_iff.2 hne
  have hlb : 0 < b.length := List.length_pos_iff.2 hbn
  have hd0 : (sgn neg ++ (a ++ 46 :: b)).drop (sgn neg).length = a ++ 46 :: b := by rw [List.drop_left']; rfl
  have htw : tw (a ++ 46 :: b) = a := tw_append ha (by simp [isDig])
  have h1 : p1q (sgn neg).length (sgn neg ++ (a ++ 46 :: b)) = (sgn neg).length + a.length := by unfold p1q; rw [hd0, htw]
  have hdr : (sgn neg ++ (a ++ 46 :: b)).drop ((sgn neg).length + a.length) = 46 :: b := by
    rw [← List.drop_drop, hd0, List.drop_left']; rfl
  have hdr2 : (sgn neg ++ (a ++ 46 :: b)).drop ((sgn neg).length + a.length + 1) = b := by
    rw [← List.drop_drop, hdr]; rfl
  have htb : tw b = b := by
    have := tw_append hb (t := []) (by simp)
    rw [List.append_nil] at this
    exact this
  have h3 : p3q (sgn neg).length (sgn neg ++ (a ++ 46 :: b)) = (sgn neg).length + a.length + 1 + b.length := by unfold p3q; rw [h1, hdr2, htb]
  have hL : (sgn neg ++ (a ++ 46 :: b)).length = (sgn neg).length + a.length + 1 + b.length := by simp; omega
  have hl : lookR (sgn neg ++ (a ++ 46 :: b)) = (0, 0, ()) := by
    unfold lookR lookQ endR
    rw [h0, h1, hdr, if_pos ⟨by omega, rfl⟩, h3, if_pos ⟨by omega, hL.symm⟩]
  have hB : behindD (sgn neg ++ (a ++ 46 :: b)) = b := by unfold behindD; rw [h0, h1, hdr, if_pos (show (46 :: b).head? = some 46 from rfl), hdr2, htb]
  have hA : aheadD (sgn neg ++ (a ++ 46 :: b)) = a := by unfold aheadD; rw [h0, hd0, htw]
  unfold parseR
  rw [hl, if_pos rfl, hB, hA, hneg]
theorem text_len (neg : Bool) (c : Nat) (hc : c < two64) (e : Int) (he : -18 ≤ e ∧ e ≤ 18) : (textD neg c e).length ≤ 39 ∧ (0 ≤ e ∨ e < 0) := by
  have hl := dd_len64 hc
  have hs : (sgn neg).length ≤ 1 := by cases neg <;> decide
  refine ⟨?_, by omega⟩
  unfold textD
  by_cases h : 0 ≤ e
  · rw [if_pos h]; simp; omega
  · rw [if_neg h]
    obtain ⟨w1, w2, w3⟩ := wideW_len c hc e (by omega)
    have : (wideW c e).length ≤ 20 ∨ (wideW c e).length = (1 - e).toNat := by unfold wideW; simp; omega
    simp
    omega
theorem parse_text (neg : Bool) (c : Nat) (hc : c < two64) (e : Int) (h : checkR neg c e = 0) : parseR (textD neg c e) = ((neg, (c : Int), e, ()), (0, 0, ()), ()) := by
  obtain ⟨h1, h2, h3⟩ := check_zero h
  have fin : outR (valR neg (Lib.decDigits c) e) = ((neg, (c : Int), e, ()), (0, 0, ()), ()) := by rw [h1]; rfl
  unfold textD
  by_cases hE : 0 ≤ e
  · rw [if_pos hE, parse_whole neg (digs_append.2 ⟨dd_digs c, digs_rep _⟩) (by simp [dd_ne]), valR_zeros_right _ (dd_digs c), ← fin]
    congr 2
    omega
  · obtain ⟨w1, w2, w3⟩ := wideW_len c hc e (by omega)
    rw [if_neg hE]
    have hT : (wideW c e).take ((wideW c e).length - e.natAbs) ≠ [] := by
      intro hh
      have := congrArg List.length hh
      simp at this
      omega
    have hD : (wideW c e).drop ((wideW c e).length - e.natAbs) ≠ [] := by
      intro hh
      have := congrArg List.length hh
      simp at this
      omega
    rw [List.append_assoc, List.singleton_append, parse_point neg (digs_take _ w3) hT (digs_drop _ w3) hD, List.take_append_drop, ← fin]
    have hlen : ((wideW c e).drop ((wideW c e).length - e.natAbs)).length = e.natAbs := by simp; omega
    rw [hlen]
    have hv : valR neg (wideW c e) (-(e.natAbs : Int)) = valR neg (Lib.decDigits c) (-(e.natAbs : Int)) := valR_zeros_left neg (dd_digs c) _ _
    rw [hv, show (-(e.natAbs : Int)) = e from by omega]
end Go.AM
set_option linter.unusedVariables false
set_option linter.unusedSimpArgs false
namespace Go.AM
theorem bif_some {α : Type} (b : Bool) (u v : α) : (bif b then some u else some v) = some (bif b then u else v) := by cases b <;> rfl
def btw (x lo hi : Int) : Bool := decide (lo ≤ x) && decide (x ≤ hi)
def wordI (x : Int) : Bool := btw x 65 90 || (btw x 97 122 || (x == 95 || (x == 46 || (x == 45 || btw x 48 57))))
def cls (c : Int) (b : UInt8) : Bool :=
  bif c == 3 then btw b.toNat 33 126 && (!((b.toNat : Int) == 44) && !((b.toNat : Int) == 124))
  else bif c == 2 then ((b.toNat : Int) == 47) || wordI b.toNat
  else bif c == 1 then wordI b.toNat
  else (c == 4) && btw b.toNat 48 57
def may (c : Int) : Bool := decide (1 ≤ c) && decide (c ≤ 4)
theorem cls4 (b : UInt8) : cls 4 b = isDig b := by
  unfold cls isDig btw
  simp
  congr 1 <;> simp only [decide_eq_decide] <;> omega
theorem may_cls (n : Nat) (c : Int) : F.class_may n c = some (may c) := by
  unfold F.class_may may
  by_cases h : 1 ≤ c
  · rw [bif_pos (by omega)]; simp [h]
  · rw [bif_neg (by omega)]; simp [h]
theorem between_eq (n : Nat) (x lo hi : Int) : F.class_between n x lo hi = some (btw x lo hi) := by
  unfold F.class_between btw
  by_cases h : lo ≤ x
  · rw [bif_pos (by omega)]; simp [h]
  · rw [bif_neg (by omega)]; simp [h]
theorem is_eq (n : Nat) (c : Int) (b : UInt8) : F.class_Is n c (b.toNat) = some (cls c b) := by
  unfold F.class_Is cls wordI
  simp only [between_eq, some_bind', bif_some]
  congr 1
  cases c == 3 <;> cases c == 2 <;> cases c == 1 <;> cases c == 4 <;> generalize hx : (b.toNat : Int) = x <;> clear hx <;>
    (cases btw x 33 126 <;> cases x == 44 <;> cases btw x 65 90 <;> cases btw x 97 122 <;> cases x == 95 <;> cases x == 46 <;> cases x == 45 <;> cases x == 47 <;> rfl)
def badK (p : UInt8 → Bool) : Nat → List UInt8 → Int
  | _, [] => -1
  | k, b :: l => if p b then badK p (k + 1) l else (k : Int)
theorem badK_ge (p : UInt8 → Bool) (k : Nat) (l : List UInt8) : 0 ≤ badK p k l ↔ ¬ l.all p = true := by
  induction l generalizing k with
  | nil => simp [badK]
  | cons b l ih =>
    unfold badK
    by_cases h : p b = true
    · rw [if_pos h, ih]; simp [h]
    · rw [if_neg h]; simp [h]
theorem badK_neg (p : UInt8 → Bool) (k : Nat) (l : List UInt8) (h : l.all p = true) : badK p k l = -1 := by
  induction l generalizing k with
  | nil => rfl
  | cons b l ih =>
    simp only [List.all_cons, Bool.and_eq_true] at h
    unfold badK
    rw [if_pos h.1, ih _ h.2]
theorem badK_hi (p : UInt8 → Bool) (k : Nat) (l : List UInt8) : badK p k l < k + l.length ∨ badK p k l = -1 := by
  induction l generalizing k with
  | nil => exact Or.inr rfl
  | cons b l ih =>
    unfold badK
    by_cases hb : p b = true
    · rw [if_pos hb]; have := ih (k + 1); simp; omega
    · rw [if_neg hb]; simp; omega
theorem bad_cls_loop (n : Nat) (X : Type) (k0 : Unit → Option X) (kr : Int → Int → Option X) (c : Int) (s : List UInt8) (hs : s.length < 4611686018427387904) : ∀ (r : List UInt8) (k m : Nat), s.drop k = r → r.length < m →
    F.class_Bad.L4 n k0 kr m c s (s.length : Int) (k : Int) = if 0 ≤ badK (cls c) k r then kr (badK (cls c) k r) 0 else k0 () := by
  intro r
  induction r with
  | nil =>
    intro k m hk hm
    have := drop_nil' hk
    cases m with
    | zero => simp at hm
    | succ m =>
      show F.class_Bad.L4.step n _ k0 kr c s _ k = _
      unfold F.class_Bad.L4.step
      rw [bif_neg (by omega)]
      rfl
  | cons x r ih =>
    intro k m hk hm
    obtain ⟨h1, h2, h3⟩ := drop_cons hk
    cases m with
    | zero => simp at hm
    | succ m =>
      show F.class_Bad.L4.step n (F.class_Bad.L4 n k0 kr m) k0 kr c s _ k = _
      unfold F.class_Bad.L4.step
      rw [bif_pos (by omega), idx_nat, h2, some_bind', is_eq, some_bind']
      unfold badK
      by_cases hx : cls c x = true
      · rw [hx, if_pos rfl, wrap_succ (by omega), ih (k + 1) m h3 (by simp at hm; omega)]
        rfl
      · have hx : cls c x = false := by simpa using hx
        rw [hx]
        have : ¬ (false = true) := by simp
        rw [if_neg this, if_pos (by omega)]
        rfl
theorem bad_cls (n : Nat) (c : Int) (s : List UInt8) (hs : s.length < 4611686018427387904) (hn : s.length < n) : F.class_Bad n c s = some (bif may c then (badK (cls c) 0 s, 0, ()) else (0, 1, ())) := by
  unfold F.class_Bad
  rw [may_cls, some_bind']
  cases hm : may c
  · rfl
  · simp only [Bool.not_true, cond_false]
    refine (bad_cls_loop n _ _ _ c s hs s 0 n rfl hn).trans ?_
    by_cases h : 0 ≤ badK (cls c) 0 s
    · rw [if_pos h]; rfl
    · rw [if_neg h]
      have : s.all (cls c) = true := Classical.byContradiction fun hh => h ((badK_ge _ _ _).2 hh)
      rw [badK_neg _ _ _ this]; rfl
def textF (c : Int) (s : List UInt8) (lo hi : Int) : Int × Int × Unit :=
  if may c = false ∨ lo < 0 ∨ hi < lo then (1, 0, ()) else if (s.length : Int) < lo then (13, (s.length : Int), ()) else if (s.length : Int) > hi then (12, hi, ())
  else if 0 ≤ badK (cls c) 0 s then (14, badK (cls c) 0 s, ()) else (0, 0, ())
theorem text_cls (n : Nat) (c : Int) (s : List UInt8) (lo hi : Int) (hs : s.length < 4611686018427387904) (hn : s.length < n) : F.class_Text n c s lo hi = some (textF c s lo hi) := by
  unfold F.class_Text textF
  rw [bad_cls n c s hs hn, some_bind']
  cases hm : may c
  · rw [if_pos (Or.inl rfl)]; rfl
  · simp only [cond_true]
    have e : (!((0 : Int) == 0)) = false := rfl
    rw [e, cond_false]
    by_cases h1 : lo < 0
    · rw [bif_pos h1, if_pos (Or.inr (Or.inl h1))]
    · rw [bif_neg h1]
      by_cases h2 : hi < lo
      · rw [bif_pos h2, if_pos (Or.inr (Or.inr h2))]
      · rw [bif_neg h2, if_neg (by simp [h1, h2])]
        by_cases h3 : (s.length : Int) < lo
        · rw [bif_pos h3, if_pos h3]
        · rw [bif_neg h3, if_neg h3]
          by_cases h4 : (s.length : Int) > hi
          · rw [bif_pos h4, if_pos h4]
          · rw [bif_neg h4, if_neg h4]
            by_cases h5 : 0 ≤ badK (cls c) 0 s
            · rw [bif_pos (by omega), if_pos h5]
            · rw [bif_neg (by omega), if_neg h5]
def bytesOf (c : Int) : List UInt8 :=
  bif c == 1 then [65, 66, 67, 68, 69, 70, 71, 72, 73, 74, 75, 76, 77, 78, 79, 80, 81, 82, 83, 84, 85, 86, 87, 88, 89, 90, 97, 98, 99, 100, 101, 102, 103, 104, 105, 106, 107, 108, 109, 110, 111, 112, 113, 114, 115, 116, 117, 118, 119, 120, 121, 122, 48, 49, 50, 51, 52, 53, 54, 55, 56, 57, 95, 46, 45]
  else bif c == 2 then [65, 66, 67, 68, 69, 70, 71, 72, 73, 74, 75, 76, 77, 78, 79, 80, 81, 82, 83, 84, 85, 86, 87, 88, 89, 90, 97, 98, 99, 100, 101, 102, 103, 104, 105, 106, 107, 108, 109, 110, 111, 112, 113, 114, 115, 116, 117, 118, 119, 120, 121, 122, 48, 49, 50, 51, 52, 53, 54, 55, 56, 57, 95, 46, 45, 47]
  else bif c == 3 then [65, 66, 67, 68, 69, 70, 71, 72, 73, 74, 75, 76, 77, 78, 79, 80, 81, 82, 83, 84, 85, 86, 87, 88, 89, 90, 97, 98, 99, 100, 101, 102, 103, 104, 105, 106, 107, 108, 109, 110, 111, 112, 113, 114, 115, 116, 117, 118, 119, 120, 121, 122, 48, 49, 50, 51, 52, 53, 54, 55, 56, 57, 95, 46, 45, 47, 33, 34, 35, 36, 37, 38, 39, 40, 41, 42, 43, 58, 59, 60, 61, 62, 63, 64, 91, 92, 93, 94, 96, 123, 125, 126]
  else bif c == 4 then [48, 49, 50, 51, 52, 53, 54, 55, 56, 57] else []
end Go.AM
set_option linter.unusedVariables false
set_option linter.unusedSimpArgs false
namespace Go.AM
def seg (c : UInt8) (s : List UInt8) : List UInt8 := s.takeWhile (· != c)
theorem seg_cons (c b : UInt8) (s : List UInt8) : seg c (b :: s) = if b = c then [] else b :: seg c s := by
  unfold seg
  by_cases h : b = c
  · subst h; simp [List.takeWhile_cons]
  · simp [List.takeWhile_cons, h]
theorem seg_le (c : UInt8) (s : List UInt8) : (seg c s).length ≤ s.length := (List.takeWhile_sublist _).length_le
theorem seg_idx (c : UInt8) (s : List UInt8) : Lib.indexByte s c = if c ∈ s then ((seg c s).length : Int) else -1 := by
  induction s with
  | nil => simp [Lib.indexByte]
  | cons b s ih =>
    rw [seg_cons]
    simp only [Lib.indexByte, beq_iff_eq, List.mem_cons]
    by_cases h : b = c
    · subst h; simp
    · rw [if_neg h, ih]
      have h' : ¬ c = b := fun hh => h hh.symm
      by_cases hm : c ∈ s
      · rw [if_pos hm, if_pos (Or.inr hm), if_neg h]
        rw [if_neg (by omega), List.length_cons]
        omega
      · rw [if_neg hm, if_pos rfl, if_neg (by simp [h', hm])]
theorem seg_all {c : UInt8} {s : List UInt8} (h : c ∉ s) : seg c s = s := by
  induction s with
  | nil => rfl
  | cons b s ih =>
    rw [seg_cons, if_neg (fun hh => h (by simp [hh])), ih (fun hh => h (by simp [hh]))]
theorem seg_lt {c : UInt8} {s : List UInt8} (h : c ∈ s) : (seg c s).length < s.length := by
  induction s with
  | nil => simp at h
  | cons b s ih =>
    rw [seg_cons]
    by_cases hb : b = c
    · rw [if_pos hb]; simp
    · rw [if_neg hb]
      have : c ∈ s := by
        rcases List.mem_cons.1 h with rfl | h
        · exact absurd rfl hb
        · exact h
      have := ih this
      simp
      omega
theorem seg_take (c : UInt8) (s : List UInt8) : s.take (seg c s).length = seg c s := by
  induction s with
  | nil => rfl
  | cons b s ih =>
    rw [seg_cons]
    by_cases hb : b = c
    · rw [if_pos hb]; rfl
    · rw [if_neg hb]; simp [ih]
theorem cut_eq (n : Nat) (c : UInt8) {s : List UInt8} (hs : s.length ≤ 1000000) : F.strings_Cut n s [c] = some (seg c s, (if c ∈ s then s.drop ((seg c s).length + 1) else []), decide (c ∈ s), ()) := by
  unfold F.strings_Cut F.stringslite_Cut O.index1
  simp only [some_bind']
  rw [seg_idx]
  by_cases h : c ∈ s
  · have hl := seg_lt h
    have s1 : sub s 0 ((seg c s).length : Int) = some (seg c s) := by
      have := sub_nat s 0 (seg c s).length (by omega) (by omega)
      rw [List.drop_zero, seg_take] at this
      exact this
    have s2 : sub s (((seg c s).length + 1 : Nat) : Int) (s.length : Int) = some (s.drop ((seg c s).length + 1)) := by
      have := sub_nat s ((seg c s).length + 1) s.length (by omega) (Nat.le_refl _)
      rw [List.take_length] at this
      exact this
    have hw : IntKind.wrap .i64 (((seg c s).length : Int) + ((([c] : List UInt8).length : Nat) : Int)) = (((seg c s).length + 1 : Nat) : Int) := wrap_succ (by omega)
    simp only [h, if_true, decide_true]
    rw [bif_pos (by omega), s1, some_bind', hw, s2]
    rfl
  · simp only [h, if_false, decide_false]
    rw [bif_neg (by omega), seg_all h]
    rfl
theorem parseR_at {s : List UInt8} (h : (parseR s).2.1.1 = 0) : (parseR s).2.1.2.1 = 0 := by
  unfold parseR outR badR at h ⊢
  split
  · rename_i h1
    rw [if_pos h1] at h
    split
    · rfl
    · rename_i h2
      rw [if_neg h2] at h
      first | done | exact absurd h h2
  · rename_i h1
    rw [if_neg h1] at h
    exact absurd h h1
theorem textF_at {c : Int} {s : List UInt8} {lo hi : Int} (h : (textF c s lo hi).1 = 0) : (textF c s lo hi).2.1 = 0 := by
  unfold textF at h ⊢
  by_cases h1 : may c = false ∨ lo < 0 ∨ hi < lo
  · rw [if_pos h1]
  rw [if_neg h1] at h ⊢
  by_cases h2 : (s.length : Int) < lo
  · rw [if_pos h2] at h; cases h
  rw [if_neg h2] at h ⊢
  by_cases h3 : (s.length : Int) > hi
  · rw [if_pos h3] at h; cases h
  rw [if_neg h3] at h ⊢
  by_cases h4 : 0 ≤ badK (cls c) 0 s
  · rw [if_pos h4] at h; cases h
  rw [if_neg h4]
abbrev MetD := List UInt8 × Int × List (Bool × Int × Int) × Int × List (List UInt8 × List UInt8) × Int × Unit
end Go.AM
set_option linter.unusedVariables false
set_option linter.unusedSimpArgs false
namespace Go.AM
end Go.AM
set_option linter.unusedVariables false
set_option linter.unusedSimpArgs false
namespace Go.AM
end Go.AM
set_option linter.unusedVariables false
set_option linter.unusedSimpArgs false
namespace Go.AM
abbrev DecL := Bool × Int × Int
abbrev TagL := List UInt8 × List UInt8
def DecLOK (d : DecL) : Prop := True ∧ (0 ≤ d.2.1 ∧ d.2.1 ≤ 18446744073709551615) ∧ -9223372036854775808 ≤ d.2.2 ∧ d.2.2 ≤ 9223372036854775807
def decC (d : DecL) : Int := checkR d.1 d.2.1.toNat d.2.2
theorem decL_nat {d : DecL} (h : DecLOK d) : ∃ (neg : Bool) (c : Nat) (e : Int), d = (neg, (c : Int), e) ∧ c < two64 ∧ -9223372036854775808 ≤ e ∧ e ≤ 9223372036854775807 := by
  obtain ⟨neg, c, e⟩ := d
  obtain ⟨_, ⟨h1, h2⟩, h3, h4⟩ := h
  simp only at h1 h2 h3 h4
  refine ⟨neg, c.toNat, e, ?_, ?_, h3, h4⟩
  · rw [show ((c.toNat : Nat) : Int) = c from by omega]
  · rw [two64_eq]; omega
theorem decC_chk (n : Nat) (hn : 100 ≤ n) {d : DecL} (h : DecLOK d) : F.dec_Check n (d.1, d.2.1, d.2.2, ()) = some (decC d) := by
  obtain ⟨neg, c, e, rfl, hc, he⟩ := decL_nat h
  exact check_eq n hn neg c hc e he
def nameOK (s : List UInt8) : Bool := (textF 1 s 1 200).1 == 0
def tagGood (t : TagL) : Bool := ((textF 2 t.1 1 64).1 == 0) && ((textF 3 t.2 0 100).1 == 0)
theorem textF_both (c : Int) (s : List UInt8) (lo hi : Int) : (((textF c s lo hi).1 == 0) && ((textF c s lo hi).2.1 == 0)) = ((textF c s lo hi).1 == 0) := by
  by_cases h : (textF c s lo hi).1 = 0
  · rw [h, textF_at h]; rfl
  · rw [beq_eq_false_iff_ne.2 h]; rfl
def TagLOK (t : TagL) : Prop := t.1.length ≤ 10000 ∧ t.2.length ≤ 10000
theorem tag_chk (n : Nat) (hn : 200000 ≤ n) {t : TagL} (h : TagLOK t) : F.tag_Check n (t.1, t.2, ()) = some (bif tagGood t then 0 else 19) := by
  obtain ⟨h1, h2⟩ := h
  unfold F.tag_Check tagGood
  simp only [text_cls n 2 t.1 1 64 (by omega) (by omega), text_cls n 3 t.2 0 100 (by omega) (by omega), some_bind', textF_both]
  cases ((textF 2 t.1 1 64).1 == 0) <;> cases ((textF 3 t.2 0 100).1 == 0) <;> rfl
def kindB (k : Int) : Bool := decide (1 ≤ k) && decide (k ≤ 5)
def valsB (vs : List DecL) : Bool := decide (1 ≤ vs.length) && (decide (vs.length ≤ 64) && vs.all fun d => decC d == 0)
def rateB (k r : Int) : Bool := decide (1 ≤ r) && (decide (r ≤ 1000000) && (!(k == 2) || r == 1000000))
def tagsB (ts : List TagL) : Bool := decide (ts.length ≤ 32) && ts.all tagGood
def timeB (t : Int) : Bool := decide (0 ≤ t) && decide (t ≤ 1099511627776)
def chkM (m : MetD) : Int :=
  bif !nameOK m.1 then 15 else bif !kindB m.2.1 then 16 else bif !valsB m.2.2.1 then 17 else bif !rateB m.2.1 m.2.2.2.1 then 18 else bif !tagsB m.2.2.2.2.1 then 19 else bif !timeB m.2.2.2.2.2.1 then 20 else 0
def MetOK (m : MetD) : Prop := m.1.length ≤ 10000 ∧ (m.2.2.1.length ≤ 10000 ∧ ∀ d ∈ m.2.2.1, DecLOK d) ∧ (m.2.2.2.2.1.length ≤ 10000 ∧ ∀ t ∈ m.2.2.2.2.1, TagLOK t)
theorem vals_loop (n : Nat) (hn : 200000 ≤ n) (k0 : List UInt8 → Int → List DecL → Int → List TagL → Int → Option Bool) (kr : Int → List UInt8 → Int → List DecL → Int → List TagL → Int → Option Bool) (h0 : ∀ a b c d e f, k0 a b c d e f = some true) (hr : ∀ i a b c d e f, 0 ≤ i → kr i a b c d e f = some false) (vs : List DecL) (hs : vs.length ≤ 10000) (hok : ∀ d ∈ vs, DecLOK d) (b0 : List UInt8) (b1 : Int) (b2 : List DecL) (b3 : Int) (b4 : List TagL) (b5 : Int) : ∀ (r : List DecL) (k m : Nat), vs.drop k = r → r.length < m →
    F.metric_look_values.L2_slices_IndexFunc_api_Dec_api_Dec n k0 kr m vs (vs.length : Int) (k : Int) b0 b1 b2 b3 b4 b5 = some (r.all fun d => decC d == 0) := by
  intro r
  induction r with
  | nil =>
    intro k m hk hm
    have := drop_nil' hk
    cases m with
    | zero => simp at hm
    | succ m =>
      show F.metric_look_values.L2_slices_IndexFunc_api_Dec_api_Dec.step n _ k0 kr vs _ _ _ _ _ _ _ _ = _
      unfold F.metric_look_values.L2_slices_IndexFunc_api_Dec_api_Dec.step
      rw [bif_neg (by omega), h0]
      rfl
  | cons x r ih =>
    intro k m hk hm
    obtain ⟨h1, h2, h3⟩ := drop_cons hk
    have hx : DecLOK x := hok x (List.mem_of_getElem? h2)
    cases m with
    | zero => simp at hm
    | succ m =>
      show F.metric_look_values.L2_slices_IndexFunc_api_Dec_api_Dec.step n (F.metric_look_values.L2_slices_IndexFunc_api_Dec_api_Dec n k0 kr m) k0 kr vs _ _ _ _ _ _ _ _ = _
      unfold F.metric_look_values.L2_slices_IndexFunc_api_Dec_api_Dec.step F.metric_look_values_1
      rw [bif_pos (by omega), idx_nat, h2]
      simp only [some_bind', decC_chk n (by omega) hx, List.all_cons]
      by_cases h : decC x = 0
      · rw [h, wrap_succ (by omega), ih (k + 1) m h3 (by simp at hm; omega)]; rfl
      · rw [beq_eq_false_iff_ne.2 h]
        simp [hr]
theorem tags_loop (n : Nat) (hn : 200000 ≤ n) (k0 : List UInt8 → Int → List DecL → Int → List TagL → Int → Option Bool) (kr : Int → List UInt8 → Int → List DecL → Int → List TagL → Int → Option Bool) (h0 : ∀ a b c d e f, k0 a b c d e f = some true) (hr : ∀ i a b c d e f, 0 ≤ i → kr i a b c d e f = some false) (vs : List TagL) (hs : vs.length ≤ 10000) (hok : ∀ d ∈ vs, TagLOK d) (b0 : List UInt8) (b1 : Int) (b2 : List DecL) (b3 : Int) (b4 : List TagL) (b5 : Int) : ∀ (r : List TagL) (k m : Nat), vs.drop k = r → r.length < m →
    F.metric_look_tags.L2_slices_IndexFunc_api_Tag_api_Tag n k0 kr m vs (vs.length : Int) (k : Int) b0 b1 b2 b3 b4 b5 = some (r.all tagGood) := by
  intro r
  induction r with
  | nil =>
    intro k m hk hm
    have := drop_nil' hk
    cases m with
    | zero => simp at hm
    | succ m =>
      show F.metric_look_tags.L2_slices_IndexFunc_api_Tag_api_Tag.step n _ k0 kr vs _ _ _ _ _ _ _ _ = _
      unfold F.metric_look_tags.L2_slices_IndexFunc_api_Tag_api_Tag.step
      rw [bif_neg (by omega), h0]
      rfl
  | cons x r ih =>
    intro k m hk hm
    obtain ⟨h1, h2, h3⟩ := drop_cons hk
    have hx : TagLOK x := hok x (List.mem_of_getElem? h2)
    cases m with
    | zero => simp at hm
    | succ m =>
      show F.metric_look_tags.L2_slices_IndexFunc_api_Tag_api_Tag.step n (F.metric_look_tags.L2_slices_IndexFunc_api_Tag_api_Tag n k0 kr m) k0 kr vs _ _ _ _ _ _ _ _ = _
      unfold F.metric_look_tags.L2_slices_IndexFunc_api_Tag_api_Tag.step F.metric_look_tags_1
      rw [bif_pos (by omega), idx_nat, h2]
      simp only [some_bind', tag_chk n hn hx, List.all_cons]
      cases h : tagGood x
      · simp [hr]
      · rw [wrap_succ (by omega), ih (k + 1) m h3 (by simp at hm; omega)]; rfl
theorem mbetween_eq (n : Nat) (x lo hi : Int) : F.metric_between n x lo hi = some (decide (lo ≤ x) && decide (x ≤ hi)) := by
  unfold F.metric_between
  by_cases h : lo ≤ x
  · rw [bif_pos (by omega), decide_eq_true h]; rfl
  · rw [bif_neg (by omega), decide_eq_false h]; rfl
theorem look_name (n : Nat) (m : MetD) (h : m.1.length ≤ 10000) (hn : 200000 ≤ n) : F.metric_look_name n m = some (nameOK m.1) := by
  unfold F.metric_look_name nameOK
  rw [text_cls n 1 m.1 1 200 (by omega) (by omega), some_bind', textF_both]
theorem look_kind (n : Nat) (m : MetD) : F.metric_look_kind n m = some (kindB m.2.1) := by
  unfold F.metric_look_kind kindB
  rw [mbetween_eq]; rfl
theorem look_values (n : Nat) (hn : 200000 ≤ n) (m : MetD) (hm : MetOK m) : F.metric_look_values n m = some (valsB m.2.2.1) := by
  unfold F.metric_look_values valsB
  have L := vals_loop n hn (fun _ _ _ _ _ _ => some true) (fun e _ _ _ _ _ _ => some (!(decide (e ≥ (0 : Int))))) (fun _ _ _ _ _ _ => rfl) (fun i _ _ _ _ _ _ h => by simp [h]) _ hm.2.1.1 hm.2.1.2 m.1 m.2.1 m.2.2.1 m.2.2.2.1 m.2.2.2.2.1 m.2.2.2.2.2.1 m.2.2.1 0 n rfl (by have := hm.2.1.1; omega)
  rw [show ((0 : Nat) : Int) = (0 : Int) from rfl] at L
  rw [mbetween_eq, some_bind', L]
  have e1 : decide ((1 : Int) ≤ (m.2.2.1.length : Int)) = decide (1 ≤ m.2.2.1.length) := by apply decide_eq_decide.2; omega
  have e2 : decide ((m.2.2.1.length : Int) ≤ 64) = decide (m.2.2.1.length ≤ 64) := by apply decide_eq_decide.2; omega
  rw [e1, e2]
  cases decide (1 ≤ m.2.2.1.length) <;> cases decide (m.2.2.1.length ≤ 64) <;> rfl
theorem look_rate (n : Nat) (m : MetD) : F.metric_look_rate n m = some (rateB m.2.1 m.2.2.2.1) := by
  unfold F.metric_look_rate rateB
  rw [mbetween_eq, some_bind']
  cases decide ((1 : Int) ≤ m.2.2.2.1) <;> cases decide (m.2.2.2.1 ≤ 1000000) <;> cases (m.2.1 == 2) <;> rfl
theorem look_tags (n : Nat) (hn : 200000 ≤ n) (m : MetD) (hm : MetOK m) : F.metric_look_tags n m = some (tagsB m.2.2.2.2.1) := by
  unfold F.metric_look_tags tagsB
  have L := tags_loop n hn (fun _ _ _ _ _ _ => some true) (fun e _ _ _ _ _ _ => some (!(decide (e ≥ (0 : Int))))) (fun _ _ _ _ _ _ => rfl) (fun i _ _ _ _ _ _ h => by simp [h]) _ hm.2.2.1 hm.2.2.2 m.1 m.2.1 m.2.2.1 m.2.2.2.1 m.2.2.2.2.1 m.2.2.2.2.2.1 m.2.2.2.2.1 0 n rfl (by have := hm.2.2.1; omega)
  rw [show ((0 : Nat) : Int) = (0 : Int) from rfl] at L
  rw [L]
  have e2 : decide ((m.2.2.2.2.1.length : Int) ≤ 32) = decide (m.2.2.2.2.1.length ≤ 32) := by apply decide_eq_decide.2; omega
  rw [e2]
  cases decide (m.2.2.2.2.1.length ≤ 32) <;> rfl
theorem look_time (n : Nat) (m : MetD) : F.metric_look_time n m = some (timeB m.2.2.2.2.2.1) := by
  unfold F.metric_look_time timeB
  rw [mbetween_eq]; rfl
theorem metcheck_eq (n : Nat) (hn : 200000 ≤ n) (m : MetD) (hm : MetOK m) : F.metric_Check n m = some (chkM m) := by
  unfold F.metric_Check
  obtain ⟨q, hq⟩ : ∃ q, n = q + 7 := ⟨n - 7, by omega⟩
  have l1 := look_name n m hm.1 hn
  have l2 := look_kind n m
  have l3 := look_values n hn m hm
  have l4 := look_rate n m
  have l5 := look_tags n hn m hm
  have l6 := look_time n m
  obtain ⟨nm, k, vs, r, ts, t, _⟩ := m
  simp only at l1 l2 l3 l4 l5 l6
  have key : ∀ (X : Type) (k0 : (List UInt8) → Int → (List DecL) → Int → (List TagL) → Int → (List UInt8) → Int → (List DecL) → Int → (List TagL) → Int → Option X) (kr : Int → (List UInt8) → Int → (List DecL) → Int → (List TagL) → Int → (List UInt8) → Int → (List DecL) → Int → (List TagL) → Int → Option X),
      F.metric_Check.L3 n k0 kr (q + 7) ((((nm, k, vs, r, ts, t, ()), ()), (())), (15 : Int), (((nm, k, vs, r, ts, t, ()), ()), (())), (16 : Int), (((nm, k, vs, r, ts, t, ()), ()), (())), (17 : Int), (((nm, k, vs, r, ts, t, ()), ()), (())), (18 : Int), (((nm, k, vs, r, ts, t, ()), ()), (())), (19 : Int), (((nm, k, vs, r, ts, t, ()), ()), (())), (20 : Int), ()) 0 nm k vs r ts t nm k vs r ts t =
      (bif !nameOK nm then kr 15 nm k vs r ts t nm k vs r ts t else bif !kindB k then kr 16 nm k vs r ts t nm k vs r ts t else bif !valsB vs then kr 17 nm k vs r ts t nm k vs r ts t else bif !rateB k r then kr 18 nm k vs r ts t nm k vs r ts t
        else bif !tagsB ts then kr 19 nm k vs r ts t nm k vs r ts t else bif !timeB t then kr 20 nm k vs r ts t nm k vs r ts t else k0 nm k vs r ts t nm k vs r ts t) := by
    intro X k0 kr
    refine Eq.trans (b := (F.metric_look_name n (nm, k, vs, r, ts, t, ())).bind fun y => bif !y then kr 15 nm k vs r ts t nm k vs r ts t else
      (F.metric_look_kind n (nm, k, vs, r, ts, t, ())).bind fun y => bif !y then kr 16 nm k vs r ts t nm k vs r ts t else
      (F.metric_look_values n (nm, k, vs, r, ts, t, ())).bind fun y => bif !y then kr 17 nm k vs r ts t nm k vs r ts t else
      (F.metric_look_rate n (nm, k, vs, r, ts, t, ())).bind fun y => bif !y then kr 18 nm k vs r ts t nm k vs r ts t else
      (F.metric_look_tags n (nm, k, vs, r, ts, t, ())).bind fun y => bif !y then kr 19 nm k vs r ts t nm k vs r ts t else
      (F.metric_look_time n (nm, k, vs, r, ts, t, ())).bind fun y => bif !y then kr 20 nm k vs r ts t nm k vs r ts t else k0 nm k vs r ts t nm k vs r ts t) (by kernel_rfl) ?_
    rw [l1, l2, l3, l4, l5, l6]
    rfl
  rw [← hq] at key
  rw [key]
  unfold chkM
  simp only [bif_some]
end Go.AM
set_option linter.unusedVariables false
set_option linter.unusedSimpArgs false
namespace Go.AM
theorem decL_beq (x y : DecL) : ((x.1 == y.1) && ((x.2.1 == y.2.1) && (x.2.2 == y.2.2))) = decide (x = y) := by
  obtain ⟨a, b, c⟩ := x
  obtain ⟨a', b', c'⟩ := y
  by_cases h : ((a, b, c) : DecL) = (a', b', c')
  · rw [decide_eq_true h]
    simp only [Prod.mk.injEq] at h
    simp [h.1, h.2.1, h.2.2]
  · rw [decide_eq_false h]
    cases h1 : (a == a') && ((b == b') && (c == c')) with
    | false => rfl
    | true =>
      simp only [Bool.and_eq_true, beq_iff_eq] at h1
      exact absurd (by rw [h1.1, h1.2.1, h1.2.2]) h
theorem tagL_beq (x y : TagL) : ((x.1 == y.1) && (x.2 == y.2)) = decide (x = y) := by
  obtain ⟨a, b⟩ := x
  obtain ⟨a', b'⟩ := y
  by_cases h : ((a, b) : TagL) = (a', b')
  · rw [decide_eq_true h]
    simp only [Prod.mk.injEq] at h
    simp [h.1, h.2]
  · rw [decide_eq_false h]
    cases h1 : (a == a') && (b == b') with
    | false => rfl
    | true =>
      simp only [Bool.and_eq_true, beq_iff_eq] at h1
      exact absurd (by rw [h1.1, h1.2]) h
theorem decs_loop (n : Nat) (X : Type) (k0 : Unit → Option X) (kr : Bool → Option X) (a b : List DecL) (ha : a.length ≤ 10000) (hl : a.length = b.length) : ∀ (r q : List DecL) (k m : Nat), a.drop k = r → b.drop k = q → r.length < m →
    F.slices_Equal_api_Dec_api_Dec.L4 n k0 kr m a b (a.length : Int) (k : Int) = if r = q then k0 () else kr false := by
  intro r
  induction r with
  | nil =>
    intro q k m hk hq hm
    have := drop_nil' hk
    obtain ⟨m, rfl⟩ : ∃ q, m = q + 1 := ⟨m - 1, by omega⟩
    have : q = [] := by rw [← hq]; exact List.drop_eq_nil_of_le (by omega)
    show F.slices_Equal_api_Dec_api_Dec.L4.step n (F.slices_Equal_api_Dec_api_Dec.L4 n k0 kr m) k0 kr a b _ _ = _
    unfold F.slices_Equal_api_Dec_api_Dec.L4.step
    rw [bif_neg (by omega), if_pos this.symm]
  | cons x r ih =>
    intro q k m hk hq hm
    obtain ⟨h1, h2, h3⟩ := drop_cons hk
    obtain ⟨m, rfl⟩ : ∃ q, m = q + 1 := ⟨m - 1, by omega⟩
    have hd : b.drop k = b[k] :: b.drop (k + 1) := List.drop_eq_getElem_cons (by omega)
    rw [hd] at hq
    subst hq
    show F.slices_Equal_api_Dec_api_Dec.L4.step n (F.slices_Equal_api_Dec_api_Dec.L4 n k0 kr m) k0 kr a b _ _ = _
    unfold F.slices_Equal_api_Dec_api_Dec.L4.step
    rw [bif_pos (by omega), idx_nat, h2, some_bind', idx_lt (by omega : k < b.length), some_bind', decL_beq]
    by_cases hx : x = b[k]
    · rw [decide_eq_true hx, Bool.not_true, cond_false, wrap_succ (by omega), ih (b.drop (k + 1)) (k + 1) m h3 rfl (by simp at hm; omega)]
      by_cases hr : r = b.drop (k + 1)
      · rw [if_pos hr, if_pos (by rw [hx, ← hr])]
      · rw [if_neg hr, if_neg (fun h => hr (List.cons.inj h).2)]
    · rw [decide_eq_false hx, if_neg (fun h => hx (List.cons.inj h).1)]; rfl
theorem tags_eq_loop (n : Nat) (X : Type) (k0 : Unit → Option X) (kr : Bool → Option X) (a b : List TagL) (ha : a.length ≤ 10000) (hl : a.length = b.length) : ∀ (r q : List TagL) (k m : Nat), a.drop k = r → b.drop k = q → r.length < m →
    F.slices_Equal_api_Tag_api_Tag.L4 n k0 kr m a b (a.length : Int) (k : Int) = if r = q then k0 () else kr false := by
  intro r
  induction r with
  | nil =>
    intro q k m hk hq hm
    have := drop_nil' hk
    obtain ⟨m, rfl⟩ : ∃ q, m = q + 1 := ⟨m - 1, by omega⟩
    have : q = [] := by rw [← hq]; exact List.drop_eq_nil_of_le (by omega)
    show F.slices_Equal_api_Tag_api_Tag.L4.step n (F.slices_Equal_api_Tag_api_Tag.L4 n k0 kr m) k0 kr a b _ _ = _
    unfold F.slices_Equal_api_Tag_api_Tag.L4.step
    rw [bif_neg (by omega), if_pos this.symm]
  | cons x r ih =>
    intro q k m hk hq hm
    obtain ⟨h1, h2, h3⟩ := drop_cons hk
    obtain ⟨m, rfl⟩ : ∃ q, m = q + 1 := ⟨m - 1, by omega⟩
    have hd : b.drop k = b[k] :: b.drop (k + 1) := List.drop_eq_getElem_cons (by omega)
    rw [hd] at hq
    subst hq
    show F.slices_Equal_api_Tag_api_Tag.L4.step n (F.slices_Equal_api_Tag_api_Tag.L4 n k0 kr m) k0 kr a b _ _ = _
    unfold F.slices_Equal_api_Tag_api_Tag.L4.step
    rw [bif_pos (by omega), idx_nat, h2, some_bind', idx_lt (by omega : k < b.length), some_bind', tagL_beq]
    by_cases hx : x = b[k]
    · rw [decide_eq_true hx, Bool.not_true, cond_false, wrap_succ (by omega), ih (b.drop (k + 1)) (k + 1) m h3 rfl (by simp at hm; omega)]
      by_cases hr : r = b.drop (k + 1)
      · rw [if_pos hr, if_pos (by rw [hx, ← hr])]
      · rw [if_neg hr, if_neg (fun h => hr (List.cons.inj h).2)]
    · rw [decide_eq_false hx, if_neg (fun h => hx (List.cons.inj h).1)]; rfl
theorem decs_eq (n : Nat) (hn : 200000 ≤ n) (a b : List DecL) (ha : a.length ≤ 10000) : F.metric_equal_api_Dec n a b = some (decide (a = b)) := by
  unfold F.metric_equal_api_Dec F.slices_Equal_api_Dec_api_Dec
  by_cases hl : a.length = b.length
  · have e : ((a.length : Int) == (b.length : Int)) = true := by simp [hl]
    rw [e, Bool.not_true, cond_false]
    have L := decs_loop n Bool (fun (_ : Unit) => some (true)) (fun e4_4 => some (e4_4)) a b ha hl a b 0 n rfl rfl (by omega)
    rw [show ((0 : Nat) : Int) = (0 : Int) from rfl] at L
    rw [L]
    by_cases h : a = b
    · rw [if_pos h, decide_eq_true h]; rfl
    · rw [if_neg h, decide_eq_false h]; rfl
  · have e : ((a.length : Int) == (b.length : Int)) = false := by rw [beq_eq_false_iff_ne]; omega
    rw [e, decide_eq_false (fun h => hl (by rw [h]))]; rfl
theorem tags_eq (n : Nat) (hn : 200000 ≤ n) (a b : List TagL) (ha : a.length ≤ 10000) : F.metric_equal_api_Tag n a b = some (decide (a = b)) := by
  unfold F.metric_equal_api_Tag F.slices_Equal_api_Tag_api_Tag
  by_cases hl : a.length = b.length
  · have e : ((a.length : Int) == (b.length : Int)) = true := by simp [hl]
    rw [e, Bool.not_true, cond_false]
    have L := tags_eq_loop n Bool (fun (_ : Unit) => some (true)) (fun e4_4 => some (e4_4)) a b ha hl a b 0 n rfl rfl (by omega)
    rw [show ((0 : Nat) : Int) = (0 : Int) from rfl] at L
    rw [L]
    by_cases h : a = b
    · rw [if_pos h, decide_eq_true h]; rfl
    · rw [if_neg h, decide_eq_false h]; rfl
  · have e : ((a.length : Int) == (b.length : Int)) = false := by rw [beq_eq_false_iff_ne]; omega
    rw [e, decide_eq_false (fun h => hl (by rw [h]))]; rfl
noncomputable def eqM (a b : MetD) : Bool := @decide (a = b) (Classical.propDecidable _)
theorem eqM_pos {a b : MetD} (h : a = b) : eqM a b = true := @decide_eq_true _ (Classical.propDecidable _) h
theorem eqM_neg {a b : MetD} (h : ¬ a = b) : eqM a b = false := @decide_eq_false _ (Classical.propDecidable _) h
theorem equal_eq (n : Nat) (hn : 200000 ≤ n) (a b : MetD) (h1 : a.2.2.1.length ≤ 10000) (h2 : a.2.2.2.2.1.length ≤ 10000) : F.metric_Equal n a b = some (eqM a b) := by
  obtain ⟨a1, a2, a3, a4, a5, a6, _⟩ := a
  obtain ⟨b1, b2, b3, b4, b5, b6, _⟩ := b
  simp only at h1 h2
  unfold F.metric_Equal
  simp only [decs_eq n hn a3 b3 h1, tags_eq n hn a5 b5 h2, some_bind']
  by_cases h : ((a1, a2, a3, a4, a5, a6, ()) : MetD) = (b1, b2, b3, b4, b5, b6, ())
  · rw [eqM_pos h]
    simp only [Prod.mk.injEq] at h
    obtain ⟨rfl, rfl, rfl, rfl, rfl, rfl, _⟩ := h
    simp
  · rw [eqM_neg h]
    by_cases g1 : a1 = b1
    · by_cases g2 : a2 = b2
      · by_cases g4 : a4 = b4
        · by_cases g6 : a6 = b6
          · by_cases g3 : a3 = b3
            · by_cases g5 : a5 = b5
              · exact absurd (by rw [g1, g2, g3, g4, g5, g6]) h
              · simp [g1, g2, g4, g6, g3, g5]
            · simp [g1, g2, g4, g6, g3]
          · rw [beq_eq_false_iff_ne.2 g6]; simp [g1, g2, g4]
        · rw [beq_eq_false_iff_ne.2 g4]; simp [g1, g2]
      · rw [beq_eq_false_iff_ne.2 g2]; simp [g1]
    · rw [beq_eq_false_iff_ne.2 g1]; rfl
theorem refeq_decs (n : Nat) (X : Type) (k0 : List UInt8 → Int → List DecL → Int → List TagL → Int → List UInt8 → Int → List DecL → Int → List TagL → Int → Option X) (kr : Bool → List UInt8 → Int → List DecL → Int → List TagL → Int → List UInt8 → Int → List DecL → Int → List TagL → Int → Option X) (nm : List UInt8) (k : Int) (vs : List DecL) (r : Int) (ts : List TagL) (t : Int) (hs : vs.length ≤ 10000) : ∀ (j i m : Nat), i + j = vs.length → j < m →
    F.ref07_Equal.L4 n k0 kr m (i : Int) nm k vs r ts t nm k vs r ts t = k0 nm k vs r ts t nm k vs r ts t := by
  intro j
  induction j with
  | zero =>
    intro i m hi hm
    obtain ⟨m, rfl⟩ : ∃ q, m = q + 1 := ⟨m - 1, by omega⟩
    show F.ref07_Equal.L4.step n (F.ref07_Equal.L4 n k0 kr m) k0 kr _ _ _ _ _ _ _ _ _ _ _ _ _ = _
    unfold F.ref07_Equal.L4.step
    rw [bif_neg (by omega)]
  | succ j ih =>
    intro i m hi hm
    obtain ⟨m, rfl⟩ : ∃ q, m = q + 1 := ⟨m - 1, by omega⟩
    show F.ref07_Equal.L4.step n (F.ref07_Equal.L4 n k0 kr m) k0 kr _ _ _ _ _ _ _ _ _ _ _ _ _ = _
    unfold F.ref07_Equal.L4.step
    rw [bif_pos (by omega), idx_lt (by omega : i < vs.length), some_bind', some_bind', decL_beq, decide_eq_true rfl, Bool.not_true, cond_false, wrap_succ (by omega), ih (i + 1) m (by omega) (by omega)]
theorem refeq_tags (n : Nat) (X : Type) (k0 : List UInt8 → Int → List DecL → Int → List TagL → Int → List UInt8 → Int → List DecL → Int → List TagL → Int → Option X) (kr : Bool → List UInt8 → Int → List DecL → Int → List TagL → Int → List UInt8 → Int → List DecL → Int → List TagL → Int → Option X) (nm : List UInt8) (k : Int) (vs : List DecL) (r : Int) (ts : List TagL) (t : Int) (hs : ts.length ≤ 10000) : ∀ (j i m : Nat), i + j = ts.length → j < m →
    F.ref07_Equal.L9 n k0 kr m (i : Int) nm k vs r ts t nm k vs r ts t = k0 nm k vs r ts t nm k vs r ts t := by
  intro j
  induction j with
  | zero =>
    intro i m hi hm
    obtain ⟨m, rfl⟩ : ∃ q, m = q + 1 := ⟨m - 1, by omega⟩
    show F.ref07_Equal.L9.step n (F.ref07_Equal.L9 n k0 kr m) k0 kr _ _ _ _ _ _ _ _ _ _ _ _ _ = _
    unfold F.ref07_Equal.L9.step
    rw [bif_neg (by omega)]
  | succ j ih =>
    intro i m hi hm
    obtain ⟨m, rfl⟩ : ∃ q, m = q + 1 := ⟨m - 1, by omega⟩
    show F.ref07_Equal.L9.step n (F.ref07_Equal.L9 n k0 kr m) k0 kr _ _ _ _ _ _ _ _ _ _ _ _ _ = _
    unfold F.ref07_Equal.L9.step
    rw [bif_pos (by omega), idx_lt (by omega : i < ts.length), some_bind', some_bind', tagL_beq, decide_eq_true rfl, Bool.not_true, cond_false, wrap_succ (by omega), ih (i + 1) m (by omega) (by omega)]
theorem refequal_refl (n : Nat) (hn : 200000 ≤ n) (a : MetD) (h1 : a.2.2.1.length ≤ 10000) (h2 : a.2.2.2.2.1.length ≤ 10000) : F.ref07_Equal n a a = some true := by
  obtain ⟨nm, k, vs, r, ts, t, _⟩ := a
  simp only at h1 h2
  unfold F.ref07_Equal
  simp only [beq_self_eq_true, Bool.not_true, cond_false]
  refine (refeq_decs n Bool _ _ nm k vs r ts t h1 vs.length 0 n (by omega) (by omega)).trans ?_
  exact refeq_tags n Bool _ _ nm k vs r ts t h2 ts.length 0 n (by omega) (by omega)
end Go.AM
set_option linter.unusedVariables false
set_option linter.unusedSimpArgs false
namespace Go.AM
def insD (t : TagL) : List TagL → List TagL
  | [] => [t]
  | x :: r => if ltT x t then x :: insD t r else if x = t then x :: r else t :: x :: r
def normT (l : List TagL) : List TagL := l.foldl (fun o t => insD t o) []
abbrev StrictT (l : List TagL) : Prop := l.Pairwise fun a b => ltT a b = true
theorem insD_mem (t : TagL) : ∀ (l : List TagL) (x : TagL), x ∈ insD t l ↔ x = t ∨ x ∈ l
  | [], x => by simp [insD]
  | y :: r, x => by
    unfold insD
    split
    · simp only [List.mem_cons, insD_mem t r x]
      constructor
      · rintro (h | h | h) <;> simp [h]
      · rintro (h | h | h) <;> simp [h]
    · split
      · rename_i e
        subst e
        simp only [List.mem_cons]
        constructor
        · rintro (h | h) <;> simp [h]
        · rintro (h | h | h) <;> simp [h]
      · simp only [List.mem_cons]
theorem insD_strict (t : TagL) : ∀ (l : List TagL), StrictT l → StrictT (insD t l)
  | [], _ => by simp [insD, StrictT]
  | y :: r, h => by
    obtain ⟨h1, h2⟩ := List.pairwise_cons.1 h
    unfold insD
    split
    · rename_i hy
      refine List.pairwise_cons.2 ⟨fun x hx => ?_, insD_strict t r h2⟩
      rcases (insD_mem t r x).1 hx with rfl | hx
      · exact hy
      · exact h1 x hx
    · rename_i hy
      split
      · exact h
      · rename_i hne
        have hty : ltT t y = true := by
          cases hc : ltT t y
          · exact absurd (ltT_total (by simpa using hy) hc) hne
          · rfl
        refine List.pairwise_cons.2 ⟨fun x hx => ?_, h⟩
        rcases List.mem_cons.1 hx with rfl | hx
        · exact hty
        · exact ltT_trans hty (h1 x hx)
theorem strict_unique : ∀ (a b : List TagL), StrictT a → StrictT b → (∀ x, x ∈ a ↔ x ∈ b) → a = b
  | [], [], _, _, _ => rfl
  | [], y :: b, _, _, h => by have := (h y).2 (by simp); cases this
  | x :: a, [], _, _, h => by have := (h x).1 (by simp); cases this
  | x :: a, y :: b, ha, hb, h => by
    obtain ⟨h1, h2⟩ := List.pairwise_cons.1 ha
    obtain ⟨h3, h4⟩ := List.pairwise_cons.1 hb
    have e : x = y := by
      rcases List.mem_cons.1 ((h x).1 (by simp)) with e | e
      · exact e
      · rcases List.mem_cons.1 ((h y).2 (by simp)) with e' | e'
        · exact e'.symm
        · have := ltT_asymm (h1 y e'); rw [h3 x e] at this; cases this
    subst e
    rw [strict_unique a b h2 h4 (fun z => ?_)]
    have hx := h z
    simp only [List.mem_cons] at hx
    constructor
    · intro hz
      rcases hx.1 (Or.inr hz) with rfl | h'
      · have := h1 _ hz; rw [ltT_irrefl] at this; cases this
      · exact h'
    · intro hz
      rcases hx.2 (Or.inr hz) with rfl | h'
      · have := h3 _ hz; rw [ltT_irrefl] at this; cases this
      · exact h'
theorem normT_fold : ∀ (l o : List TagL), StrictT o → StrictT (l.foldl (fun o t => insD t o) o) ∧ ∀ x, x ∈ l.foldl (fun o t => insD t o) o ↔ x ∈ o ∨ x ∈ l
  | [], o, h => ⟨h, fun x => by simp⟩
  | t :: l, o, h => by
    obtain ⟨h1, h2⟩ := normT_fold l (insD t o) (insD_strict t o h)
    refine ⟨h1, fun x => ?_⟩
    rw [List.foldl_cons, h2 x, insD_mem, List.mem_cons]
    constructor
    · rintro ((h | h) | h) <;> simp [h]
    · rintro (h | h | h) <;> simp [h]
theorem normT_strict (l : List TagL) : StrictT (normT l) := (normT_fold l [] List.Pairwise.nil).1
theorem normT_mem (l : List TagL) (x : TagL) : x ∈ normT l ↔ x ∈ l := by
  unfold normT; rw [(normT_fold l [] List.Pairwise.nil).2 x]; simp
theorem normT_same {l m : List TagL} (h : ∀ x, x ∈ l ↔ x ∈ m) : normT l = normT m :=
  strict_unique _ _ (normT_strict l) (normT_strict m) (fun x => by rw [normT_mem, normT_mem]; exact h x)
theorem normT_id {l : List TagL} (h : StrictT l) : normT l = l :=
  strict_unique _ _ (normT_strict l) h (fun x => normT_mem l x)
theorem insD_len (t : TagL) : ∀ l, (insD t l).length ≤ l.length + 1
  | [] => by simp [insD]
  | y :: r => by
    unfold insD
    have := insD_len t r
    split
    · simp; omega
    · split <;> simp
theorem normT_len (l : List TagL) : (normT l).length ≤ l.length := by
  have : ∀ (l o : List TagL), (l.foldl (fun o t => insD t o) o).length ≤ o.length + l.length := by
    intro l
    induction l with
    | nil => intro o; simp
    | cons t l ih => intro o; have h1 := ih (insD t o); have h2 := insD_len t o; simp only [List.foldl_cons, List.length_cons]; omega
  have h := this l []
  simp only [List.length_nil, Nat.zero_add] at h
  exact h
def dedF (D : List TagL) (t : TagL) : List TagL := if D.getLast? = some t then D else D ++ [t]
theorem dedF_fold : ∀ (s D : List TagL), SortedT s → StrictT D → (∀ a ∈ D, ∀ b ∈ s, ltT b a = false) → StrictT (s.foldl dedF D) ∧ ∀ x, x ∈ s.foldl dedF D ↔ x ∈ D ∨ x ∈ s
  | [], D, _, h, _ => ⟨h, fun x => by simp⟩
  | t :: s, D, hs, hD, hb => by
    obtain ⟨h1, h2⟩ := List.pairwise_cons.1 hs
    have key : StrictT (dedF D t) ∧ (∀ x, x ∈ dedF D t ↔ x ∈ D ∨ x = t) := by
      unfold dedF
      split
      · rename_i e
        have ht : t ∈ D := List.mem_of_getLast? e
        exact ⟨hD, fun x => ⟨Or.inl, fun h => h.elim id (fun e => e ▸ ht)⟩⟩
      · rename_i e
        refine ⟨?_, fun x => by simp⟩
        refine List.pairwise_append.2 ⟨hD, List.pairwise_singleton _ _, fun a ha b hb' => ?_⟩
        rw [List.mem_singleton.1 hb']
        have h0 := hb a ha t (by simp)
        cases hc : ltT a t
        · exfalso
          have : a = t := ltT_total hc h0
          subst this
          apply e
          have : ∀ (D : List TagL), StrictT D → (∀ x ∈ D, ltT a x = false) → a ∈ D → D.getLast? = some a := by
            intro D
            induction D with
            | nil => intro _ _ h; cases h
            | cons y D ih =>
              intro hp hm hin
              obtain ⟨p1, p2⟩ := List.pairwise_cons.1 hp
              cases D with
              | nil => rcases List.mem_cons.1 hin with rfl | h
                       · rfl
                       · cases h
              | cons z D =>
                rw [List.getLast?_cons_cons]
                refine ih p2 (fun x hx => hm x (List.mem_cons_of_mem _ hx)) ?_
                rcases List.mem_cons.1 hin with rfl | h
                · have := p1 z (by simp); rw [hm z (by simp)] at this; cases this
                · exact h
          exact this D hD (fun x hx => hb x hx a (by simp)) ha
        · rfl
    obtain ⟨k1, k2⟩ := key
    obtain ⟨f1, f2⟩ := dedF_fold s (dedF D t) h2 k1 (fun a ha b hb' => by
      rcases (k2 a).1 ha with ha | rfl
      · exact hb a ha b (List.mem_cons_of_mem _ hb')
      · exact h1 b hb')
    refine ⟨f1, fun x => ?_⟩
    rw [List.foldl_cons, f2 x, k2 x, List.mem_cons]
    constructor
    · rintro ((h | h) | h) <;> simp [h]
    · rintro (h | h | h) <;> simp [h]
theorem ded_norm (l : List TagL) : (sortTags l).foldl dedF [] = normT l := by
  obtain ⟨h1, h2⟩ := dedF_fold (sortTags l) [] (sortTags_sorted l) List.Pairwise.nil (fun a ha => by cases ha)
  refine strict_unique _ _ h1 (normT_strict l) (fun x => ?_)
  rw [h2 x, normT_mem, (sortTags_perm l).mem_iff]; simp
theorem upd_set {α : Type} : ∀ (l : List α) (k : Nat) (x : α), upd l k x = l.set k x
  | [], _, _ => rfl
  | _ :: l, 0, _ => rfl
  | _ :: l, k + 1, x => by simp [upd, upd_set l k x]
end Go.AM
set_option linter.unusedVariables false
set_option linter.unusedSimpArgs false
namespace Go.AM
theorem getLast_take {α : Type} {L D : List α} {k : Nat} (h : L.take D.length = D) (hk : D.length = k + 1) : L[k]? = D.getLast? := by
  rw [List.getLast?_eq_getElem?]
  have : D[D.length - 1]? = (L.take D.length)[D.length - 1]? := by rw [h]
  rw [this, hk, List.getElem?_take]
  simp
theorem take_set {α : Type} {L D : List α} (x : α) (h : L.take D.length = D) (hk : D.length < L.length) : (L.set D.length x).take (D ++ [x]).length = D ++ [x] := by
  rw [List.length_append, List.length_singleton, List.take_add_one, List.take_set_of_le (Nat.le_refl _), h]
  simp [hk]
theorem drop_set {α : Type} (L : List α) (i k : Nat) (x : α) (h : i ≤ k) : (L.set i x).drop (k + 1) = L.drop (k + 1) := List.drop_set_of_lt (by omega)
theorem norm_loop (n : Nat) (X : Type) (k0 : (Nat × Nat) → Int → (Nat × List TagL) → (Nat × List TagL) → (Nat × List TagL) → Option X) (v N : Nat) (hN : N ≤ 100000) (b0 b1 : Nat × List TagL) :
    ∀ (r D L : List TagL) (i m : Nat), L.drop i = r → i ≤ N → r.length < m → D.length ≤ i → (i = 0 ↔ D = []) → L.length = N → L.take D.length = D →
    ∃ L', L'.take (r.foldl dedF D).length = r.foldl dedF D ∧ L'.length = N ∧ F.tag_Normal.L5 n k0 m (v, N) (D.length : Int) (v, N) (N : Int) (i : Int) b0 b1 (v, L) = k0 (v, N) ((r.foldl dedF D).length : Int) b0 b1 (v, L') := by
  intro r
  induction r with
  | nil =>
    intro D L i m hr hi hm hD h0 hL hT
    obtain ⟨m, rfl⟩ : ∃ p, m = p + 1 := ⟨m - 1, by omega⟩
    refine ⟨L, hT, hL, ?_⟩
    rw [F.tag_Normal.L5]
    unfold F.tag_Normal.L5.step
    dsimp only
    rw [bif_neg (by have := drop_nil' hr; omega)]
    rfl
  | cons x r ih =>
    intro D L i m hr hi hm hD h0 hL hT
    obtain ⟨m, rfl⟩ : ∃ p, m = p + 1 := ⟨m - 1, by simp at hm; omega⟩
    obtain ⟨l1, g1, t1⟩ := drop_cons hr
    have hw : IntKind.wrap .i64 ((D.length : Int) + 1) = ((D.length + 1 : Nat) : Int) := wrap_succ (by omega)
    have hput : ∃ L', L'.take (r.foldl dedF (D ++ [x])).length = r.foldl dedF (D ++ [x]) ∧ L'.length = N ∧ F.tag_Normal.L5 n k0 m (v, N) (((D ++ [x]).length : Nat) : Int) (v, N) (N : Int) ((i + 1 : Nat) : Int) b0 b1 (v, L.set D.length x) = k0 (v, N) ((r.foldl dedF (D ++ [x])).length : Int) b0 b1 (v, L') :=
      ih (D ++ [x]) (L.set D.length x) (i + 1) m (by rw [drop_set L D.length i x hD]; exact t1) (by omega) (by simp at hm; omega) (by simp; omega) (by simp) (by simpa using hL) (take_set x hT (by omega))
    rw [F.tag_Normal.L5]
    unfold F.tag_Normal.L5.step
    dsimp only
    rw [List.foldl_cons]
    have hb1 : (decide ((0 : Int) ≤ (i : Int)) && decide ((i : Int) < (N : Int))) = true := by simp; omega
    have hb2 : (decide ((0 : Int) ≤ (D.length : Int)) && decide ((D.length : Int) < (N : Int))) = true := by simp; omega
    have hbe : Nat.beq v v = true := Nat.beq_refl v
    rw [bif_pos (by omega : (i : Int) < (N : Int)), hb1, hbe, cond_true, cond_true, idx_nat, g1, some_bind', wrap_succ (by omega : i < 4611686018427387904)]
    by_cases hi0 : i = 0
    · have hD0 := h0.1 hi0
      have e0 : ((i : Int) == 0) = true := by simp [hi0]
      rw [e0, cond_true, hb2, cond_true, cond_true, idx_lt (by omega : D.length < L.length), some_bind', hw, Int.toNat_natCast, upd_set]
      have hd : dedF D x = D ++ [x] := by rw [hD0]; rfl
      rw [hd]
      obtain ⟨L', q1, q2, q3⟩ := hput
      refine ⟨L', q1, q2, ?_⟩
      rw [← q3, List.length_append, List.length_singleton]
    · have e0 : ((i : Int) == 0) = false := by simpa using hi0
      have hne : D ≠ [] := fun h => hi0 (h0.2 h)
      have hpos : 0 < D.length := List.length_pos_iff.2 hne
      have hwp : IntKind.wrap .i64 ((D.length : Int) - 1) = ((D.length - 1 : Nat) : Int) := by rw [wrap_in (by omega)]; omega
      have hb3 : (decide ((0 : Int) ≤ ((D.length - 1 : Nat) : Int)) && decide (((D.length - 1 : Nat) : Int) < (N : Int))) = true := by simp; omega
      obtain ⟨y, hy⟩ : ∃ y, D.getLast? = some y := ⟨_, List.getLast?_eq_some_getLast hne⟩
      have gl : L[D.length - 1]? = some y := by rw [getLast_take hT (by omega), hy]
      rw [e0, cond_false, hwp, hb3, cond_true, cond_true, idx_nat, gl, some_bind', tagL_beq]
      by_cases hxy : x = y
      · rw [decide_eq_true hxy, Bool.not_true, cond_false]
        have hd : dedF D x = D := by unfold dedF; rw [hy, hxy, if_pos rfl]
        rw [hd]
        exact ih D L (i + 1) m t1 (by omega) (by simp at hm; omega) (by omega) (by simp [hne]) hL hT
      · rw [decide_eq_false hxy, Bool.not_false, cond_true, hb2, cond_true, cond_true, idx_lt (by omega : D.length < L.length), some_bind', hw, Int.toNat_natCast, upd_set]
        have hd : dedF D x = D ++ [x] := by unfold dedF; rw [hy, if_neg (by simpa using fun h : y = x => hxy h.symm)]
        rw [hd]
        obtain ⟨L', q1, q2, q3⟩ := hput
        refine ⟨L', q1, q2, ?_⟩
        rw [← q3, List.length_append, List.length_singleton]
theorem clip_eq (n : Nat) (l : List TagL) : F.slices_Clip_api_Tag_api_Tag n l = some l := by
  unfold F.slices_Clip_api_Tag_api_Tag
  rw [beq_self_eq_true, cond_true, show (0 : Int) = ((0 : Nat) : Int) from rfl, sub_nat l 0 l.length (by omega) (by omega)]
  simp
theorem norm_out (n : Nat) (hn : 200000 ≤ n) (l : List TagL) (hl : l.length ≤ 100000) (v : Nat) (b0 b1 : Nat × List TagL) :
    F.tag_Normal.L5 n (fun (e11_3 : Nat × Nat) (e11_4 : Int) (e11_b0_0 e11_b1_0 e11_b2_0 : Nat × List TagL) =>
          bif Nat.beq e11_3.1 e11_b2_0.1 then
            (sub e11_b2_0.2 (0 : Int) e11_4).bind fun x12 =>
              (F.slices_Clip_api_Tag_api_Tag n x12).bind fun y13 =>
                some (y13)
          else
            none) n (v, l.length) (0 : Int) (v, l.length) (l.length : Int) (0 : Int) b0 b1 (v, sortTags l) = some (normT l) := by
  obtain ⟨L', q1, q2, q3⟩ := norm_loop n _ (fun (e11_3 : Nat × Nat) (e11_4 : Int) (e11_b0_0 e11_b1_0 e11_b2_0 : Nat × List TagL) =>
          bif Nat.beq e11_3.1 e11_b2_0.1 then
            (sub e11_b2_0.2 (0 : Int) e11_4).bind fun x12 =>
              (F.slices_Clip_api_Tag_api_Tag n x12).bind fun y13 =>
                some (y13)
          else
            none) v l.length hl b0 b1 (sortTags l) [] (sortTags l) 0 n rfl (by omega) (by rw [sortTags_length]; omega) (by simp) (by simp) (sortTags_length l) rfl
  refine q3.trans ?_
  rw [ded_norm] at q1 ⊢
  dsimp only
  rw [Nat.beq_refl, cond_true, show (0 : Int) = ((0 : Nat) : Int) from rfl, sub_nat L' 0 _ (by omega) (by rw [q2]; exact normT_len l), q1]
  simp only [some_bind', List.drop_zero, clip_eq]
theorem tagNormal_eq (n : Nat) (hn : 200000 ≤ n) (l : List TagL) (hl : l.length ≤ 100000) : F.tag_Normal n l = some (normT l) := by
  have e1 : (decide ((0 + l.length) * 32 ≤ 2 ^ 46) && decide (0 < 32 ∧ 32 ≤ 2 ^ 20)) = true := by
    rw [decide_eq_true (by omega)]; rfl
  have e2 : ∀ l : List TagL, l.length ≤ 100000 → (Nat.beq (sortTags l).length l.length && Nat.blt l.length strMax) = true := by
    intro l hl
    rw [sortTags_length, Nat.beq_refl, Bool.true_and, strMax_eq]
    exact Nat.ble_eq ▸ (by omega : l.length + 1 ≤ 4611686018427387904)
  unfold F.tag_Normal
  rw [List.nil_append, e1, cond_true, e2 l hl, cond_true]
  cases l with
  | nil =>
    have h1 := norm_out n hn [] (by simp) 1 (1, []) (1, [])
    have h2 := norm_out n hn [] (by simp) 2 (1, []) (1, [])
    refine Eq.trans (b := both (some (normT [])) (some (normT []))) ?_ (both_same _)
    rw [List.isEmpty_nil, cond_true]
    congr 1
  | cons t l =>
    exact norm_out n hn (t :: l) hl 2 (1, []) (1, [])
end Go.AM
set_option linter.unusedVariables false
set_option linter.unusedSimpArgs false
namespace Go.AM
theorem nameOK_eq (s : List UInt8) : nameOK s = (s.all (cls 1) && (decide (1 ≤ s.length) && decide (s.length ≤ 200))) := by
  unfold nameOK textF
  rw [if_neg (by simp [may])]
  by_cases h1 : (s.length : Int) < 1
  · rw [if_pos h1]
    have : decide (1 ≤ s.length) = false := decide_eq_false (by omega)
    rw [this]; simp
  rw [if_neg h1]
  have e1 : decide (1 ≤ s.length) = true := decide_eq_true (by omega)
  by_cases h2 : (s.length : Int) > 200
  · rw [if_pos h2]
    have : decide (s.length ≤ 200) = false := decide_eq_false (by omega)
    rw [this]; simp
  rw [if_neg h2]
  have e2 : decide (s.length ≤ 200) = true := decide_eq_true (by omega)
  rw [e1, e2]
  by_cases h3 : 0 ≤ badK (cls 1) 0 s
  · rw [if_pos h3]
    have : s.all (cls 1) = false := by
      have := (badK_ge (cls 1) 0 s).1 h3
      simpa using this
    rw [this]; rfl
  · rw [if_neg h3]
    have : s.all (cls 1) = true := Classical.byContradiction fun hh => h3 ((badK_ge _ _ _).2 hh)
    rw [this]; rfl
end Go.AM
set_option linter.unusedVariables false
set_option linter.unusedSimpArgs false
namespace Go.AM
end Go.AM
set_option linter.unusedVariables false
set_option linter.unusedSimpArgs false
namespace Go.AM
theorem textD_bytes (neg : Bool) (c : Nat) (e : Int) : ∀ b ∈ textD neg c e, (b = 45 ∧ neg = true) ∨ isDig b = true ∨ b = 46 := by
  intro b hb
  have hsg : ∀ b ∈ sgn neg, b = 45 ∧ neg = true := by
    intro b hb
    cases neg
    · simp [sgn] at hb
    · simp [sgn] at hb; exact ⟨hb, rfl⟩
  have hdg : ∀ (l : List UInt8), Digs l → ∀ b ∈ l, isDig b = true := fun l hl b hb => List.all_eq_true.1 hl b hb
  unfold textD at hb
  split at hb
  · rcases List.mem_append.1 hb with h | h
    · exact Or.inl (hsg b h)
    · exact Or.inr (Or.inl (hdg _ (digs_append.2 ⟨dd_digs c, digs_rep _⟩) b h))
  · rcases List.mem_append.1 hb with h | h
    · exact Or.inl (hsg b h)
    · have w3 : Digs (wideW c e) := digs_append.2 ⟨digs_rep _, dd_digs c⟩
      rcases List.mem_append.1 h with h | h
      · rcases List.mem_append.1 h with h | h
        · exact Or.inr (Or.inl (hdg _ (digs_take _ w3) b h))
        · exact Or.inr (Or.inr (by simpa using h))
      · exact Or.inr (Or.inl (hdg _ (digs_drop _ w3) b h))
theorem textD_free (neg : Bool) (c : Nat) (e : Int) : (124 : UInt8) ∉ textD neg c e := by
  intro h
  rcases textD_bytes neg c e _ h with h | h | h
  · exact absurd h.1 (by decide)
  · exact absurd h (by decide)
  · exact absurd h (by decide)
end Go.AM
set_option linter.unusedVariables false
set_option linter.unusedSimpArgs false
namespace Go.AM
end Go.AM
set_option linter.unusedVariables false
set_option linter.unusedSimpArgs false
namespace Go.AM
def MetWf (m : MetD) : Prop := (∀ d ∈ m.2.2.1, DecLOK d)
theorem chk_zero {m : MetD} (h : chkM m = 0) : nameOK m.1 = true ∧ kindB m.2.1 = true ∧ valsB m.2.2.1 = true ∧ rateB m.2.1 m.2.2.2.1 = true ∧ tagsB m.2.2.2.2.1 = true ∧ timeB m.2.2.2.2.2.1 = true := by
  unfold chkM at h
  revert h
  cases nameOK m.1 <;> cases kindB m.2.1 <;> cases valsB m.2.2.1 <;> cases rateB m.2.1 m.2.2.2.1 <;> cases tagsB m.2.2.2.2.1 <;> cases timeB m.2.2.2.2.2.1 <;> simp
theorem textD_le {d : DecL} (hd : DecLOK d) (h : decC d = 0) : (textD d.1 d.2.1.toNat d.2.2).length ≤ 39 := by
  obtain ⟨neg, c, e, rfl, hc, he⟩ := decL_nat hd
  exact (text_len neg c hc e (check_zero h).2).1
theorem decText_eq (n : Nat) (hn : 200000 ≤ n) {d : DecL} (hd : DecLOK d) (h : decC d = 0) : F.dec_Text n (d.1, d.2.1, d.2.2, ()) = some (textD d.1 d.2.1.toNat d.2.2, 0, ()) := by
  obtain ⟨neg, c, e, rfl, hc, he⟩ := decL_nat hd
  have h' : checkR neg c e = 0 := h
  have := text_dec n hn neg c hc e he
  rw [if_pos h'] at this
  exact this
end Go.AM
set_option linter.unusedVariables false
set_option linter.unusedSimpArgs false
namespace Go.AM
theorem valR_cases {d : List UInt8} (hD : Digs d) (neg : Bool) (E : Int) : ((valR neg d E).2.1 = 10 ∧ (valR neg d E).1 = (false, 0, 0, ())) ∨
    (∃ (neg' : Bool) (c : Nat) (e : Int), valR neg d E = ((neg', (c : Int), e, ()), 0, ()) ∧ c < two64 ∧ (-9223372036854775808 ≤ e ∧ e ≤ 9223372036854775807) ∧ checkR neg' c e = 0) := by
  by_cases hv : val d = 0
  · refine Or.inr ⟨false, 0, 0, ?_, by decide, by omega, ?_⟩
    · have : valR neg d E = zeroD := by unfold valR; rw [if_pos hv]
      rw [this]; rfl
    · have d0 : Lib.decDigits 0 = [48] := dd_small (by omega)
      unfold checkR
      rw [d0]; rfl
  · obtain ⟨c0, z, h1, h2⟩ := ten_split (val d) (by omega)
    rw [valR_core hD h2 h1]
    generalize E + (z : Int) = Y
    by_cases hY : Y < -18
    · refine Or.inl ?_
      have : normR neg c0 Y = ((false, 0, 0, ()), 10, ()) := by unfold normR; rw [if_pos hY]
      rw [this]
      exact ⟨rfl, rfl⟩
    · by_cases hf : c0 * 10 ^ (Y - 18).toNat < two64
      · have e1 : normR neg c0 Y = ((neg, ((c0 * 10 ^ (Y - 18).toNat : Nat) : Int), (if Y ≤ 18 then Y else 18), ()), 0, ()) := by unfold normR; rw [if_neg hY, if_pos hf]
        rw [e1]
        have hE : -18 ≤ (if Y ≤ 18 then Y else 18) ∧ (if Y ≤ 18 then Y else 18) ≤ 18 := by split <;> omega
        refine Or.inr ⟨neg, c0 * 10 ^ (Y - 18).toNat, (if Y ≤ 18 then Y else 18), rfl, hf, by omega, ?_⟩
        unfold checkR
        rw [if_neg (by omega), valR_core (dd_digs _) h2 (dd_val _)]
        have e2 : (if Y ≤ 18 then Y else 18) + (((Y - 18).toNat : Nat) : Int) = Y := by split <;> omega
        rw [e2, e1, if_pos ⟨rfl, rfl⟩]
      · refine Or.inl ?_
        have : normR neg c0 Y = ((false, 0, 0, ()), 10, ()) := by unfold normR; rw [if_neg hY, if_neg hf]
        rw [this]
        exact ⟨rfl, rfl⟩
def decV (d : DecL) : DecR := valR d.1 (Lib.decDigits d.2.1.toNat) d.2.2
def valOK (d : DecL) : Bool := (decV d).2.1 == 0
def refV (d : DecL) : DecL := ((decV d).1.1, (decV d).1.2.1, (decV d).1.2.2.1)
def normV (d : DecL) : DecL := if valOK d then refV d else d
theorem decV_eq (n : Nat) (hn : 100 ≤ n) {d : DecL} (h : DecLOK d) : F.dec_Normal n (d.1, d.2.1, d.2.2, ()) = some (decV d) := by
  obtain ⟨neg, c, e, rfl, hc, he⟩ := decL_nat h
  exact normal_eq n hn neg c hc e he
theorem normV_pos {d : DecL} (h : valOK d = true) : normV d = refV d ∧ decC (normV d) = 0 ∧ DecLOK (normV d) := by
  have e : normV d = refV d := by unfold normV; rw [if_pos h]
  refine ⟨e, ?_⟩
  rw [e]
  unfold refV
  unfold valOK at h
  rcases valR_cases (dd_digs d.2.1.toNat) d.1 d.2.2 with ⟨h1, _⟩ | ⟨neg, c, e, h1, h2, h3, h4⟩
  · exfalso
    have h1 : (decV d).2.1 = 10 := h1
    rw [h1] at h; cases h
  · have h1 : decV d = ((neg, (c : Int), e, ()), 0, ()) := h1
    rw [h1]
    refine ⟨h4, trivial, ⟨by simp, ?_⟩, h3⟩
    have := two64_eq; simp only; omega
theorem normV_neg {d : DecL} (hd : DecLOK d) (h : valOK d = false) : normV d = d ∧ decC d ≠ 0 := by
  refine ⟨by unfold normV; rw [if_neg (by rw [h]; simp)], fun h0 => ?_⟩
  obtain ⟨neg, c, e, rfl, hc, he⟩ := decL_nat hd
  have hh : decV (neg, (c : Int), e) = ((neg, (c : Int), e, ()), 0, ()) := (check_zero h0).1
  unfold valOK at h
  rw [hh] at h
  cases h
theorem normV_id {d : DecL} (hd : DecLOK d) (h0 : decC d = 0) : valOK d = true ∧ normV d = d := by
  obtain ⟨neg, c, e, rfl, hc, he⟩ := decL_nat hd
  have hv := (check_zero h0).1
  have h1 : decV (neg, (c : Int), e) = ((neg, (c : Int), e, ()), 0, ()) := hv
  have h2 : valOK (neg, (c : Int), e) = true := by unfold valOK; rw [h1]; rfl
  refine ⟨h2, ?_⟩
  unfold normV refV
  rw [if_pos h2, h1]
theorem normV_ok {d : DecL} (hd : DecLOK d) : DecLOK (normV d) := by
  cases h : valOK d
  · rw [(normV_neg hd h).1]; exact hd
  · exact (normV_pos h).2.2
def zeroM : MetD := ([], (0 : Int), [], (0 : Int), [], (0 : Int), ())
def valsM (m : MetD) : MetD := (m.1, m.2.1, m.2.2.1.map normV, m.2.2.2.1, m.2.2.2.2.1, m.2.2.2.2.2.1, ())
def formM (m : MetD) : MetD := (m.1, m.2.1, m.2.2.1.map normV, m.2.2.2.1, normT m.2.2.2.2.1, m.2.2.2.2.2.1, ())
def normM (m : MetD) : MetD × Int × Unit := if chkM (valsM m) = 0 then (formM m, 0, ()) else (zeroM, chkM (valsM m), ())
theorem valsM_ok {m : MetD} (hm : MetOK m) : MetOK (valsM m) := by
  refine ⟨hm.1, ⟨by rw [valsM]; simpa using hm.2.1.1, fun d hd => ?_⟩, hm.2.2⟩
  obtain ⟨x, hx, rfl⟩ := List.mem_map.1 hd
  exact normV_ok (hm.2.1.2 x hx)
theorem upd_at {α : Type} (p r : List α) (x y : α) : upd (p ++ x :: r) p.length y = p ++ y :: r := by
  rw [upd_set, List.set_append_right _ _ (Nat.le_refl _), Nat.sub_self]; rfl
theorem metn_loop (n : Nat) (hn : 200000 ≤ n) (X : Type) (k0 : (Nat × Nat) → List UInt8 → Int → List DecL → Int → List TagL → Int → List UInt8 → Int → List DecL → Int → List TagL → Int → (Nat × List DecL) → (Nat × List DecL) → Nat → Nat → Option X)
    (b00 : List UInt8) (b01 : Int) (b02 : List DecL) (b03 : Int) (b04 : List TagL) (b05 : Int) (b10 : List UInt8) (b11 : Int) (b12 : List DecL) (b13 : Int) (b14 : List TagL) (b15 : Int) (b2 : Nat × List DecL) (k1 k2 : Nat) (v N : Nat) (hN : N ≤ 10000) :
    ∀ (r p : List DecL) (i m : Nat), i + r.length = N → p.length = i → r.length < m → (∀ d ∈ r, DecLOK d) →
    F.metric_Normal.L3 n k0 m (v, N) (v, N) (N : Int) (i : Int) b00 b01 b02 b03 b04 b05 b10 b11 b12 b13 b14 b15 b2 (v, p ++ r) k1 k2 = k0 (v, N) b00 b01 b02 b03 b04 b05 b10 b11 b12 b13 b14 b15 b2 (v, p ++ r.map normV) k1 k2 := by
  intro r
  induction r with
  | nil =>
    intro p i m h1 h2 hm hok
    obtain ⟨m, rfl⟩ : ∃ q, m = q + 1 := ⟨m - 1, by omega⟩
    rw [F.metric_Normal.L3]
    unfold F.metric_Normal.L3.step
    dsimp only
    rw [bif_neg (by simp at h1; omega)]
    rfl
  | cons x r ih =>
    intro p i m h1 h2 hm hok
    obtain ⟨m, rfl⟩ : ∃ q, m = q + 1 := ⟨m - 1, by simp at hm; omega⟩
    simp only [List.length_cons] at h1 hm
    have hx := hok x (by simp)
    have hp : (p ++ x :: r)[i]? = some x := by rw [← h2]; simp
    have hb1 : (decide ((0 : Int) ≤ (i : Int)) && decide ((i : Int) < (N : Int))) = true := by simp; omega
    rw [F.metric_Normal.L3]
    unfold F.metric_Normal.L3.step
    dsimp only
    rw [bif_pos (by omega : (i : Int) < (N : Int)), hb1, Nat.beq_refl, cond_true, cond_true, idx_nat, hp, some_bind', decV_eq n (by omega) hx, some_bind', wrap_succ (by omega)]
    have step : ∀ y, y = normV x → F.metric_Normal.L3 n k0 m (v, N) (v, N) (N : Int) ((i + 1 : Nat) : Int) b00 b01 b02 b03 b04 b05 b10 b11 b12 b13 b14 b15 b2 (v, p ++ y :: r) k1 k2 = k0 (v, N) b00 b01 b02 b03 b04 b05 b10 b11 b12 b13 b14 b15 b2 (v, p ++ (x :: r).map normV) k1 k2 := by
      intro y hy
      have := ih (p ++ [y]) (i + 1) m (by omega) (by simp; omega) (by omega) (fun d hd => hok d (List.mem_cons_of_mem _ hd))
      rw [List.append_assoc, List.append_assoc, List.singleton_append, List.singleton_append] at this
      rw [this, hy, List.map_cons]
    cases hv : valOK x
    · have hv' : ((decV x).2.1 == 0) = false := hv
      rw [hv', cond_false]
      exact step x (normV_neg hx hv).1.symm
    · have hv' : ((decV x).2.1 == 0) = true := hv
      rw [hv', cond_true, cond_true, cond_true, some_bind', Int.toNat_natCast, ← h2, upd_at, h2]
      exact step _ (normV_pos hv).1.symm
theorem metn_out (n : Nat) (hn : 200000 ≤ n) (m : MetD) (hm : MetOK m) (v : Nat) (b10 : List UInt8) (b11 : Int) (b12 : List DecL) (b13 : Int) (b14 : List TagL) (b15 : Int) (b2 : Nat × List DecL) (k1 k2 : Nat) :
    F.metric_Normal.L3 n
          (fun e4_4 e4_b0_0 e4_b0_1 e4_b0_2 e4_b0_3 e4_b0_4 e4_b0_5 e4_b1_0 e4_b1_1 e4_b1_2 e4_b1_3 e4_b1_4 e4_b1_5 e4_b2_0 e4_b3_0 e4_k0 e4_k1 =>
            bif Nat.beq e4_4.1 e4_b3_0.1 then
              (F.metric_Check n (e4_b0_0, e4_b0_1, e4_b3_0.2, e4_b0_3, e4_b0_4, e4_b0_5, ())).bind fun y5 =>
                bif !(y5 == (0 : Int)) then
                  some ((([], (0 : Int), [], (0 : Int), [], (0 : Int), ()), y5, ()))
                else
                  (F.tag_Normal n e4_b0_4).bind fun y6 =>
                    some (((e4_b0_0, e4_b0_1, e4_b3_0.2, e4_b0_3, y6, e4_b0_5, ()), (0 : Int), ()))
            else
              none) n (v, m.2.2.1.length) (v, m.2.2.1.length) (m.2.2.1.length : Int) (0 : Int) m.1 m.2.1 m.2.2.1 m.2.2.2.1 m.2.2.2.2.1 m.2.2.2.2.2.1 b10 b11 b12 b13 b14 b15 b2 (v, m.2.2.1) k1 k2 = some (normM m) := by
  refine (metn_loop n hn _ _ m.1 m.2.1 m.2.2.1 m.2.2.2.1 m.2.2.2.2.1 m.2.2.2.2.2.1 b10 b11 b12 b13 b14 b15 b2 k1 k2 v m.2.2.1.length (by have := hm.2.1.1; omega) m.2.2.1 [] 0 n (by omega) rfl (by have := hm.2.1.1; omega) hm.2.1.2).trans ?_
  dsimp only
  rw [Nat.beq_refl, cond_true]
  have hc : F.metric_Check n (m.1, m.2.1, [] ++ m.2.2.1.map normV, m.2.2.2.1, m.2.2.2.2.1, m.2.2.2.2.2.1, ()) = some (chkM (valsM m)) := metcheck_eq n hn (valsM m) (valsM_ok hm)
  rw [hc, some_bind']
  unfold normM
  by_cases h : chkM (valsM m) = 0
  · rw [if_pos h, h, tagNormal_eq n hn _ (by have := hm.2.2.1; omega)]
    rfl
  · rw [if_neg h, beq_eq_false_iff_ne.2 h]
    rfl
theorem metNormal_eq (n : Nat) (hn : 200000 ≤ n) (m : MetD) (hm : MetOK m) : F.metric_Normal n m = some (normM m) := by
  have hl := hm.2.1.1
  have e1 : (decide ((0 + m.2.2.1.length) * 24 ≤ 2 ^ 46) && decide (0 < 24 ∧ 24 ≤ 2 ^ 20)) = true := by
    rw [decide_eq_true (by omega)]; rfl
  unfold F.metric_Normal
  rw [e1, cond_true]
  have h2 := metn_out n hn m hm 2 [] 0 [] 0 [] 0 (1, []) 0 0
  cases hv : m.2.2.1 with
  | nil =>
    have h1 := metn_out n hn m hm 1 [] 0 [] 0 [] 0 (1, []) 0 0
    rw [hv] at h1 h2
    refine Eq.trans (b := both (some (normM m)) (some (normM m))) ?_ (both_same _)
    rw [List.isEmpty_nil, cond_true]
    exact congr (congrArg both h1) h2
  | cons d vs =>
    rw [hv] at h2
    exact h2
end Go.AM
set_option linter.unusedVariables false
set_option linter.unusedSimpArgs false
namespace Go.AM
abbrev NumR := Int × (Int × Int × Unit) × Unit
def numR (v c at' : Int) : NumR := (v, (c, at', ()), ())
theorem cls4_fun : cls 4 = isDig := funext cls4
theorem fault_eq (n : Nat) (c a : Int) : F.num_fault n c a = some (0, (c, a, ()), ()) := rfl
theorem digs_of_bad {s : List UInt8} {k : Nat} (h : ¬ 0 ≤ badK isDig k s) : Digs s := Classical.byContradiction fun hh => h ((badK_ge _ _ _).2 hh)
theorem bad_of_digs {s : List UInt8} {k : Nat} (h : Digs s) : badK isDig k s = -1 := badK_neg _ _ _ h
theorem textF4 (s : List UInt8) (hs : s.length < 4611686018427387904) : textF 4 s 1 (IntKind.wrap .i64 ((s.length : Int) + 1)) = if s = [] then (13, 0, ()) else if 0 ≤ badK isDig 0 s then (14, badK isDig 0 s, ()) else (0, 0, ()) := by
  unfold textF
  rw [wrap_succ hs, cls4_fun]
  have hm : may 4 = true := rfl
  rw [if_neg (by simp [hm]; omega)]
  cases s with
  | nil => rfl
  | cons b s =>
    rw [if_neg (show ¬ (((b :: s).length : Nat) : Int) < 1 from by simp; omega), if_neg (show ¬ (((b :: s).length : Nat) : Int) > (((b :: s).length + 1 : Nat) : Int) from by omega), if_neg (show ¬ (b :: s = []) from by simp)]
end Go.AM
set_option linter.unusedVariables false
set_option linter.unusedSimpArgs false
namespace Go.AM
def parseNum (s : List UInt8) (lo hi : Int) : NumR :=
  if s = [] then numR 0 13 0 else if 0 ≤ badK isDig 0 s then numR 0 14 (badK isDig 0 s) else if s.head? = some 48 ∧ 1 < s.length then numR 0 11 0
  else if 9223372036854775808 ≤ val s ∨ (val s : Int) < lo ∨ (val s : Int) > hi then numR 0 10 0 else numR (val s) 0 0
theorem o_atoi (n : Nat) {s : List UInt8} (hd : Digs s) (hn : s ≠ []) (hs : s.length ≤ 1000000) : O.atoi n s = some (if val s < 9223372036854775808 then ((val s : Int), false, ()) else (Lib.atoiSat s, true, ())) := by
  unfold O.atoi
  have : Nat.ble s.length big47 = true := by rw [Nat.ble_eq]; unfold big47; omega
  rw [this, cond_true, atoi_digs hd hn]
  by_cases h : val s < 9223372036854775808
  · rw [if_pos h, if_pos h]
  · rw [if_neg h, if_neg h]
theorem parse_num (n : Nat) (s : List UInt8) (lo hi : Int) (hs : s.length ≤ 1000000) (hn : s.length < n) : F.num_Parse n s lo hi = some (parseNum s lo hi) := by
  unfold F.num_Parse parseNum
  rw [text_cls n 4 s _ _ (by omega) hn, some_bind', textF4 s (by omega)]
  by_cases h0 : s = []
  · rw [if_pos h0, if_pos h0]; rfl
  rw [if_neg h0, if_neg h0]
  by_cases h1 : 0 ≤ badK isDig 0 s
  · rw [if_pos h1, if_pos h1]; rfl
  rw [if_neg h1, if_neg h1]
  have e : (!((0 : Int) == 0 && (0 : Int) == 0)) = false := rfl
  simp only [e, cond_false]
  have hd := digs_of_bad h1
  cases s with
  | nil => exact absurd rfl h0
  | cons b r =>
    have ei : idx (b :: r) (0 : Int) = some b := rfl
    rw [ei, some_bind', o_atoi n hd h0 hs, some_bind']
    have tail : ∀ (p : Bool) (A : Option NumR), (bif p then A else A) = A := by intro p A; cases p <;> rfl
    have core : (bif (if val (b :: r) < 9223372036854775808 then ((val (b :: r) : Int), false, ()) else (Lib.atoiSat (b :: r), true, ())).2.1 then (F.num_fault n 10 0).bind fun y6 => some ((y6.1, (y6.2.1.1, y6.2.1.2.1, ()), ()))
        else bif decide ((if val (b :: r) < 9223372036854775808 then ((val (b :: r) : Int), false, ()) else (Lib.atoiSat (b :: r), true, ())).1 < lo) then (F.num_fault n 10 0).bind fun y6 => some ((y6.1, (y6.2.1.1, y6.2.1.2.1, ()), ()))
        else bif decide ((if val (b :: r) < 9223372036854775808 then ((val (b :: r) : Int), false, ()) else (Lib.atoiSat (b :: r), true, ())).1 > hi) then (F.num_fault n 10 0).bind fun y6 => some ((y6.1, (y6.2.1.1, y6.2.1.2.1, ()), ()))
        else some (((if val (b :: r) < 9223372036854775808 then ((val (b :: r) : Int), false, ()) else (Lib.atoiSat (b :: r), true, ())).1, ((0 : Int), (0 : Int), ()), ())))
        = some (if 9223372036854775808 ≤ val (b :: r) ∨ (val (b :: r) : Int) < lo ∨ (val (b :: r) : Int) > hi then numR 0 10 0 else numR (val (b :: r)) 0 0) := by
      by_cases hv : val (b :: r) < 9223372036854775808
      · rw [if_pos hv]
        simp only [cond_false]
        by_cases g1 : (val (b :: r) : Int) < lo
        · rw [bif_pos g1, if_pos (Or.inr (Or.inl g1))]; rfl
        · rw [bif_neg g1]
          by_cases g2 : (val (b :: r) : Int) > hi
          · rw [bif_pos g2, if_pos (Or.inr (Or.inr g2))]; rfl
          · rw [bif_neg g2, if_neg (by omega)]; rfl
      · rw [if_neg hv, if_pos (Or.inl (by omega))]; rfl
    by_cases hb : b = 48
    · subst hb
      have e2 : ((((48 : UInt8).toNat : Nat) : Int) == 48) = true := rfl
      rw [e2, cond_true]
      by_cases hl : 1 < (48 :: r).length
      · rw [bif_pos (by omega), if_pos (show (48 :: r).head? = some 48 ∧ 1 < (48 :: r).length from ⟨rfl, hl⟩)]; rfl
      · rw [bif_neg (by omega), if_neg (show ¬ ((48 :: r).head? = some 48 ∧ 1 < (48 :: r).length) from fun h => hl h.2)]; exact core
    · have e2 : ((b.toNat : Int) == 48) = false := by
        have : ¬ (b.toNat : Int) = 48 := fun h => hb (u8_ext (by simp; omega))
        simpa using this
      rw [e2, cond_false, if_neg (show ¬ ((b :: r).head? = some 48 ∧ 1 < (b :: r).length) from fun h => hb (by simpa using h.1))]; exact core
theorem time_eq (n : Nat) (s : List UInt8) (hs : s.length ≤ 1000000) (hn : s.length < n) : F.num_Time n s = some (parseNum s 1 1099511627776) := by
  unfold F.num_Time
  rw [parse_num n s _ _ hs hn, some_bind']
def numText (k : Int) : List UInt8 × Int × Unit := if k < 0 then ([], 10, ()) else (Lib.decDigits k.toNat, 0, ())
theorem text_num (n : Nat) (k : Int) (h : -9223372036854775808 ≤ k ∧ k ≤ 9223372036854775807) : F.num_Text n k = some (numText k) := by
  unfold F.num_Text numText
  by_cases h0 : k < 0
  · rw [bif_pos h0, if_pos h0]
  · rw [bif_neg h0, if_neg h0]
    unfold O.itoa
    have : (decide (-9223372036854775808 ≤ k) && decide (k ≤ 9223372036854775807)) = true := by simp [h]
    rw [this, cond_true, some_bind']
    unfold Lib.itoa
    rw [if_neg h0]
theorem dd_first (u : Nat) : (Lib.decDigits u).head? = some 48 → ¬ 1 < (Lib.decDigits u).length := fun h hl => by
  have := (dd_head u).2 h
  omega
theorem parse_dd (u : Nat) (hu : u < 9223372036854775808) (lo hi : Int) : parseNum (Lib.decDigits u) lo hi = if (u : Int) < lo ∨ (u : Int) > hi then numR 0 10 0 else numR u 0 0 := by
  unfold parseNum
  rw [if_neg (dd_ne u), if_neg (by rw [bad_of_digs (dd_digs u)]; omega), if_neg (fun h => dd_first u h.1 h.2), dd_val]
  by_cases h : (u : Int) < lo ∨ (u : Int) > hi
  · rw [if_pos h, if_pos (Or.inr h)]
  · rw [if_neg h, if_neg (by omega)]
theorem parse_back {s : List UInt8} {lo hi : Int} (h : (parseNum s lo hi).2.1.1 = 0) : (parseNum s lo hi).2.1.2.1 = 0 ∧ (parseNum s lo hi).1 = (val s : Int) ∧ val s < 9223372036854775808 ∧ lo ≤ (val s : Int) ∧ (val s : Int) ≤ hi ∧ Digs s ∧ Norm s := by
  unfold parseNum at h ⊢
  by_cases h0 : s = []
  · rw [if_pos h0] at h; cases h
  rw [if_neg h0] at h ⊢
  by_cases h1 : 0 ≤ badK isDig 0 s
  · rw [if_pos h1] at h; cases h
  rw [if_neg h1] at h ⊢
  by_cases h2 : s.head? = some 48 ∧ 1 < s.length
  · rw [if_pos h2] at h; cases h
  rw [if_neg h2] at h ⊢
  by_cases h3 : 9223372036854775808 ≤ val s ∨ (val s : Int) < lo ∨ (val s : Int) > hi
  · rw [if_pos h3] at h; cases h
  rw [if_neg h3]
  refine ⟨rfl, rfl, by omega, by omega, by omega, digs_of_bad h1, h0, fun h => ?_⟩
  have h4 : ¬ 1 < s.length := fun hl => h2 ⟨h, hl⟩
  have : 0 < s.length := List.length_pos_iff.2 h0
  omega
end Go.AM
