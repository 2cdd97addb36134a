/- Each datagram of a batch by itself says some of its metrics, and all, one behind the other, its Normal; it is split just if the MTU is no less than its least one (no reference) -/
import Derived.Test.YtodkiaiclgdifaaGreatDoorQ8
import Derived.Test.YtodkiaiclgdifaaGreatDoorCards
import Derived.Test.YtodkiaiclgdifaaGreatDoorTie
import Derived.OpenShut
import Derived.KernelRfl
namespace Go.Proofs.YtodkiaiclgdifaaGreatDoor.splitApart
open Go.ChangeShapes Go.WideShapes Go.ChangeAt Go.RowKit Go.AM
theorem plain (f : FuncId) (fn : Func) (hf : Tryz.pinned.checked.prog.funcNamed "forebay/forebaylaw20.SplitApart" = some f) (tP : Tryz.pinned.checked.prog.funcs[f]? = some fn) :
 true=Tryz.pinned.checked.prog.looks []∧∀(j:Nat) t,fn.params[j]? = some t→Tryz.pinned.checked.prog.wantsStandIn t=false:=by
 obtain rfl : f = 3 := Option.some.inj ((show Tryz.prog.funcNamed "forebay/forebaylaw20.SplitApart" = some 3 by kernel_rfl).symm.trans hf) |>.symm
 obtain rfl:fn=Tryz.f3:=(Option.some.inj (Tryz.func3.symm.trans tP)).symm;refine⟨by kernel_rfl,fun j t ht => ?_⟩;have hm:t∈([22,3,3]:List TypeId):=by rw[Tryz.params3]at ht;have:=Array.mem_of_getElem? ht;simpa using this
 have all:∀x∈([22,3,3]:List TypeId),Tryz.prog.wantsStandIn x=false:=fun x hx=>by
  have h:([22,3,3]:List TypeId).all (fun x=>Tryz.prog.wantsStandIn x==false)=true:=by kernel_rfl
  simpa using List.all_eq_true.1 h x hx
 exact all t hm
theorem proved:Rows.SplitApartCardSaid:=Claim7.holds_tied_plain_at .later [] _ _ _ _ said (fun _ h=>by cases h) (by kernel_rfl) (fun _ h=>by cases h) splitApart_row_tie rfl ⟨rfl,rfl⟩ (by kernel_rfl) rfl plain Nz
end Go.Proofs.YtodkiaiclgdifaaGreatDoor.splitApart
