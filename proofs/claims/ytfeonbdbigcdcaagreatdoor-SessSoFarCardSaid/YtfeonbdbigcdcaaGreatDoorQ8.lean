/- After each chunk the events so far are those of the stream so far, but for its tail; no more bytes are kept than may be, and none, if none came behind the last unit (no reference) -/
import Derived.Test.YtfeonbdbigcdcaaGreatDoorQ7
import Derived.Test.YtfeonbdbigcdcaaGreatDoorCards
import Derived.Test.YtfeonbdbigcdcaaGreatDoorTie
import Derived.OpenShut
import Derived.KernelRfl
namespace Go.Proofs.YtfeonbdbigcdcaaGreatDoor.sessSoFar
open Go.ChangeShapes Go.WideShapes Go.ChangeAt Go.RowKit Go.AM
theorem plain (f : FuncId) (fn : Func) (hf : Tryz.pinned.checked.prog.funcNamed "forebay/forebaylaw22.SessSoFar" = some f) (hfn : Tryz.pinned.checked.prog.funcs[f]? = some fn) :
 true=Tryz.pinned.checked.prog.looks []∧∀ (j:Nat) t,fn.params[j]? = some t→Tryz.pinned.checked.prog.wantsStandIn t=false:=by
 obtain rfl : f = 4 := Option.some.inj ((show Tryz.prog.funcNamed "forebay/forebaylaw22.SessSoFar" = some 4 by kernel_rfl).symm.trans hf) |>.symm
 obtain rfl:fn=Tryz.f4:=(Option.some.inj (Tryz.func4.symm.trans hfn)).symm
 refine ⟨by kernel_rfl,fun j t ht => ?_⟩
 have hm:t∈([22,24,39]:List TypeId):=by
  rw [Tryz.params4] at ht
  have:=Array.mem_of_getElem? ht
  simpa using this
 have all:∀ x∈([22,24,39]:List TypeId),Tryz.prog.wantsStandIn x=false:=fun x hx=>by
  have h:([22,24,39]:List TypeId).all (fun x=>Tryz.prog.wantsStandIn x==false)=true:=by kernel_rfl
  simpa using List.all_eq_true.1 h x hx
 exact all t hm
theorem proved:Rows.SessSoFarCardSaid:=
 Claim7.holds_tied_plain_at .later [] _ _ _ _ said (fun _ h=>by cases h) (by kernel_rfl) (fun _ h=>by cases h) sessSoFar_row_tie rfl ⟨rfl,rfl⟩ (by kernel_rfl) rfl plain goesOK
end Go.Proofs.YtfeonbdbigcdcaaGreatDoor.sessSoFar
