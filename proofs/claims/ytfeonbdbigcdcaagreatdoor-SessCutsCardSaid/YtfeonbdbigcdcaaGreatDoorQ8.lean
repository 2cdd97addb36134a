/- THE STAGE'S THEOREM: events do not hang on how a stream is cut into chunks, that are empty, too, or single bytes (no reference) -/
import Derived.Test.YtfeonbdbigcdcaaGreatDoorQ7
import Derived.Test.YtfeonbdbigcdcaaGreatDoorCards
import Derived.Test.YtfeonbdbigcdcaaGreatDoorTie
import Derived.OpenShut
import Derived.KernelRfl
namespace Go.Proofs.YtfeonbdbigcdcaaGreatDoor.sessCuts
open Go.ChangeShapes Go.WideShapes Go.ChangeAt Go.RowKit Go.AM
theorem plain (f : FuncId) (fn : Func) (hf : Tryz.pinned.checked.prog.funcNamed "forebay/forebaylaw22.SessCuts" = some f) (hfn : Tryz.pinned.checked.prog.funcs[f]? = some fn) :
 true=Tryz.pinned.checked.prog.looks []∧∀ (j:Nat) t,fn.params[j]? = some t→Tryz.pinned.checked.prog.wantsStandIn t=false:=by
 obtain rfl : f = 5 := Option.some.inj ((show Tryz.prog.funcNamed "forebay/forebaylaw22.SessCuts" = some 5 by kernel_rfl).symm.trans hf) |>.symm
 obtain rfl:fn=Tryz.f5:=(Option.some.inj (Tryz.func5.symm.trans hfn)).symm
 refine ⟨by kernel_rfl,fun j t ht => ?_⟩
 have hm:t∈([22,24,45]:List TypeId):=by
  rw [Tryz.params5] at ht
  have:=Array.mem_of_getElem? ht
  simpa using this
 have all:∀ x∈([22,24,45]:List TypeId),Tryz.prog.wantsStandIn x=false:=fun x hx=>by
  have h:([22,24,45]:List TypeId).all (fun x=>Tryz.prog.wantsStandIn x==false)=true:=by kernel_rfl
  simpa using List.all_eq_true.1 h x hx
 exact all t hm
theorem proved:Rows.SessCutsCardSaid:=
 Claim7.holds_tied_plain_at .later [] _ _ _ _ said (fun _ h=>by cases h) (by kernel_rfl) (fun _ h=>by cases h) sessCuts_row_tie rfl ⟨rfl,rfl⟩ (by kernel_rfl) rfl plain goesOK
end Go.Proofs.YtfeonbdbigcdcaaGreatDoor.sessCuts
