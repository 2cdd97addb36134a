/- Part 7 of a proof by the abstract machine. -/
import Derived.Test.YtfeonbdbigcdcaaGreatDoorQ6
import Derived.Test.YtfeonbdbigcdcaaGreatDoorCards
import Derived.Test.YtfeonbdbigcdcaaGreatDoorTie
import Derived.OpenShut
import Derived.KernelRfl
import Derived.SevenTiedAt
namespace Go.Proofs.YtfeonbdbigcdcaaGreatDoor.sessSoFar
open Go.ChangeShapes Go.WideShapes Go.ChangeAt Go.RowKit Go.AM
theorem goesOK:false=Rows.sessSoFarRow.goesBy Tryz.pinned.checked.prog:=by kernel_rfl
end Go.Proofs.YtfeonbdbigcdcaaGreatDoor.sessSoFar
