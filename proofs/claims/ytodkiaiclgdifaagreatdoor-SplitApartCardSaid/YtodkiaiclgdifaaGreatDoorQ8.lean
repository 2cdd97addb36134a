/- Part 8 of a proof by the abstract machine. -/
import Derived.Test.YtodkiaiclgdifaaGreatDoorQ7
import Derived.Test.YtodkiaiclgdifaaGreatDoorCards
import Derived.Test.YtodkiaiclgdifaaGreatDoorTie
import Derived.OpenShut
import Derived.KernelRfl
import Derived.SevenTiedAt
namespace Go.Proofs.YtodkiaiclgdifaaGreatDoor.splitApart
open Go.ChangeShapes Go.WideShapes Go.ChangeAt Go.RowKit Go.AM
theorem Nz:false=Rows.splitApartRow.goesBy Tryz.pinned.checked.prog:=by kernel_rfl
end Go.Proofs.YtodkiaiclgdifaaGreatDoor.splitApart
