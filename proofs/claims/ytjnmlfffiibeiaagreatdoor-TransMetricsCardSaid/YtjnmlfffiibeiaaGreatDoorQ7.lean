/- Part 7 of a proof by the abstract machine. -/
import Derived.Test.YtjnmlfffiibeiaaGreatDoorQ6
import Derived.Test.YtjnmlfffiibeiaaGreatDoorCards
import Derived.Test.YtjnmlfffiibeiaaGreatDoorTie
import Derived.OpenShut
import Derived.KernelRfl
import Derived.SevenTiedAt
namespace Go.Proofs.YtjnmlfffiibeiaaGreatDoor.transMetrics
open Go.ChangeShapes Go.WideShapes Go.ChangeAt Go.RowKit Go.AM
theorem goesOK : false = Rows.transMetricsRow.goesBy Tryz.pinned.checked.prog := by kernel_rfl
end Go.Proofs.YtjnmlfffiibeiaaGreatDoor.transMetrics
