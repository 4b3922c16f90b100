/- A closed fact of the row of BlockingGraphs. -/
import Derived.Test.YtbndbhglmbjfgaaGreatDoorTie
import Derived.Test.YtbndbhglmbjfgaaGreatDoorCards
import Derived.ProofKit
import Derived.OpenShut
import Derived.LaidMore
import Derived.Lay
import Derived.ReadAgain
import Derived.Deep.Slices
import Derived.SevenTiedAt
import Derived.Stop.Joined
import Derived.KernelRfl
set_option linter.all false
namespace Go.Proofs.YtbndbhglmbjfgaaGreatDoor
open Go Go.ChangeShapes Go.WideShapes Go.ChangeAt Go.RowKit
theorem fact_inPlace : (Rows.blockingGraphsRow.inPlace == Tryz.prog.inPlace 7) = true := by kernel_rfl
end Go.Proofs.YtbndbhglmbjfgaaGreatDoor

