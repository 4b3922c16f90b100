/- A closed fact of the row of BlockingNil. -/
import Derived.Test.YtbndbhglmbjfgaaGreatDoorNilR
set_option linter.all false
namespace Go.Proofs.YtbndbhglmbjfgaaGreatDoor
open Go.ChangeShapes Go.WideShapes Go.ChangeAt Go.RowKit Go.Abs Go.Abs.Known
theorem fact_named : (Rows.blockingNilRow.named == Tryz.prog.varsNamed 12) = true := by kernel_rfl
end Go.Proofs.YtbndbhglmbjfgaaGreatDoor

