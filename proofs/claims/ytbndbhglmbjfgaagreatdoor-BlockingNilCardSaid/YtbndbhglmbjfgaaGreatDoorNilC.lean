/- BlockingNil: the closed facts of its row, together. -/
import Derived.Test.YtbndbhglmbjfgaaGreatDoorNilR
import Derived.Test.YtbndbhglmbjfgaaGreatDoorNfinplace
import Derived.Test.YtbndbhglmbjfgaaGreatDoorNfunf
import Derived.Test.YtbndbhglmbjfgaaGreatDoorNfrec
import Derived.Test.YtbndbhglmbjfgaaGreatDoorNfnamed
import Derived.Test.YtbndbhglmbjfgaaGreatDoorNflo
import Derived.Test.YtbndbhglmbjfgaaGreatDoorNilL
set_option linter.all false
namespace Go.Proofs.YtbndbhglmbjfgaaGreatDoor
open Go.ChangeShapes Go.WideShapes Go.ChangeAt Go.RowKit Go.Abs Go.Abs.Known
theorem fact_stops : ((Tryz.prog.stops == []) && (Tryz.prog.stopKnobs == [])) = true := by kernel_rfl
end Go.Proofs.YtbndbhglmbjfgaaGreatDoor

namespace Go.Proofs.YtbndbhglmbjfgaaGreatDoor
open Go.ChangeShapes Go.WideShapes Go.ChangeAt Go.RowKit Go.Abs Go.Abs.Known
theorem fact_lo1 : laidOutB Tryz.prog = true := (Bool.and_eq_true _ _ ▸ fact_lo).1
theorem fact_lo2 : mapsRowed Tryz.prog = true := (Bool.and_eq_true _ _ ▸ fact_lo).2
theorem fact_st1 : (Tryz.prog.stops == []) = true := (Bool.and_eq_true _ _ ▸ fact_stops).1
theorem fact_st2 : (Tryz.prog.stopKnobs == []) = true := (Bool.and_eq_true _ _ ▸ fact_stops).2
set_option maxRecDepth 100000 in
theorem closed12 : joinedFacts Tryz.prog 12 Tryz.f12 Rows.blockingNilSpec Rows.blockingNilRow = true := by
  unfold joinedFacts
  rw [fact_lo1, fact_lo2, fact_st1, fact_st2, fact_inPlace, fact_unf, fact_rec, fact_named]
  kernel_rfl
end Go.Proofs.YtbndbhglmbjfgaaGreatDoor

