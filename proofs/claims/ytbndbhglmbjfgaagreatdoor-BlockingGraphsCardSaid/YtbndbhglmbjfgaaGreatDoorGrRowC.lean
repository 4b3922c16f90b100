/- BlockingGraphs: the closed facts of its row, together. -/
import Derived.Test.YtbndbhglmbjfgaaGreatDoorTie
import Derived.Test.YtbndbhglmbjfgaaGreatDoorCards
import Derived.ProofKit
import Derived.OpenShut
import Derived.LaidMore
import Derived.Lay
import Derived.ReadAgain
import Derived.Deep.Slices
import Derived.SevenTiedAt
import Derived.Stop.Joined
import Derived.KernelRfl
import Derived.Test.YtbndbhglmbjfgaaGreatDoorGrNfinplace
import Derived.Test.YtbndbhglmbjfgaaGreatDoorGrNfunf
import Derived.Test.YtbndbhglmbjfgaaGreatDoorGrNfrec
import Derived.Test.YtbndbhglmbjfgaaGreatDoorGrNfnamed
import Derived.Test.YtbndbhglmbjfgaaGreatDoorGrNflo
import Derived.Test.YtbndbhglmbjfgaaGreatDoorGrRowB
set_option linter.all false
namespace Go.Proofs.YtbndbhglmbjfgaaGreatDoor
open Go Go.ChangeShapes Go.WideShapes Go.ChangeAt Go.RowKit
theorem fact_stops : ((Tryz.prog.stops == []) && (Tryz.prog.stopKnobs == [])) = true := by kernel_rfl
end Go.Proofs.YtbndbhglmbjfgaaGreatDoor

namespace Go.Proofs.YtbndbhglmbjfgaaGreatDoor
open Go.ChangeShapes Go.WideShapes Go.ChangeAt Go.RowKit Go.Abs Go.Abs.Known
theorem fact_lo1 : laidOutB Tryz.prog = true := (Bool.and_eq_true _ _ ▸ fact_lo).1
theorem fact_lo2 : mapsRowed Tryz.prog = true := (Bool.and_eq_true _ _ ▸ fact_lo).2
theorem fact_st1 : (Tryz.prog.stops == []) = true := (Bool.and_eq_true _ _ ▸ fact_stops).1
theorem fact_st2 : (Tryz.prog.stopKnobs == []) = true := (Bool.and_eq_true _ _ ▸ fact_stops).2
set_option maxRecDepth 100000 in
theorem closed7 : joinedFacts Tryz.prog 7 Tryz.f7 Rows.blockingGraphsSpec Rows.blockingGraphsRow = true := by
  unfold joinedFacts
  rw [fact_lo1, fact_lo2, fact_st1, fact_st2, fact_inPlace, fact_unf, fact_rec, fact_named]
  kernel_rfl
end Go.Proofs.YtbndbhglmbjfgaaGreatDoor

