/- BlockingGraphs: the row holds. -/
import Derived.Test.YtbndbhglmbjfgaaGreatDoorGrRowC
set_option linter.all false
namespace Go.Proofs.YtbndbhglmbjfgaaGreatDoor
open Go.ChangeShapes Go.WideShapes Go.ChangeAt Go.RowKit Go.Abs Go.Abs.Known

theorem named7 : Tryz.prog.funcNamed "dowel/dowellaw21.BlockingGraphs" = some 7 := by kernel_rfl
theorem inst7 : Tryz.f7.isInstance Tryz.prog Rows.blockingGraphsRow.origin Rows.blockingGraphsRow.targs := of_decide_eq_true (by kernel_rfl)
theorem wrap7 : Tryz.f7.isWrapper Tryz.prog Rows.blockingGraphsRow.wrapper Rows.blockingGraphsRow.mainSum := by
  unfold Func.isWrapper
  first
    | (rw [if_pos (by decide +kernel)]; kernel_rfl)
    | (rw [if_neg (by decide +kernel)]; exact ⟨rfl, rfl⟩)

theorem blockingGraphs_holds : Rows.BlockingGraphsSaid :=
  OpenClaim.holds_of_wide 7 Tryz.f7 rfl rfl rfl rfl rfl rfl rfl ⟨rfl, rfl, rfl, rfl, rfl⟩ rfl rfl rfl rfl rfl named7 Tryz.func7 closed7 inst7 wrap7
    (fun os started H enc _ => lifted os started H enc)
end Go.Proofs.YtbndbhglmbjfgaaGreatDoor

