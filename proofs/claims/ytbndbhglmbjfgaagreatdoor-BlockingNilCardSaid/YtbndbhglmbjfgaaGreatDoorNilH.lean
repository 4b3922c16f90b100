/- BlockingNil: the row holds. -/
import Derived.Test.YtbndbhglmbjfgaaGreatDoorNilC
set_option linter.all false
namespace Go.Proofs.YtbndbhglmbjfgaaGreatDoor
open Go.ChangeShapes Go.WideShapes Go.ChangeAt Go.RowKit Go.Abs Go.Abs.Known

theorem named12 : Tryz.prog.funcNamed "dowel/dowellaw21.BlockingNil" = some 12 := by kernel_rfl
theorem inst12 : Tryz.f12.isInstance Tryz.prog Rows.blockingNilRow.origin Rows.blockingNilRow.targs := of_decide_eq_true (by kernel_rfl)
theorem wrap12 : Tryz.f12.isWrapper Tryz.prog Rows.blockingNilRow.wrapper Rows.blockingNilRow.mainSum := by
  unfold Func.isWrapper
  first
    | (rw [if_pos (by decide +kernel)]; kernel_rfl)
    | (rw [if_neg (by decide +kernel)]; exact ⟨rfl, rfl⟩)

theorem blockingNil_holds : Rows.BlockingNilSaid :=
  OpenClaim.holds_of_wide 12 Tryz.f12 rfl rfl rfl rfl rfl rfl rfl ⟨rfl, rfl, rfl, rfl, rfl⟩ rfl rfl rfl rfl rfl named12 Tryz.func12 closed12 inst12 wrap12
    (fun os started H enc _ => lifted os started H enc)
end Go.Proofs.YtbndbhglmbjfgaaGreatDoor

