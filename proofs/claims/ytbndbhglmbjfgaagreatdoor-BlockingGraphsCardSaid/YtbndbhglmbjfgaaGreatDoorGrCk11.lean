/- A part of the table of the pure calls that Known() makes, evaluated over the parts before it. -/
import Derived.Test.YtbndbhglmbjfgaaGreatDoorGrTab
import Derived.Test.YtbndbhglmbjfgaaGreatDoorProg
import Derived.KernelRfl
set_option linter.all false
namespace Go.Abs.Known
open Go Go.Abs Go.Proofs
theorem chunk56 : chunkOK Tryz.prog mode tab fuel 56 = true := by kernel_rfl
end Go.Abs.Known

namespace Go.Abs.Known
open Go Go.Abs Go.Proofs
theorem chunk57 : chunkOK Tryz.prog mode tab fuel 57 = true := by kernel_rfl
end Go.Abs.Known

namespace Go.Abs.Known
open Go Go.Abs Go.Proofs
theorem chunk58 : chunkOK Tryz.prog mode tab fuel 58 = true := by kernel_rfl
end Go.Abs.Known

namespace Go.Abs.Known
open Go Go.Abs Go.Proofs
theorem chunk59 : chunkOK Tryz.prog mode tab fuel 59 = true := by kernel_rfl
end Go.Abs.Known

namespace Go.Abs.Known
open Go Go.Abs Go.Proofs
theorem chunk60 : chunkOK Tryz.prog mode tab fuel 60 = true := by kernel_rfl
end Go.Abs.Known

