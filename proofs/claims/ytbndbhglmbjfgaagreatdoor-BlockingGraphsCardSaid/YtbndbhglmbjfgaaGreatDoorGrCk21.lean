/- A part of the table of the pure calls that Known() makes, evaluated over the parts before it. -/
import Derived.Test.YtbndbhglmbjfgaaGreatDoorGrTab
import Derived.Test.YtbndbhglmbjfgaaGreatDoorProg
import Derived.KernelRfl
set_option linter.all false
namespace Go.Abs.Known
open Go Go.Abs Go.Proofs
theorem chunk107 : chunkOK Tryz.prog mode tab fuel 107 = true := by kernel_rfl
end Go.Abs.Known

namespace Go.Abs.Known
open Go Go.Abs Go.Proofs
theorem chunk108 : chunkOK Tryz.prog mode tab fuel 108 = true := by kernel_rfl
end Go.Abs.Known

namespace Go.Abs.Known
open Go Go.Abs Go.Proofs
theorem chunk109 : chunkOK Tryz.prog mode tab fuel 109 = true := by kernel_rfl
end Go.Abs.Known

namespace Go.Abs.Known
open Go Go.Abs Go.Proofs
theorem chunk110 : chunkOK Tryz.prog mode tab fuel 110 = true := by kernel_rfl
end Go.Abs.Known

namespace Go.Abs.Known
open Go Go.Abs Go.Proofs
theorem chunk111 : chunkOK Tryz.prog mode tab fuel 111 = true := by kernel_rfl
end Go.Abs.Known

