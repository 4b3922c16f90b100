/- A part of the table of the pure calls that Known() makes, evaluated over the parts before it. -/
import Derived.Test.YtbndbhglmbjfgaaGreatDoorGrTab
import Derived.Test.YtbndbhglmbjfgaaGreatDoorProg
import Derived.KernelRfl
set_option linter.all false
namespace Go.Abs.Known
open Go Go.Abs Go.Proofs
theorem chunk21 : chunkOK Tryz.prog mode tab fuel 21 = true := by kernel_rfl
end Go.Abs.Known

namespace Go.Abs.Known
open Go Go.Abs Go.Proofs
theorem chunk22 : chunkOK Tryz.prog mode tab fuel 22 = true := by kernel_rfl
end Go.Abs.Known

namespace Go.Abs.Known
open Go Go.Abs Go.Proofs
theorem chunk23 : chunkOK Tryz.prog mode tab fuel 23 = true := by kernel_rfl
end Go.Abs.Known

namespace Go.Abs.Known
open Go Go.Abs Go.Proofs
theorem chunk24 : chunkOK Tryz.prog mode tab fuel 24 = true := by kernel_rfl
end Go.Abs.Known

namespace Go.Abs.Known
open Go Go.Abs Go.Proofs
theorem chunk25 : chunkOK Tryz.prog mode tab fuel 25 = true := by kernel_rfl
end Go.Abs.Known

