/- A part of the table of the pure calls that Known() makes, evaluated over the parts before it. -/
import Derived.Test.YtbndbhglmbjfgaaGreatDoorGrTab
import Derived.Test.YtbndbhglmbjfgaaGreatDoorProg
import Derived.KernelRfl
set_option linter.all false
namespace Go.Abs.Known
open Go Go.Abs Go.Proofs
theorem chunk81 : chunkOK Tryz.prog mode tab fuel 81 = true := by kernel_rfl
end Go.Abs.Known

namespace Go.Abs.Known
open Go Go.Abs Go.Proofs
theorem chunk82 : chunkOK Tryz.prog mode tab fuel 82 = true := by kernel_rfl
end Go.Abs.Known

namespace Go.Abs.Known
open Go Go.Abs Go.Proofs
theorem chunk83 : chunkOK Tryz.prog mode tab fuel 83 = true := by kernel_rfl
end Go.Abs.Known

namespace Go.Abs.Known
open Go Go.Abs Go.Proofs
theorem chunk84 : chunkOK Tryz.prog mode tab fuel 84 = true := by kernel_rfl
end Go.Abs.Known

namespace Go.Abs.Known
open Go Go.Abs Go.Proofs
theorem chunk85 : chunkOK Tryz.prog mode tab fuel 85 = true := by kernel_rfl
end Go.Abs.Known

