/- A part of the table of the pure calls that Known() makes, evaluated over the parts before it. -/
import Derived.Test.YtbndbhglmbjfgaaGreatDoorGrTab
import Derived.Test.YtbndbhglmbjfgaaGreatDoorProg
import Derived.KernelRfl
set_option linter.all false
namespace Go.Abs.Known
open Go Go.Abs Go.Proofs
theorem chunk1 : chunkOK Tryz.prog mode tab fuel 1 = true := by kernel_rfl
end Go.Abs.Known

namespace Go.Abs.Known
open Go Go.Abs Go.Proofs
theorem chunk2 : chunkOK Tryz.prog mode tab fuel 2 = true := by kernel_rfl
end Go.Abs.Known

namespace Go.Abs.Known
open Go Go.Abs Go.Proofs
theorem chunk3 : chunkOK Tryz.prog mode tab fuel 3 = true := by kernel_rfl
end Go.Abs.Known

namespace Go.Abs.Known
open Go Go.Abs Go.Proofs
theorem chunk4 : chunkOK Tryz.prog mode tab fuel 4 = true := by kernel_rfl
end Go.Abs.Known

namespace Go.Abs.Known
open Go Go.Abs Go.Proofs
theorem chunk5 : chunkOK Tryz.prog mode tab fuel 5 = true := by kernel_rfl
end Go.Abs.Known

