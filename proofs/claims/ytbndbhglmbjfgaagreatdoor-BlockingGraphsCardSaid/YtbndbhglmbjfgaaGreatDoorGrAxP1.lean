/- dowel/meeting.Axes: what stands ahead of the range over the map, at the arguments that are met. -/
import Derived.Test.YtbndbhglmbjfgaaGreatDoorGrAxD
import Derived.Test.YtbndbhglmbjfgaaGreatDoorGrTab
import Derived.Test.YtbndbhglmbjfgaaGreatDoorProg
import Derived.KernelRfl
set_option linter.all false
namespace Go.Abs.Known.Pre
open Go Go.Abs Go.Abs.Known Go.Proofs
theorem pre4 : preOK Tryz.prog [a330, a327] = true := by kernel_rfl
theorem pre5 : preOK Tryz.prog [a330, a328] = true := by kernel_rfl
end Go.Abs.Known.Pre

namespace Go.Abs.Known.Pre
open Go Go.Abs Go.Abs.Known Go.Proofs
theorem pre6 : preOK Tryz.prog [a327, a334] = true := by kernel_rfl
theorem pre7 : preOK Tryz.prog [a327, a624] = true := by kernel_rfl
end Go.Abs.Known.Pre

