/- dowel/meeting.Axes: the orders in which the map can be ranged over, a part of them. -/
import Derived.Test.YtbndbhglmbjfgaaGreatDoorGrAxD
import Derived.Test.YtbndbhglmbjfgaaGreatDoorGrTab
import Derived.Test.YtbndbhglmbjfgaaGreatDoorProg
import Derived.KernelRfl
set_option linter.all false
namespace Go.Abs.Known.Tre
open Go Go.Abs Go.Abs.Known Go.Proofs
theorem br01 (X : List Nat → Obj) : (axA Tryz.prog).branch Tryz.prog (callS Tryz.prog 105) (exS Tryz.prog 105) X 7 [0, 1] [] [0, 1, 2, 3, 4, 5] (ts137.set 58 (.it 0)) ⟨[.raw (X [])], []⟩ = true := by kernel_rfl
theorem br02 (X : List Nat → Obj) : (axA Tryz.prog).branch Tryz.prog (callS Tryz.prog 105) (exS Tryz.prog 105) X 7 [0, 2] [] [0, 1, 2, 3, 4, 5] (ts137.set 58 (.it 0)) ⟨[.raw (X [])], []⟩ = true := by kernel_rfl
theorem br03 (X : List Nat → Obj) : (axA Tryz.prog).branch Tryz.prog (callS Tryz.prog 105) (exS Tryz.prog 105) X 7 [0, 3] [] [0, 1, 2, 3, 4, 5] (ts137.set 58 (.it 0)) ⟨[.raw (X [])], []⟩ = true := by kernel_rfl
theorem br04 (X : List Nat → Obj) : (axA Tryz.prog).branch Tryz.prog (callS Tryz.prog 105) (exS Tryz.prog 105) X 7 [0, 4] [] [0, 1, 2, 3, 4, 5] (ts137.set 58 (.it 0)) ⟨[.raw (X [])], []⟩ = true := by kernel_rfl
theorem br05 (X : List Nat → Obj) : (axA Tryz.prog).branch Tryz.prog (callS Tryz.prog 105) (exS Tryz.prog 105) X 7 [0, 5] [] [0, 1, 2, 3, 4, 5] (ts137.set 58 (.it 0)) ⟨[.raw (X [])], []⟩ = true := by kernel_rfl
end Go.Abs.Known.Tre

namespace Go.Abs.Known.Tre
open Go Go.Abs Go.Abs.Known Go.Proofs
theorem br10 (X : List Nat → Obj) : (axA Tryz.prog).branch Tryz.prog (callS Tryz.prog 105) (exS Tryz.prog 105) X 7 [1, 0] [] [0, 1, 2, 3, 4, 5] (ts137.set 58 (.it 0)) ⟨[.raw (X [])], []⟩ = true := by kernel_rfl
theorem br12 (X : List Nat → Obj) : (axA Tryz.prog).branch Tryz.prog (callS Tryz.prog 105) (exS Tryz.prog 105) X 7 [1, 2] [] [0, 1, 2, 3, 4, 5] (ts137.set 58 (.it 0)) ⟨[.raw (X [])], []⟩ = true := by kernel_rfl
theorem br13 (X : List Nat → Obj) : (axA Tryz.prog).branch Tryz.prog (callS Tryz.prog 105) (exS Tryz.prog 105) X 7 [1, 3] [] [0, 1, 2, 3, 4, 5] (ts137.set 58 (.it 0)) ⟨[.raw (X [])], []⟩ = true := by kernel_rfl
theorem br14 (X : List Nat → Obj) : (axA Tryz.prog).branch Tryz.prog (callS Tryz.prog 105) (exS Tryz.prog 105) X 7 [1, 4] [] [0, 1, 2, 3, 4, 5] (ts137.set 58 (.it 0)) ⟨[.raw (X [])], []⟩ = true := by kernel_rfl
theorem br15 (X : List Nat → Obj) : (axA Tryz.prog).branch Tryz.prog (callS Tryz.prog 105) (exS Tryz.prog 105) X 7 [1, 5] [] [0, 1, 2, 3, 4, 5] (ts137.set 58 (.it 0)) ⟨[.raw (X [])], []⟩ = true := by kernel_rfl
end Go.Abs.Known.Tre

