/- dowel/meeting.Axes: the orders in which the map can be ranged over, a part of them. -/
import Derived.Test.YtbndbhglmbjfgaaGreatDoorGrAxD
import Derived.Test.YtbndbhglmbjfgaaGreatDoorGrTab
import Derived.Test.YtbndbhglmbjfgaaGreatDoorProg
import Derived.KernelRfl
set_option linter.all false
namespace Go.Abs.Known.Tre
open Go Go.Abs Go.Abs.Known Go.Proofs
theorem br20 (X : List Nat → Obj) : (axA Tryz.prog).branch Tryz.prog (callS Tryz.prog 105) (exS Tryz.prog 105) X 7 [2, 0] [] [0, 1, 2, 3, 4, 5] (ts137.set 58 (.it 0)) ⟨[.raw (X [])], []⟩ = true := by kernel_rfl
theorem br21 (X : List Nat → Obj) : (axA Tryz.prog).branch Tryz.prog (callS Tryz.prog 105) (exS Tryz.prog 105) X 7 [2, 1] [] [0, 1, 2, 3, 4, 5] (ts137.set 58 (.it 0)) ⟨[.raw (X [])], []⟩ = true := by kernel_rfl
theorem br23 (X : List Nat → Obj) : (axA Tryz.prog).branch Tryz.prog (callS Tryz.prog 105) (exS Tryz.prog 105) X 7 [2, 3] [] [0, 1, 2, 3, 4, 5] (ts137.set 58 (.it 0)) ⟨[.raw (X [])], []⟩ = true := by kernel_rfl
theorem br24 (X : List Nat → Obj) : (axA Tryz.prog).branch Tryz.prog (callS Tryz.prog 105) (exS Tryz.prog 105) X 7 [2, 4] [] [0, 1, 2, 3, 4, 5] (ts137.set 58 (.it 0)) ⟨[.raw (X [])], []⟩ = true := by kernel_rfl
theorem br25 (X : List Nat → Obj) : (axA Tryz.prog).branch Tryz.prog (callS Tryz.prog 105) (exS Tryz.prog 105) X 7 [2, 5] [] [0, 1, 2, 3, 4, 5] (ts137.set 58 (.it 0)) ⟨[.raw (X [])], []⟩ = true := by kernel_rfl
end Go.Abs.Known.Tre

namespace Go.Abs.Known.Tre
open Go Go.Abs Go.Abs.Known Go.Proofs
theorem br30 (X : List Nat → Obj) : (axA Tryz.prog).branch Tryz.prog (callS Tryz.prog 105) (exS Tryz.prog 105) X 7 [3, 0] [] [0, 1, 2, 3, 4, 5] (ts137.set 58 (.it 0)) ⟨[.raw (X [])], []⟩ = true := by kernel_rfl
theorem br31 (X : List Nat → Obj) : (axA Tryz.prog).branch Tryz.prog (callS Tryz.prog 105) (exS Tryz.prog 105) X 7 [3, 1] [] [0, 1, 2, 3, 4, 5] (ts137.set 58 (.it 0)) ⟨[.raw (X [])], []⟩ = true := by kernel_rfl
theorem br32 (X : List Nat → Obj) : (axA Tryz.prog).branch Tryz.prog (callS Tryz.prog 105) (exS Tryz.prog 105) X 7 [3, 2] [] [0, 1, 2, 3, 4, 5] (ts137.set 58 (.it 0)) ⟨[.raw (X [])], []⟩ = true := by kernel_rfl
theorem br34 (X : List Nat → Obj) : (axA Tryz.prog).branch Tryz.prog (callS Tryz.prog 105) (exS Tryz.prog 105) X 7 [3, 4] [] [0, 1, 2, 3, 4, 5] (ts137.set 58 (.it 0)) ⟨[.raw (X [])], []⟩ = true := by kernel_rfl
theorem br35 (X : List Nat → Obj) : (axA Tryz.prog).branch Tryz.prog (callS Tryz.prog 105) (exS Tryz.prog 105) X 7 [3, 5] [] [0, 1, 2, 3, 4, 5] (ts137.set 58 (.it 0)) ⟨[.raw (X [])], []⟩ = true := by kernel_rfl
end Go.Abs.Known.Tre

