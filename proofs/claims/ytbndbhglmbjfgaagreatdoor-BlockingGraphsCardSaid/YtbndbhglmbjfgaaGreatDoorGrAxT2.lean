/- dowel/meeting.Axes: the orders in which the map can be ranged over, a part of them. -/
import Derived.Test.YtbndbhglmbjfgaaGreatDoorGrAxD
import Derived.Test.YtbndbhglmbjfgaaGreatDoorGrTab
import Derived.Test.YtbndbhglmbjfgaaGreatDoorProg
import Derived.KernelRfl
set_option linter.all false
namespace Go.Abs.Known.Tre
open Go Go.Abs Go.Abs.Known Go.Proofs
theorem br40 (X : List Nat → Obj) : (axA Tryz.prog).branch Tryz.prog (callS Tryz.prog 105) (exS Tryz.prog 105) X 7 [4, 0] [] [0, 1, 2, 3, 4, 5] (ts137.set 58 (.it 0)) ⟨[.raw (X [])], []⟩ = true := by kernel_rfl
theorem br41 (X : List Nat → Obj) : (axA Tryz.prog).branch Tryz.prog (callS Tryz.prog 105) (exS Tryz.prog 105) X 7 [4, 1] [] [0, 1, 2, 3, 4, 5] (ts137.set 58 (.it 0)) ⟨[.raw (X [])], []⟩ = true := by kernel_rfl
theorem br42 (X : List Nat → Obj) : (axA Tryz.prog).branch Tryz.prog (callS Tryz.prog 105) (exS Tryz.prog 105) X 7 [4, 2] [] [0, 1, 2, 3, 4, 5] (ts137.set 58 (.it 0)) ⟨[.raw (X [])], []⟩ = true := by kernel_rfl
theorem br43 (X : List Nat → Obj) : (axA Tryz.prog).branch Tryz.prog (callS Tryz.prog 105) (exS Tryz.prog 105) X 7 [4, 3] [] [0, 1, 2, 3, 4, 5] (ts137.set 58 (.it 0)) ⟨[.raw (X [])], []⟩ = true := by kernel_rfl
theorem br45 (X : List Nat → Obj) : (axA Tryz.prog).branch Tryz.prog (callS Tryz.prog 105) (exS Tryz.prog 105) X 7 [4, 5] [] [0, 1, 2, 3, 4, 5] (ts137.set 58 (.it 0)) ⟨[.raw (X [])], []⟩ = true := by kernel_rfl
end Go.Abs.Known.Tre

namespace Go.Abs.Known.Tre
open Go Go.Abs Go.Abs.Known Go.Proofs
theorem br50 (X : List Nat → Obj) : (axA Tryz.prog).branch Tryz.prog (callS Tryz.prog 105) (exS Tryz.prog 105) X 7 [5, 0] [] [0, 1, 2, 3, 4, 5] (ts137.set 58 (.it 0)) ⟨[.raw (X [])], []⟩ = true := by kernel_rfl
theorem br51 (X : List Nat → Obj) : (axA Tryz.prog).branch Tryz.prog (callS Tryz.prog 105) (exS Tryz.prog 105) X 7 [5, 1] [] [0, 1, 2, 3, 4, 5] (ts137.set 58 (.it 0)) ⟨[.raw (X [])], []⟩ = true := by kernel_rfl
theorem br52 (X : List Nat → Obj) : (axA Tryz.prog).branch Tryz.prog (callS Tryz.prog 105) (exS Tryz.prog 105) X 7 [5, 2] [] [0, 1, 2, 3, 4, 5] (ts137.set 58 (.it 0)) ⟨[.raw (X [])], []⟩ = true := by kernel_rfl
theorem br53 (X : List Nat → Obj) : (axA Tryz.prog).branch Tryz.prog (callS Tryz.prog 105) (exS Tryz.prog 105) X 7 [5, 3] [] [0, 1, 2, 3, 4, 5] (ts137.set 58 (.it 0)) ⟨[.raw (X [])], []⟩ = true := by kernel_rfl
theorem br54 (X : List Nat → Obj) : (axA Tryz.prog).branch Tryz.prog (callS Tryz.prog 105) (exS Tryz.prog 105) X 7 [5, 4] [] [0, 1, 2, 3, 4, 5] (ts137.set 58 (.it 0)) ⟨[.raw (X [])], []⟩ = true := by kernel_rfl
end Go.Abs.Known.Tre

