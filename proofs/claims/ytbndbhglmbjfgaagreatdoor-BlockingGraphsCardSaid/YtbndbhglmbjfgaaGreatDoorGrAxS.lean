/- The pieces of the insertion sort, evaluated. -/
import Derived.Test.YtbndbhglmbjfgaaGreatDoorGrAxD
import Derived.Test.YtbndbhglmbjfgaaGreatDoorGrTab
import Derived.Test.YtbndbhglmbjfgaaGreatDoorProg
import Derived.KernelRfl
set_option linter.all false
namespace Go.Abs.Known.Srt
open Go Go.Abs Go.Abs.Known Go.Proofs
theorem r0 (D : AV) (H : AHeap) : insRun (exK Tryz.prog 105 (insV Tryz.prog).r0 (insT D (insV Tryz.prog).fn .any .any) H) = .ok (.normal, insWant D (insV Tryz.prog).fn (insI 1) .any, H) := by kernel_rfl
theorem pA6 (D : AV) (H : AHeap) : insRun (exK Tryz.prog 105 (insV Tryz.prog).pA (insT D (insV Tryz.prog).fn (insI 6) .any) H) = .ok (.exit 0, insWant D (insV Tryz.prog).fn (insI 6) .any, H) := by kernel_rfl
theorem pB0 (ai : AV) : insRun (exK Tryz.prog 105 (insV Tryz.prog).pB (insT insD (insV Tryz.prog).fn ai (insI 0)) ⟨[.cells (List.replicate 72 .any) 0], [0]⟩) = .ok (.exit 2, insWant insD (insV Tryz.prog).fn ai (insI 0), ⟨[.cells (List.replicate 72 .any) 0], [0]⟩) := by kernel_rfl
theorem pA1 (D : AV) (H : AHeap) : insRun (exK Tryz.prog 105 (insV Tryz.prog).pA (insT D (insV Tryz.prog).fn (insI 1) .any) H) = .ok (.normal, insWant D (insV Tryz.prog).fn (insI 1) .any, H) := by kernel_rfl
theorem r3_1 (D : AV) (H : AHeap) : insRun (exK Tryz.prog 105 (insV Tryz.prog).r3 (insT D (insV Tryz.prog).fn (insI 1) .any) H) = .ok (.normal, insWant D (insV Tryz.prog).fn (insI 1) (insI 1), H) := by kernel_rfl
theorem r2_1 (D : AV) (H : AHeap) : insRun (exK Tryz.prog 105 (insV Tryz.prog).r2 (insT D (insV Tryz.prog).fn (insI 1) .any) H) = .ok (.normal, insWant D (insV Tryz.prog).fn (insI 2) .any, H) := by kernel_rfl
theorem pA2 (D : AV) (H : AHeap) : insRun (exK Tryz.prog 105 (insV Tryz.prog).pA (insT D (insV Tryz.prog).fn (insI 2) .any) H) = .ok (.normal, insWant D (insV Tryz.prog).fn (insI 2) .any, H) := by kernel_rfl
theorem r3_2 (D : AV) (H : AHeap) : insRun (exK Tryz.prog 105 (insV Tryz.prog).r3 (insT D (insV Tryz.prog).fn (insI 2) .any) H) = .ok (.normal, insWant D (insV Tryz.prog).fn (insI 2) (insI 2), H) := by kernel_rfl
theorem r2_2 (D : AV) (H : AHeap) : insRun (exK Tryz.prog 105 (insV Tryz.prog).r2 (insT D (insV Tryz.prog).fn (insI 2) .any) H) = .ok (.normal, insWant D (insV Tryz.prog).fn (insI 3) .any, H) := by kernel_rfl
theorem pA3 (D : AV) (H : AHeap) : insRun (exK Tryz.prog 105 (insV Tryz.prog).pA (insT D (insV Tryz.prog).fn (insI 3) .any) H) = .ok (.normal, insWant D (insV Tryz.prog).fn (insI 3) .any, H) := by kernel_rfl
theorem r3_3 (D : AV) (H : AHeap) : insRun (exK Tryz.prog 105 (insV Tryz.prog).r3 (insT D (insV Tryz.prog).fn (insI 3) .any) H) = .ok (.normal, insWant D (insV Tryz.prog).fn (insI 3) (insI 3), H) := by kernel_rfl
theorem r2_3 (D : AV) (H : AHeap) : insRun (exK Tryz.prog 105 (insV Tryz.prog).r2 (insT D (insV Tryz.prog).fn (insI 3) .any) H) = .ok (.normal, insWant D (insV Tryz.prog).fn (insI 4) .any, H) := by kernel_rfl
theorem pA4 (D : AV) (H : AHeap) : insRun (exK Tryz.prog 105 (insV Tryz.prog).pA (insT D (insV Tryz.prog).fn (insI 4) .any) H) = .ok (.normal, insWant D (insV Tryz.prog).fn (insI 4) .any, H) := by kernel_rfl
theorem r3_4 (D : AV) (H : AHeap) : insRun (exK Tryz.prog 105 (insV Tryz.prog).r3 (insT D (insV Tryz.prog).fn (insI 4) .any) H) = .ok (.normal, insWant D (insV Tryz.prog).fn (insI 4) (insI 4), H) := by kernel_rfl
theorem r2_4 (D : AV) (H : AHeap) : insRun (exK Tryz.prog 105 (insV Tryz.prog).r2 (insT D (insV Tryz.prog).fn (insI 4) .any) H) = .ok (.normal, insWant D (insV Tryz.prog).fn (insI 5) .any, H) := by kernel_rfl
theorem pA5 (D : AV) (H : AHeap) : insRun (exK Tryz.prog 105 (insV Tryz.prog).pA (insT D (insV Tryz.prog).fn (insI 5) .any) H) = .ok (.normal, insWant D (insV Tryz.prog).fn (insI 5) .any, H) := by kernel_rfl
theorem r3_5 (D : AV) (H : AHeap) : insRun (exK Tryz.prog 105 (insV Tryz.prog).r3 (insT D (insV Tryz.prog).fn (insI 5) .any) H) = .ok (.normal, insWant D (insV Tryz.prog).fn (insI 5) (insI 5), H) := by kernel_rfl
theorem r2_5 (D : AV) (H : AHeap) : insRun (exK Tryz.prog 105 (insV Tryz.prog).r2 (insT D (insV Tryz.prog).fn (insI 5) .any) H) = .ok (.normal, insWant D (insV Tryz.prog).fn (insI 6) .any, H) := by kernel_rfl
theorem pC1 (u : Nat → Q4) (ai : AV) : insRun (exK Tryz.prog 105 (insV Tryz.prog).pC (insT insD (insV Tryz.prog).fn ai (insI 1)) ⟨[.cells (ec u 0 ++ ec u 1 ++ ec u 2 ++ ec u 3 ++ ec u 4 ++ ec u 5) 0], []⟩) =
    .ok (.normal, insWant insD (insV Tryz.prog).fn ai (insI 0), ⟨[.cells (ec u 1 ++ ec u 0 ++ ec u 2 ++ ec u 3 ++ ec u 4 ++ ec u 5) 0], []⟩) := by kernel_rfl
theorem pC2 (u : Nat → Q4) (ai : AV) : insRun (exK Tryz.prog 105 (insV Tryz.prog).pC (insT insD (insV Tryz.prog).fn ai (insI 2)) ⟨[.cells (ec u 0 ++ ec u 1 ++ ec u 2 ++ ec u 3 ++ ec u 4 ++ ec u 5) 0], []⟩) =
    .ok (.normal, insWant insD (insV Tryz.prog).fn ai (insI 1), ⟨[.cells (ec u 0 ++ ec u 2 ++ ec u 1 ++ ec u 3 ++ ec u 4 ++ ec u 5) 0], []⟩) := by kernel_rfl
theorem pC3 (u : Nat → Q4) (ai : AV) : insRun (exK Tryz.prog 105 (insV Tryz.prog).pC (insT insD (insV Tryz.prog).fn ai (insI 3)) ⟨[.cells (ec u 0 ++ ec u 1 ++ ec u 2 ++ ec u 3 ++ ec u 4 ++ ec u 5) 0], []⟩) =
    .ok (.normal, insWant insD (insV Tryz.prog).fn ai (insI 2), ⟨[.cells (ec u 0 ++ ec u 1 ++ ec u 3 ++ ec u 2 ++ ec u 4 ++ ec u 5) 0], []⟩) := by kernel_rfl
theorem pC4 (u : Nat → Q4) (ai : AV) : insRun (exK Tryz.prog 105 (insV Tryz.prog).pC (insT insD (insV Tryz.prog).fn ai (insI 4)) ⟨[.cells (ec u 0 ++ ec u 1 ++ ec u 2 ++ ec u 3 ++ ec u 4 ++ ec u 5) 0], []⟩) =
    .ok (.normal, insWant insD (insV Tryz.prog).fn ai (insI 3), ⟨[.cells (ec u 0 ++ ec u 1 ++ ec u 2 ++ ec u 4 ++ ec u 3 ++ ec u 5) 0], []⟩) := by kernel_rfl
theorem pC5 (u : Nat → Q4) (ai : AV) : insRun (exK Tryz.prog 105 (insV Tryz.prog).pC (insT insD (insV Tryz.prog).fn ai (insI 5)) ⟨[.cells (ec u 0 ++ ec u 1 ++ ec u 2 ++ ec u 3 ++ ec u 4 ++ ec u 5) 0], []⟩) =
    .ok (.normal, insWant insD (insV Tryz.prog).fn ai (insI 4), ⟨[.cells (ec u 0 ++ ec u 1 ++ ec u 2 ++ ec u 3 ++ ec u 5 ++ ec u 4) 0], []⟩) := by kernel_rfl
end Go.Abs.Known.Srt

namespace Go.Abs.Known.Srt
open Go Go.Abs Go.Abs.Known Go.Proofs
theorem pB1 (ai : AV) : ((List.range 36).map fun q => insRun (exK Tryz.prog 105 (insV Tryz.prog).pB (insT insD (insV Tryz.prog).fn ai (insI 1)) ⟨[.cells ((insV Tryz.prog).two 1 (q / 6) (q % 6)) 0], [0]⟩)) =
    (List.range 36).map fun q => (.ok (if (insV Tryz.prog).lt (q / 6) (q % 6) then .normal else .exit 2, insWant insD (insV Tryz.prog).fn ai (insI 1), ⟨[.cells ((insV Tryz.prog).two 1 (q / 6) (q % 6)) 0], [0]⟩) : Go.Abs.R _) := by kernel_rfl
theorem pB2 (ai : AV) : ((List.range 36).map fun q => insRun (exK Tryz.prog 105 (insV Tryz.prog).pB (insT insD (insV Tryz.prog).fn ai (insI 2)) ⟨[.cells ((insV Tryz.prog).two 2 (q / 6) (q % 6)) 0], [0]⟩)) =
    (List.range 36).map fun q => (.ok (if (insV Tryz.prog).lt (q / 6) (q % 6) then .normal else .exit 2, insWant insD (insV Tryz.prog).fn ai (insI 2), ⟨[.cells ((insV Tryz.prog).two 2 (q / 6) (q % 6)) 0], [0]⟩) : Go.Abs.R _) := by kernel_rfl
theorem pB3 (ai : AV) : ((List.range 36).map fun q => insRun (exK Tryz.prog 105 (insV Tryz.prog).pB (insT insD (insV Tryz.prog).fn ai (insI 3)) ⟨[.cells ((insV Tryz.prog).two 3 (q / 6) (q % 6)) 0], [0]⟩)) =
    (List.range 36).map fun q => (.ok (if (insV Tryz.prog).lt (q / 6) (q % 6) then .normal else .exit 2, insWant insD (insV Tryz.prog).fn ai (insI 3), ⟨[.cells ((insV Tryz.prog).two 3 (q / 6) (q % 6)) 0], [0]⟩) : Go.Abs.R _) := by kernel_rfl
theorem pB4 (ai : AV) : ((List.range 36).map fun q => insRun (exK Tryz.prog 105 (insV Tryz.prog).pB (insT insD (insV Tryz.prog).fn ai (insI 4)) ⟨[.cells ((insV Tryz.prog).two 4 (q / 6) (q % 6)) 0], [0]⟩)) =
    (List.range 36).map fun q => (.ok (if (insV Tryz.prog).lt (q / 6) (q % 6) then .normal else .exit 2, insWant insD (insV Tryz.prog).fn ai (insI 4), ⟨[.cells ((insV Tryz.prog).two 4 (q / 6) (q % 6)) 0], [0]⟩) : Go.Abs.R _) := by kernel_rfl
theorem pB5 (ai : AV) : ((List.range 36).map fun q => insRun (exK Tryz.prog 105 (insV Tryz.prog).pB (insT insD (insV Tryz.prog).fn ai (insI 5)) ⟨[.cells ((insV Tryz.prog).two 5 (q / 6) (q % 6)) 0], [0]⟩)) =
    (List.range 36).map fun q => (.ok (if (insV Tryz.prog).lt (q / 6) (q % 6) then .normal else .exit 2, insWant insD (insV Tryz.prog).fn ai (insI 5), ⟨[.cells ((insV Tryz.prog).two 5 (q / 6) (q % 6)) 0], [0]⟩) : Go.Abs.R _) := by kernel_rfl
end Go.Abs.Known.Srt

