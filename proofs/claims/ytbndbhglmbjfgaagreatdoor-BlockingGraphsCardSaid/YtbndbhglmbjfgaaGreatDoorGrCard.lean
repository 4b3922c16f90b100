/- For any list of at most 6 indices and any list of at most 10 arcs, or more: Graph answers as the law says and does the same twice (dowel/dowellaw21.BlockingGraphs returns true). Conditions: those of the row alone. -/
import Derived.Test.YtbndbhglmbjfgaaGreatDoorTie
import Derived.Test.YtbndbhglmbjfgaaGreatDoorCards
import Derived.ProofKit
import Derived.OpenShut
import Derived.LaidMore
import Derived.Lay
import Derived.ReadAgain
import Derived.Deep.Slices
import Derived.SevenTiedAt
import Derived.Stop.Joined
import Derived.KernelRfl
import Derived.Test.YtbndbhglmbjfgaaGreatDoorGrRowD
set_option linter.all false
namespace Go.Proofs.YtbndbhglmbjfgaaGreatDoor
open Go Go.ChangeShapes Go.WideShapes Go.ChangeAt Go.RowKit
theorem fact_wf : Rows.blockingGraphsRow.wfByText (OpenSpec.ofChange Rows.blockingGraphsSpec) = true := by kernel_rfl
end Go.Proofs.YtbndbhglmbjfgaaGreatDoor

namespace Go.Proofs.YtbndbhglmbjfgaaGreatDoor
open Go Go.ChangeShapes Go.WideShapes Go.ChangeAt Go.RowKit
theorem fact_main : Tryz.pinned.checked.prog.mainIs = some (true, ("0510c3589903300e5c3e4826ce6d5d39ad461bcdacc7957fdb64aa4dd865d84a" : String).toList) := by kernel_rfl
end Go.Proofs.YtbndbhglmbjfgaaGreatDoor

namespace Go.Proofs.YtbndbhglmbjfgaaGreatDoor
open Go Go.ChangeShapes Go.WideShapes Go.ChangeAt Go.RowKit
theorem fact_looks : true = Tryz.prog.looks [] := by kernel_rfl
end Go.Proofs.YtbndbhglmbjfgaaGreatDoor

namespace Go.Proofs.YtbndbhglmbjfgaaGreatDoor
open Go Go.ChangeShapes Go.WideShapes Go.ChangeAt Go.RowKit
theorem fact_stand : ([48, 79].all fun u => !Tryz.prog.wantsStandIn u) = true := by kernel_rfl
end Go.Proofs.YtbndbhglmbjfgaaGreatDoor

namespace Go.Proofs.YtbndbhglmbjfgaaGreatDoor
open Go.ChangeShapes Go.WideShapes Go.ChangeAt Go.RowKit Go.Abs Go.Abs.Known

theorem fact_go : Tryz.prog.funcs.any Func.goes = false := by kernel_rfl

/-- No function starts a goroutine: none that is come to does. -/
theorem goes_none {P : Program} (h : P.funcs.any Func.goes = false) (c : OpenClaim) (hs : c.start = .entering) : c.goesBy P = false := by
  have all : ∀ g : FuncId, (P.funcs[g]?).any Func.goes = false := by
    intro g
    cases hg : P.funcs[g]? with
    | none => rfl
    | some fn =>
      rw [Option.any_some, Bool.eq_false_iff]
      intro hf
      rw [Bool.eq_false_iff] at h
      exact h (Array.any_eq_true'.2 ⟨fn, Array.mem_of_getElem? hg, hf⟩)
  have one : ∀ f, P.goes f = false := by
    intro f
    unfold Program.goes
    rw [h, Bool.and_false, Bool.or_false, Bool.eq_false_iff]
    intro hf
    obtain ⟨g, _, hq⟩ := List.any_eq_true.1 (by simpa using hf)
    rw [all g] at hq
    cases hq
  unfold OpenClaim.goesBy Program.goesAt Program.goesFrom
  rw [hs]
  cases P.funcNamed c.func with
  | none => rfl
  | some f => rw [Option.any_some, one f]; rfl

theorem blockingGraphs_card : Rows.BlockingGraphsCardSaid :=
  Claim7.holds_tied_plain_at .later [] [.data, .data, .data, .data, .sentinel, .sentinel, .pinned] true (true, "0510c3589903300e5c3e4826ce6d5d39ad461bcdacc7957fdb64aa4dd865d84a") true blockingGraphs_holds (fun _ h => by cases h) fact_wf (fun _ h => by cases h) blockingGraphs_row_tie rfl ⟨rfl, rfl⟩ fact_main rfl
    (fun f fn hf hfn => by
      obtain rfl : f = 7 := Option.some.inj (named7.symm.trans hf) |>.symm
      obtain rfl : fn = Tryz.f7 := (Option.some.inj (Tryz.func7.symm.trans hfn)).symm
      exact ⟨fact_looks, fun j t ht => by
        rw [Tryz.params7] at ht
        have hm : t ∈ [48, 79] := by simpa using Array.mem_of_getElem? ht
        exact (show Tryz.prog.wantsStandIn t = false by simpa using List.all_eq_true.1 fact_stand t hm)⟩)
    (goes_none fact_go _ rfl).symm
end Go.Proofs.YtbndbhglmbjfgaaGreatDoor

#print axioms Go.Proofs.YtbndbhglmbjfgaaGreatDoor.blockingGraphs_card
