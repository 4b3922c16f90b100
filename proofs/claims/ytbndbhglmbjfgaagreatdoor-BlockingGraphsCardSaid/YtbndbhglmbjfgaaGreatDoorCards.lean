/-
  DERIVED. GIVEN WITH THE SEED: THE CARDS: each row of YtbndbhglmbjfgaaGreatDoorRows.lean that lists a variable, with what it lists TIED to the program's text (the seventh form; the later family's looks); each row that meets fmt, with fmt's text TOLD by the authors' own Lean function (tested against real Go, not proved from fmt's source: count such statements apart). THE CARD IS WHAT COUNTS. Prove the row's statement (the work); the ties are given (YtbndbhglmbjfgaaGreatDoorTie.lean); close each card by the builder's one call (the guide's Derived/Test/ToyasCard.lean, 'card_holds'). Laid BY PROGRAM, IN A SANDBOX (cutbox-door.mjs). By AI agents, Wed Nov 11 2026. No macro, syntax, notation, axiom, sorry.
-/
import Derived.Test.YtbndbhglmbjfgaaGreatDoorRows
import GoSem.ClaimSeven
namespace Go.Proofs.YtbndbhglmbjfgaaGreatDoor
namespace Rows

/-- THE TIED CARD OF 'dowellaw21.BlockingParts'. -/
def blockingPartsCard : Claim7 := { stood := { row := blockingPartsRow, standIns := [], harness := (true, "0510c3589903300e5c3e4826ce6d5d39ad461bcdacc7957fdb64aa4dd865d84a"), looks := true }, kinds := [], alts := [], laidByText := true, laidKinds := [.data, .data, .data, .data, .sentinel, .sentinel, .pinned], laidTests := true, laidLooks := .later }
def BlockingPartsCardSaid : Prop := Claim7.holds Tryz.pinned (.plain (OpenSpec.ofChange blockingPartsSpec)) blockingPartsCard

/-- THE TIED CARD OF 'dowellaw21.BlockingOpens'. -/
def blockingOpensCard : Claim7 := { stood := { row := blockingOpensRow, standIns := [], harness := (true, "0510c3589903300e5c3e4826ce6d5d39ad461bcdacc7957fdb64aa4dd865d84a"), looks := true }, kinds := [], alts := [], laidByText := true, laidKinds := [.data, .data, .data, .data, .sentinel, .sentinel, .pinned], laidTests := true, laidLooks := .later }
def BlockingOpensCardSaid : Prop := Claim7.holds Tryz.pinned (.plain (OpenSpec.ofChange blockingOpensSpec)) blockingOpensCard

/-- THE TIED CARD OF 'dowellaw21.BlockingVerifies'. -/
def blockingVerifiesCard : Claim7 := { stood := { row := blockingVerifiesRow, standIns := [], harness := (true, "0510c3589903300e5c3e4826ce6d5d39ad461bcdacc7957fdb64aa4dd865d84a"), looks := true }, kinds := [], alts := [], laidByText := true, laidKinds := [.data, .data, .data, .data, .sentinel, .sentinel, .pinned], laidTests := true, laidLooks := .later }
def BlockingVerifiesCardSaid : Prop := Claim7.holds Tryz.pinned (.plain (OpenSpec.ofChange blockingVerifiesSpec)) blockingVerifiesCard

/-- THE TIED CARD OF 'dowellaw21.BlockingArcs'. -/
def blockingArcsCard : Claim7 := { stood := { row := blockingArcsRow, standIns := [], harness := (true, "0510c3589903300e5c3e4826ce6d5d39ad461bcdacc7957fdb64aa4dd865d84a"), looks := true }, kinds := [], alts := [], laidByText := true, laidKinds := [.data, .data, .data, .data, .sentinel, .sentinel, .pinned], laidTests := true, laidLooks := .later }
def BlockingArcsCardSaid : Prop := Claim7.holds Tryz.pinned (.plain (OpenSpec.ofChange blockingArcsSpec)) blockingArcsCard

/-- THE TIED CARD OF 'dowellaw21.BlockingGraphs'. -/
def blockingGraphsCard : Claim7 := { stood := { row := blockingGraphsRow, standIns := [], harness := (true, "0510c3589903300e5c3e4826ce6d5d39ad461bcdacc7957fdb64aa4dd865d84a"), looks := true }, kinds := [], alts := [], laidByText := true, laidKinds := [.data, .data, .data, .data, .sentinel, .sentinel, .pinned], laidTests := true, laidLooks := .later }
def BlockingGraphsCardSaid : Prop := Claim7.holds Tryz.pinned (.plain (OpenSpec.ofChange blockingGraphsSpec)) blockingGraphsCard

/-- THE TIED CARD OF 'dowellaw21.BlockingMoves'. -/
def blockingMovesCard : Claim7 := { stood := { row := blockingMovesRow, standIns := [], harness := (true, "0510c3589903300e5c3e4826ce6d5d39ad461bcdacc7957fdb64aa4dd865d84a"), looks := true }, kinds := [], alts := [], laidByText := true, laidKinds := [.data, .data, .data, .data, .sentinel, .sentinel, .pinned], laidTests := true, laidLooks := .later }
def BlockingMovesCardSaid : Prop := Claim7.holds Tryz.pinned (.plain (OpenSpec.ofChange blockingMovesSpec)) blockingMovesCard

/-- THE TIED CARD OF 'dowellaw21.BlockingSigns'. -/
def blockingSignsCard : Claim7 := { stood := { row := blockingSignsRow, standIns := [], harness := (true, "0510c3589903300e5c3e4826ce6d5d39ad461bcdacc7957fdb64aa4dd865d84a"), looks := true }, kinds := [], alts := [], laidByText := true, laidKinds := [.data, .data, .data, .data, .sentinel, .sentinel, .pinned], laidTests := true, laidLooks := .later }
def BlockingSignsCardSaid : Prop := Claim7.holds Tryz.pinned (.plain (OpenSpec.ofChange blockingSignsSpec)) blockingSignsCard

/-- THE TIED CARD OF 'dowellaw21.BlockingPlanes'. -/
def blockingPlanesCard : Claim7 := { stood := { row := blockingPlanesRow, standIns := [], harness := (true, "0510c3589903300e5c3e4826ce6d5d39ad461bcdacc7957fdb64aa4dd865d84a"), looks := true }, kinds := [], alts := [], laidByText := true, laidKinds := [.data, .data, .data, .data, .sentinel, .sentinel, .pinned], laidTests := true, laidLooks := .later }
def BlockingPlanesCardSaid : Prop := Claim7.holds Tryz.pinned (.plain (OpenSpec.ofChange blockingPlanesSpec)) blockingPlanesCard

/-- THE TIED CARD OF 'dowellaw21.BlockingRefuses'. -/
def blockingRefusesCard : Claim7 := { stood := { row := blockingRefusesRow, standIns := [], harness := (true, "0510c3589903300e5c3e4826ce6d5d39ad461bcdacc7957fdb64aa4dd865d84a"), looks := true }, kinds := [], alts := [], laidByText := true, laidKinds := [.data, .data, .data, .data, .sentinel, .sentinel, .pinned], laidTests := true, laidLooks := .later }
def BlockingRefusesCardSaid : Prop := Claim7.holds Tryz.pinned (.plain (OpenSpec.ofChange blockingRefusesSpec)) blockingRefusesCard

/-- THE TIED CARD OF 'dowellaw21.BlockingNil'. -/
def blockingNilCard : Claim7 := { stood := { row := blockingNilRow, standIns := [], harness := (true, "0510c3589903300e5c3e4826ce6d5d39ad461bcdacc7957fdb64aa4dd865d84a"), looks := true }, kinds := [], alts := [], laidByText := true, laidKinds := [.data, .data, .data, .data, .sentinel, .sentinel, .pinned], laidTests := true, laidLooks := .later }
def BlockingNilCardSaid : Prop := Claim7.holds Tryz.pinned (.plain (OpenSpec.ofChange blockingNilSpec)) blockingNilCard

/-- THE SECOND FORM's CARD OF 'dowellaw21.BlockingParts'. -/
def blockingPartsUptoCard : Claim7 := { stood := { row := blockingPartsUptoRow, standIns := [], harness := (true, "0510c3589903300e5c3e4826ce6d5d39ad461bcdacc7957fdb64aa4dd865d84a"), looks := true }, kinds := [], alts := [], laidByText := true, laidKinds := [.data, .data, .data, .data, .sentinel, .sentinel, .pinned], laidTests := true, laidLooks := .later }
def BlockingPartsUptoCardSaid : Prop := Claim7.holds Tryz.pinned (.plain (OpenSpec.upto blockingPartsSpec)) blockingPartsUptoCard

/-- THE SECOND FORM's CARD OF 'dowellaw21.BlockingOpens'. -/
def blockingOpensUptoCard : Claim7 := { stood := { row := blockingOpensUptoRow, standIns := [], harness := (true, "0510c3589903300e5c3e4826ce6d5d39ad461bcdacc7957fdb64aa4dd865d84a"), looks := true }, kinds := [], alts := [], laidByText := true, laidKinds := [.data, .data, .data, .data, .sentinel, .sentinel, .pinned], laidTests := true, laidLooks := .later }
def BlockingOpensUptoCardSaid : Prop := Claim7.holds Tryz.pinned (.plain (OpenSpec.upto blockingOpensSpec)) blockingOpensUptoCard

/-- THE SECOND FORM's CARD OF 'dowellaw21.BlockingVerifies'. -/
def blockingVerifiesUptoCard : Claim7 := { stood := { row := blockingVerifiesUptoRow, standIns := [], harness := (true, "0510c3589903300e5c3e4826ce6d5d39ad461bcdacc7957fdb64aa4dd865d84a"), looks := true }, kinds := [], alts := [], laidByText := true, laidKinds := [.data, .data, .data, .data, .sentinel, .sentinel, .pinned], laidTests := true, laidLooks := .later }
def BlockingVerifiesUptoCardSaid : Prop := Claim7.holds Tryz.pinned (.plain (OpenSpec.upto blockingVerifiesSpec)) blockingVerifiesUptoCard

/-- THE SECOND FORM's CARD OF 'dowellaw21.BlockingArcs'. -/
def blockingArcsUptoCard : Claim7 := { stood := { row := blockingArcsUptoRow, standIns := [], harness := (true, "0510c3589903300e5c3e4826ce6d5d39ad461bcdacc7957fdb64aa4dd865d84a"), looks := true }, kinds := [], alts := [], laidByText := true, laidKinds := [.data, .data, .data, .data, .sentinel, .sentinel, .pinned], laidTests := true, laidLooks := .later }
def BlockingArcsUptoCardSaid : Prop := Claim7.holds Tryz.pinned (.plain (OpenSpec.upto blockingArcsSpec)) blockingArcsUptoCard

/-- THE SECOND FORM's CARD OF 'dowellaw21.BlockingGraphs'. -/
def blockingGraphsUptoCard : Claim7 := { stood := { row := blockingGraphsUptoRow, standIns := [], harness := (true, "0510c3589903300e5c3e4826ce6d5d39ad461bcdacc7957fdb64aa4dd865d84a"), looks := true }, kinds := [], alts := [], laidByText := true, laidKinds := [.data, .data, .data, .data, .sentinel, .sentinel, .pinned], laidTests := true, laidLooks := .later }
def BlockingGraphsUptoCardSaid : Prop := Claim7.holds Tryz.pinned (.plain (OpenSpec.upto blockingGraphsSpec)) blockingGraphsUptoCard

/-- THE SECOND FORM's CARD OF 'dowellaw21.BlockingMoves'. -/
def blockingMovesUptoCard : Claim7 := { stood := { row := blockingMovesUptoRow, standIns := [], harness := (true, "0510c3589903300e5c3e4826ce6d5d39ad461bcdacc7957fdb64aa4dd865d84a"), looks := true }, kinds := [], alts := [], laidByText := true, laidKinds := [.data, .data, .data, .data, .sentinel, .sentinel, .pinned], laidTests := true, laidLooks := .later }
def BlockingMovesUptoCardSaid : Prop := Claim7.holds Tryz.pinned (.plain (OpenSpec.upto blockingMovesSpec)) blockingMovesUptoCard

/-- THE SECOND FORM's CARD OF 'dowellaw21.BlockingSigns'. -/
def blockingSignsUptoCard : Claim7 := { stood := { row := blockingSignsUptoRow, standIns := [], harness := (true, "0510c3589903300e5c3e4826ce6d5d39ad461bcdacc7957fdb64aa4dd865d84a"), looks := true }, kinds := [], alts := [], laidByText := true, laidKinds := [.data, .data, .data, .data, .sentinel, .sentinel, .pinned], laidTests := true, laidLooks := .later }
def BlockingSignsUptoCardSaid : Prop := Claim7.holds Tryz.pinned (.plain (OpenSpec.upto blockingSignsSpec)) blockingSignsUptoCard

/-- THE SECOND FORM's CARD OF 'dowellaw21.BlockingPlanes'. -/
def blockingPlanesUptoCard : Claim7 := { stood := { row := blockingPlanesUptoRow, standIns := [], harness := (true, "0510c3589903300e5c3e4826ce6d5d39ad461bcdacc7957fdb64aa4dd865d84a"), looks := true }, kinds := [], alts := [], laidByText := true, laidKinds := [.data, .data, .data, .data, .sentinel, .sentinel, .pinned], laidTests := true, laidLooks := .later }
def BlockingPlanesUptoCardSaid : Prop := Claim7.holds Tryz.pinned (.plain (OpenSpec.upto blockingPlanesSpec)) blockingPlanesUptoCard

/-- THE SECOND FORM's CARD OF 'dowellaw21.BlockingRefuses'. -/
def blockingRefusesUptoCard : Claim7 := { stood := { row := blockingRefusesUptoRow, standIns := [], harness := (true, "0510c3589903300e5c3e4826ce6d5d39ad461bcdacc7957fdb64aa4dd865d84a"), looks := true }, kinds := [], alts := [], laidByText := true, laidKinds := [.data, .data, .data, .data, .sentinel, .sentinel, .pinned], laidTests := true, laidLooks := .later }
def BlockingRefusesUptoCardSaid : Prop := Claim7.holds Tryz.pinned (.plain (OpenSpec.upto blockingRefusesSpec)) blockingRefusesUptoCard

/-- THE SECOND FORM's CARD OF 'dowellaw21.BlockingNil'. -/
def blockingNilUptoCard : Claim7 := { stood := { row := blockingNilUptoRow, standIns := [], harness := (true, "0510c3589903300e5c3e4826ce6d5d39ad461bcdacc7957fdb64aa4dd865d84a"), looks := true }, kinds := [], alts := [], laidByText := true, laidKinds := [.data, .data, .data, .data, .sentinel, .sentinel, .pinned], laidTests := true, laidLooks := .later }
def BlockingNilUptoCardSaid : Prop := Claim7.holds Tryz.pinned (.plain (OpenSpec.upto blockingNilSpec)) blockingNilUptoCard
end Rows
end Go.Proofs.YtbndbhglmbjfgaaGreatDoor
