/-
  DERIVED. GIVEN WITH THE SEED: THE CARDS: each row of YtddhncjmaahodaaGreatDoorRows.lean that lists a variable, with what it lists TIED to the program's text (the seventh form; the later family's looks); each row that meets fmt, with fmt's text TOLD by the authors' own Lean function (tested against real Go, not proved from fmt's source: count such statements apart). THE CARD IS WHAT COUNTS. Prove the row's statement (the work); the ties are given (YtddhncjmaahodaaGreatDoorTie.lean); close each card by the builder's one call (the guide's Derived/Test/ToyasCard.lean, 'card_holds'). Laid BY PROGRAM, IN A SANDBOX (cutbox-door.mjs). By AI agents, Wed Nov 11 2026. No macro, syntax, notation, axiom, sorry.
-/
import Derived.Test.YtddhncjmaahodaaGreatDoorRows
import GoSem.ClaimSeven
namespace Go.Proofs.YtddhncjmaahodaaGreatDoor
namespace Rows

/-- THE TIED CARD OF 'sosoptlaw40.TreeRegions'. -/
def treeRegionsCard : Claim7 := { stood := { row := treeRegionsRow, standIns := [], harness := (true, "4c8dd576b03dcf5da98673c7924642f499d014415c0c6d845c2075c951f41aec"), looks := false }, kinds := [], alts := [], laidByText := true, laidKinds := [.data, .data, .data], laidTests := true, laidLooks := .later }
def TreeRegionsCardSaid : Prop := Claim7.holds Tryz.pinned (.plain (OpenSpec.ofChange treeRegionsSpec)) treeRegionsCard

/-- THE TIED CARD OF 'sosoptlaw40.TreeLocates'. -/
def treeLocatesCard : Claim7 := { stood := { row := treeLocatesRow, standIns := [], harness := (true, "4c8dd576b03dcf5da98673c7924642f499d014415c0c6d845c2075c951f41aec"), looks := false }, kinds := [], alts := [], laidByText := true, laidKinds := [.data, .data, .data], laidTests := true, laidLooks := .later }
def TreeLocatesCardSaid : Prop := Claim7.holds Tryz.pinned (.plain (OpenSpec.ofChange treeLocatesSpec)) treeLocatesCard

/-- THE TIED CARD OF 'sosoptlaw40.TreeCovers'. -/
def treeCoversCard : Claim7 := { stood := { row := treeCoversRow, standIns := [], harness := (true, "4c8dd576b03dcf5da98673c7924642f499d014415c0c6d845c2075c951f41aec"), looks := false }, kinds := [], alts := [], laidByText := true, laidKinds := [.data, .data, .data], laidTests := true, laidLooks := .later }
def TreeCoversCardSaid : Prop := Claim7.holds Tryz.pinned (.plain (OpenSpec.ofChange treeCoversSpec)) treeCoversCard

/-- THE TIED CARD OF 'sosoptlaw40.TreeDivides'. -/
def treeDividesCard : Claim7 := { stood := { row := treeDividesRow, standIns := [], harness := (true, "4c8dd576b03dcf5da98673c7924642f499d014415c0c6d845c2075c951f41aec"), looks := false }, kinds := [], alts := [], laidByText := true, laidKinds := [.data, .data, .data], laidTests := true, laidLooks := .later }
def TreeDividesCardSaid : Prop := Claim7.holds Tryz.pinned (.plain (OpenSpec.ofChange treeDividesSpec)) treeDividesCard

/-- THE SECOND FORM's CARD OF 'sosoptlaw40.TreeRegions'. -/
def treeRegionsUptoCard : Claim7 := { stood := { row := treeRegionsUptoRow, standIns := [], harness := (true, "4c8dd576b03dcf5da98673c7924642f499d014415c0c6d845c2075c951f41aec"), looks := false }, kinds := [], alts := [], laidByText := true, laidKinds := [.data, .data, .data], laidTests := true, laidLooks := .later }
def TreeRegionsUptoCardSaid : Prop := Claim7.holds Tryz.pinned (.plain (OpenSpec.upto treeRegionsSpec)) treeRegionsUptoCard

/-- THE SECOND FORM's CARD OF 'sosoptlaw40.TreeLocates'. -/
def treeLocatesUptoCard : Claim7 := { stood := { row := treeLocatesUptoRow, standIns := [], harness := (true, "4c8dd576b03dcf5da98673c7924642f499d014415c0c6d845c2075c951f41aec"), looks := false }, kinds := [], alts := [], laidByText := true, laidKinds := [.data, .data, .data], laidTests := true, laidLooks := .later }
def TreeLocatesUptoCardSaid : Prop := Claim7.holds Tryz.pinned (.plain (OpenSpec.upto treeLocatesSpec)) treeLocatesUptoCard

/-- THE SECOND FORM's CARD OF 'sosoptlaw40.TreeCovers'. -/
def treeCoversUptoCard : Claim7 := { stood := { row := treeCoversUptoRow, standIns := [], harness := (true, "4c8dd576b03dcf5da98673c7924642f499d014415c0c6d845c2075c951f41aec"), looks := false }, kinds := [], alts := [], laidByText := true, laidKinds := [.data, .data, .data], laidTests := true, laidLooks := .later }
def TreeCoversUptoCardSaid : Prop := Claim7.holds Tryz.pinned (.plain (OpenSpec.upto treeCoversSpec)) treeCoversUptoCard

/-- THE SECOND FORM's CARD OF 'sosoptlaw40.TreeDivides'. -/
def treeDividesUptoCard : Claim7 := { stood := { row := treeDividesUptoRow, standIns := [], harness := (true, "4c8dd576b03dcf5da98673c7924642f499d014415c0c6d845c2075c951f41aec"), looks := false }, kinds := [], alts := [], laidByText := true, laidKinds := [.data, .data, .data], laidTests := true, laidLooks := .later }
def TreeDividesUptoCardSaid : Prop := Claim7.holds Tryz.pinned (.plain (OpenSpec.upto treeDividesSpec)) treeDividesUptoCard
end Rows
end Go.Proofs.YtddhncjmaahodaaGreatDoor
