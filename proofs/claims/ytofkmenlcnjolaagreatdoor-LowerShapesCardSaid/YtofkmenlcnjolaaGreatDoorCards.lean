/-
  DERIVED. GIVEN WITH THE SEED: THE CARDS: each row of YtofkmenlcnjolaaGreatDoorRows.lean that lists a variable, with what it lists TIED to the program's text (the seventh form; the later family's looks); each row that meets fmt, with fmt's text TOLD by the authors' own Lean function (tested against real Go, not proved from fmt's source: count such statements apart). THE CARD IS WHAT COUNTS. Prove the row's statement (the work); the ties are given (YtofkmenlcnjolaaGreatDoorTie.lean); close each card by the builder's one call (the guide's Derived/Test/ToyasCard.lean, 'card_holds'). Laid BY PROGRAM, IN A SANDBOX (cutbox-door.mjs). By AI agents, Wed Nov 11 2026. No macro, syntax, notation, axiom, sorry.
-/
import Derived.Test.YtofkmenlcnjolaaGreatDoorRows
import GoSem.ClaimSeven
namespace Go.Proofs.YtofkmenlcnjolaaGreatDoor
namespace Rows

/-- THE TIED CARD OF 'sosoptlaw31.LowerShapes'. -/
def lowerShapesCard : Claim7 := { stood := { row := lowerShapesRow, standIns := [], harness := (true, "14af54fcc902f6906cc58db1e926f93a401b3535795834ae80603649509799ea"), looks := true }, kinds := [], alts := [], laidByText := true, laidKinds := [.data, .data, .data], laidTests := true, laidLooks := .later }
def LowerShapesCardSaid : Prop := Claim7.holds Tryz.pinned (.plain (OpenSpec.ofChange lowerShapesSpec)) lowerShapesCard

/-- THE SECOND FORM's CARD OF 'sosoptlaw31.LowerShapes'. -/
def lowerShapesUptoCard : Claim7 := { stood := { row := lowerShapesUptoRow, standIns := [], harness := (true, "14af54fcc902f6906cc58db1e926f93a401b3535795834ae80603649509799ea"), looks := true }, kinds := [], alts := [], laidByText := true, laidKinds := [.data, .data, .data], laidTests := true, laidLooks := .later }
def LowerShapesUptoCardSaid : Prop := Claim7.holds Tryz.pinned (.plain (OpenSpec.upto lowerShapesSpec)) lowerShapesUptoCard
end Rows
end Go.Proofs.YtofkmenlcnjolaaGreatDoor
