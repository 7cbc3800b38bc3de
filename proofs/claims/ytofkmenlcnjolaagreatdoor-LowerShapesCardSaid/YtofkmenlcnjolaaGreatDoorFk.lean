/- LowerShapes: for every list and all numbers vars and degree the call returns true: the row, and its card, tied to the program's text. Conditions: none beyond the card's own: the tables of math/bits and internal/strconv hold what the program's text lays in them. -/
import Derived.Test.YtofkmenlcnjolaaGreatDoorFj
import Derived.Test.YtofkmenlcnjolaaGreatDoorFl
import Derived.Test.YtofkmenlcnjolaaGreatDoorFm
import Derived.Test.YtofkmenlcnjolaaGreatDoorTj
namespace Go.Proofs.YtofkmenlcnjolaaGreatDoor
open Go
theorem lowerShapes_holds : Rows.lowerShapesRow.holds Tryz.pinned (OpenSpec.ofChange Rows.lowerShapesSpec) :=
  OpenClaim.holds_of_wide 3 Tryz.f3 rfl rfl rfl rfl rfl rfl rfl ⟨rfl, rfl, rfl, rfl, rfl⟩ rfl rfl rfl rfl rfl row_named Tryz.func3 row_facts row_inst row_wrap
    (fun os started H enc _ => lifted os started H enc)
theorem own_row_tie : Rows.lowerShapesRow.laidByTextAt .later Tryz.pinned [.data, .data, .data] true :=
  OpenClaim.laidByTextAt_later rfl rfl own_tie tie_u
theorem card_holds : Rows.LowerShapesCardSaid :=
  Claim7.holds_tied_plain_at .later [] [.data, .data, .data] true (true, "14af54fcc902f6906cc58db1e926f93a401b3535795834ae80603649509799ea") true
    lowerShapes_holds (fun _ h => by cases h) card_wf (fun _ h => by cases h) own_row_tie rfl ⟨rfl, rfl⟩ card_main rfl card_looks card_goes
end Go.Proofs.YtofkmenlcnjolaaGreatDoor
