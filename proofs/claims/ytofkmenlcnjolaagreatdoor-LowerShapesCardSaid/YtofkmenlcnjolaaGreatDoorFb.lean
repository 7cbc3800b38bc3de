/- Closed facts on the row of LowerShapes, part two. -/
import Derived.Test.YtofkmenlcnjolaaGreatDoorRows
import Derived.ProofKit
import Derived.Stop.Joined
namespace Go.Proofs.YtofkmenlcnjolaaGreatDoor
open Go
theorem jf10 : ((Rows.lowerShapesRow.unfollowed == Tryz.prog.unfollowed 3)) = true := by kernel_rfl
theorem jf11 : ((Rows.lowerShapesRow.recurses == Tryz.prog.recurses 3)) = true := by kernel_rfl
theorem jf12 : ((Rows.lowerShapesRow.named == Tryz.prog.varsNamed 3)) = true := by kernel_rfl
end Go.Proofs.YtofkmenlcnjolaaGreatDoor
