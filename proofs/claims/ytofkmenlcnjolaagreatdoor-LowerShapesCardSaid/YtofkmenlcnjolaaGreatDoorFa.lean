/- Closed facts on the row of LowerShapes, part one. -/
import Derived.Test.YtofkmenlcnjolaaGreatDoorRows
import Derived.ProofKit
import Derived.Stop.Joined
namespace Go.Proofs.YtofkmenlcnjolaaGreatDoor
open Go
theorem jf0 : (Rows.lowerShapesRow.wf (OpenSpec.ofChange Rows.lowerShapesSpec)) = true := by kernel_rfl
theorem jf2 : (mapsRowed Tryz.prog) = true := by kernel_rfl
theorem jf3 : (Tryz.f3.params.all (Tryz.prog.readableRec ·)) = true := by kernel_rfl
theorem jf4 : (namedTie Tryz.prog Rows.lowerShapesRow.named Rows.lowerShapesSpec.vars) = true := by kernel_rfl
theorem jf5 : ((Rows.lowerShapesRow.stops == [])) = true := by kernel_rfl
theorem jf6 : ((Tryz.prog.stops == [])) = true := by kernel_rfl
theorem jf7 : ((Rows.lowerShapesRow.knobs == [])) = true := by kernel_rfl
theorem jf8 : ((Tryz.prog.stopKnobs == [])) = true := by kernel_rfl
theorem jf9 : ((Rows.lowerShapesRow.inPlace == Tryz.prog.inPlace 3)) = true := by kernel_rfl
end Go.Proofs.YtofkmenlcnjolaaGreatDoor
