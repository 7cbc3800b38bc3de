/- The closed runs with 3 variables, the tape's number being 2. -/
import Derived.Test.YtofkmenlcnjolaaGreatDoorHr
namespace Go.Proofs.YtofkmenlcnjolaaGreatDoor
open Go.Ev
theorem tl32 (p : Pk) (tb tb' : AObj) : lmap (fun d => tailB p 3 (I d) 2 tb tb') [0,1,2,3,4,5,6,7,8,9,10,11,12,13,14,15,16,17,18,19,20,21,22,23,24] = lrep (g9 p) 25 := by kernel_rfl
end Go.Proofs.YtofkmenlcnjolaaGreatDoor
