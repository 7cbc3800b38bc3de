/- The closed runs with 2 variables, the tape's number being 0. -/
import Derived.Test.YtofkmenlcnjolaaGreatDoorHr
namespace Go.Proofs.YtofkmenlcnjolaaGreatDoor
open Go.Ev
theorem tl20 (p : Pk) (tb tb' : AObj) : lmap (fun d => tailB p 2 (I d) 0 tb tb') [0,1,2,3,4,5,6,7,8,9,10,11,12,13,14,15,16,17,18,19,20,21,22,23,24] = lrep (g9 p) 25 := by kernel_rfl
end Go.Proofs.YtofkmenlcnjolaaGreatDoor
