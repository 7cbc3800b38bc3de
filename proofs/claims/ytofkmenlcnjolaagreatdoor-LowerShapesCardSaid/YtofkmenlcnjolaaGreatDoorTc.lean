/- Facts of the tie of the tables to the program's text. -/
import Derived.Test.YtofkmenlcnjolaaGreatDoorRows
import Derived.LaidByTextLater
import Derived.SevenTiedAt
namespace Go.Proofs.YtofkmenlcnjolaaGreatDoor
open Go
theorem tie_d : ∀ os tape, varsDone Tryz.prog 400 (varsId Tryz.prog) os tape = true := fun _ _ => by kernel_rfl
end Go.Proofs.YtofkmenlcnjolaaGreatDoor
