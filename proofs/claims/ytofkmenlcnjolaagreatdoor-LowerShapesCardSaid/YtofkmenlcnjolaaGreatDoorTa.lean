/- Facts of the tie of the tables to the program's text. -/
import Derived.Test.YtofkmenlcnjolaaGreatDoorRows
import Derived.LaidByTextLater
import Derived.SevenTiedAt
namespace Go.Proofs.YtofkmenlcnjolaaGreatDoor
open Go
theorem tie_w1 : Tryz.prog.worded (varsWordLater true) = true := by kernel_rfl
theorem tie_w2 : Tryz.prog.worded (varsWordLater false) = false := by kernel_rfl
theorem tie_w3 : Tryz.prog.worded rootWordLater = true := by kernel_rfl
theorem tie_g : (Tryz.prog.funcNamed "gosem.cut.vars").isSome = true := by kernel_rfl
theorem tie_u : Tryz.pinned.checked.prog.headLifts.contains "ownunsafe" = false := by kernel_rfl
end Go.Proofs.YtofkmenlcnjolaaGreatDoor
