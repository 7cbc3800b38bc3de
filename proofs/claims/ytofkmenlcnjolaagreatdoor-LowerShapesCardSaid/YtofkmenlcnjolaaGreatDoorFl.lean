/- Closed facts on the row of LowerShapes, joined. -/
import Derived.Test.YtofkmenlcnjolaaGreatDoorFa
import Derived.Test.YtofkmenlcnjolaaGreatDoorFb
import Derived.Test.YtofkmenlcnjolaaGreatDoorFc
import Derived.Test.YtofkmenlcnjolaaGreatDoorFn
namespace Go.Proofs.YtofkmenlcnjolaaGreatDoor
open Go
theorem row_named : Tryz.pinned.checked.prog.funcNamed Rows.lowerShapesRow.func = some 3 := by kernel_rfl
theorem row_inst : Tryz.f3.isInstance Tryz.pinned.checked.prog Rows.lowerShapesRow.origin Rows.lowerShapesRow.targs := of_decide_eq_true (by kernel_rfl)
theorem row_wrap : Tryz.f3.isWrapper Tryz.pinned.checked.prog Rows.lowerShapesRow.wrapper Rows.lowerShapesRow.mainSum := by
  unfold Func.isWrapper
  first | (rw [if_pos (by decide +kernel)]; kernel_rfl) | (rw [if_neg (by decide +kernel)]; exact ⟨rfl, rfl⟩)
theorem and32 {b0 b1 b2 b3 b4 b5 b6 b7 b8 b9 b10 b11 b12 b13 b14 b15 b16 b17 b18 b19 b20 b21 b22 b23 b24 b25 b26 b27 b28 b29 b30 b31 : Bool} (h0 : b0 = true) (h1 : b1 = true) (h2 : b2 = true) (h3 : b3 = true) (h4 : b4 = true) (h5 : b5 = true) (h6 : b6 = true) (h7 : b7 = true) (h8 : b8 = true) (h9 : b9 = true) (h10 : b10 = true) (h11 : b11 = true) (h12 : b12 = true) (h13 : b13 = true) (h14 : b14 = true) (h15 : b15 = true) (h16 : b16 = true) (h17 : b17 = true) (h18 : b18 = true) (h19 : b19 = true) (h20 : b20 = true) (h21 : b21 = true) (h22 : b22 = true) (h23 : b23 = true) (h24 : b24 = true) (h25 : b25 = true) (h26 : b26 = true) (h27 : b27 = true) (h28 : b28 = true) (h29 : b29 = true) (h30 : b30 = true) (h31 : b31 = true) : (b0 && b1 && b2 && b3 && b4 && b5 && b6 && b7 && b8 && b9 && b10 && b11 && b12 && b13 && b14 && b15 && b16 && b17 && b18 && b19 && b20 && b21 && b22 && b23 && b24 && b25 && b26 && b27 && b28 && b29 && b30 && b31) = true := by
  subst h0 h1 h2 h3 h4 h5 h6 h7 h8 h9 h10 h11 h12 h13 h14 h15 h16 h17 h18 h19 h20 h21 h22 h23 h24 h25 h26 h27 h28 h29 h30 h31
  rfl
set_option maxRecDepth 100000 in
theorem row_facts : joinedFacts Tryz.prog 3 Tryz.f3 Rows.lowerShapesSpec Rows.lowerShapesRow = true :=
  and32 jf0 laidOut jf2 jf3 jf4 jf5 jf6 jf7 jf8 jf9 jf10 jf11 jf12 jf13 jf14 jf15 jf16 jf17 jf18 jf19 jf20 jf21 jf22 jf23 jf24 jf25 jf26 jf27 jf28 jf29 jf30 jf31
end Go.Proofs.YtofkmenlcnjolaaGreatDoor
