/- Closed facts on the card of LowerShapes. -/
import Derived.Test.YtofkmenlcnjolaaGreatDoorCards
import Derived.ProofKit
import Derived.SevenTiedAt
import Derived.Test.YtofkmenlcnjolaaGreatDoorFn
namespace Go.Proofs.YtofkmenlcnjolaaGreatDoor
open Go
theorem card_wf : Rows.lowerShapesRow.wfByText (OpenSpec.ofChange Rows.lowerShapesSpec) = true := by kernel_rfl
theorem card_main : Tryz.pinned.checked.prog.mainIs = some (true, "14af54fcc902f6906cc58db1e926f93a401b3535795834ae80603649509799ea".toList) := by kernel_rfl
theorem card_named : Tryz.prog.funcNamed "sosopt/sosoptlaw31.LowerShapes" = some 3 := by kernel_rfl
theorem card_look : true = Tryz.pinned.checked.prog.looks [] := by kernel_rfl
theorem card_stand : ([22, 3].all fun u => !Tryz.prog.wantsStandIn u) = true := by kernel_rfl
theorem card_looks : ∀ f fn, Tryz.pinned.checked.prog.funcNamed Rows.lowerShapesRow.func = some f → Tryz.pinned.checked.prog.funcs[f]? = some fn → true = Tryz.pinned.checked.prog.looks [] ∧ ∀ (j : Nat) t, fn.params[j]? = some t → Tryz.pinned.checked.prog.wantsStandIn t = false := by
  intro f fn hf hfn
  obtain rfl : f = 3 := Option.some.inj (card_named.symm.trans hf) |>.symm
  obtain rfl : fn = Tryz.f3 := (Option.some.inj (Tryz.func3.symm.trans hfn)).symm
  refine ⟨card_look, fun j t ht => ?_⟩
  rw [Tryz.params3] at ht
  have hm : t ∈ [22, 3, 3] := by simpa using Array.mem_of_getElem? ht
  have hm' : t ∈ [22, 3] := by simp at hm ⊢; exact hm
  show Tryz.prog.wantsStandIn t = false
  simpa using List.all_eq_true.1 card_stand t hm'
theorem any_no (o : Option FuncId) : (o.any Tryz.prog.goes || false) = false := by
  cases o with
  | none => rfl
  | some f => rw [Option.any_some, goes_no]; rfl
theorem card_goes : false = Rows.lowerShapesRow.goesBy Tryz.pinned.checked.prog := (any_no (Tryz.prog.funcNamed Rows.lowerShapesRow.func)).symm
end Go.Proofs.YtofkmenlcnjolaaGreatDoor
