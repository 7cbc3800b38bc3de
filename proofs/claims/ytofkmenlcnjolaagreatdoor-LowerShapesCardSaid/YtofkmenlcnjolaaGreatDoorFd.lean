/- The heap that the program's own initialisers leave meets the row's condition; the facts that the witness asks. -/
import Derived.Test.YtofkmenlcnjolaaGreatDoorRows
import Derived.ProofKit
import Derived.LaidMore
import Derived.OpenShut
import Derived.Stop.Joined
namespace Go.Proofs.YtofkmenlcnjolaaGreatDoor
open Go.ChangeShapes Go.WideShapes Go.ChangeAt Go.RowKit
def laid3 : List (String × DataW Unit) := [("math/bits.deBruijn64tab", Rows.laid_math_bits_deBruijn64tab), ("internal/strconv.uint64pow10", Rows.laid_internal_strconv_uint64pow10), ("math/bits.deBruijn32tab", Rows.laid_math_bits_deBruijn32tab)]
def args0 : Array Value := #[.slice none 0 0, .int .i64 0, .int .i64 0]
theorem door_met (os : Os) : laidMetH Tryz.prog laid3 ((World.doorLaid Tryz.prog 400 os).forCall (fun _ _ => 0) ⟨#[], args0, []⟩).memory :=
  laidMetH_of_parts3 (fuel := 8) (laidMet_of_run' 8 (by kernel_rfl) (by kernel_rfl)) (by kernel_rfl) (by kernel_rfl)
theorem own : ownKnob Tryz.prog.godebug = none := by kernel_rfl
theorem noInit3 : Tryz.prog.inits.idxOf? 3 = none := by kernel_rfl
noncomputable def W0 (os : Os) : World := (World.doorLaid Tryz.prog 400 os).forCall (fun _ _ => 0) ⟨#[], args0, []⟩
theorem wi1 (os : Os) : (W0 os).variablesRefB Tryz.prog = true := by kernel_rfl
theorem wi2 (os : Os) : ((W0 os).heap.toList.drop Tryz.prog.globals.size).take ((begin Tryz.prog (fun _ _ => 0) default).world.heap.size - Tryz.prog.globals.size) = (begin Tryz.prog (fun _ _ => 0) default).world.heap.toList.drop Tryz.prog.globals.size := by kernel_rfl
theorem wi3 (os : Os) : Input.okWideB Tryz.prog (W0 os) 3 ⟨#[], args0, []⟩ = true := by kernel_rfl
theorem wi4 (os : Os) (H : Type) (enc : TypeId × Value → H) : Rows.lowerShapesSpec.preB enc Tryz.prog Tryz.f3 [] false (W0 os).memory args0 8 = true := by kernel_rfl
theorem wi5 (os : Os) (H : Type) (enc : TypeId × Value → H) : Rows.lowerShapesSpec.sizedB enc Tryz.prog Tryz.f3 false (W0 os).memory args0 8 = true := by kernel_rfl
end Go.Proofs.YtofkmenlcnjolaaGreatDoor
