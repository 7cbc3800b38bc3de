/- Calls of the program that are known once and for all, part 4: each is checked by the kernel with the evaluator. -/
import Derived.Test.YtofkmenlcnjolaaGreatDoorBase
import Derived.Test.YtofkmenlcnjolaaGreatDoorC0
import Derived.Test.YtofkmenlcnjolaaGreatDoorC2
import Derived.Test.YtofkmenlcnjolaaGreatDoorC3
namespace Go.Proofs.YtofkmenlcnjolaaGreatDoor
open Go.Ev
noncomputable def e545 : Ent := ⟨23,[S 8 0 1,I 1,I 0],gl0 ++ [(C [(.str [49])])],(T [(A [I 1,.cell]),I 0]),[]⟩
noncomputable def e782 : Ent := ⟨23,[S 8 0 2,I 1,I 0],gl0 ++ [(C [(.str [48]),(.str [49])])],(T [(A [I 1,.cell]),I 0]),[]⟩
noncomputable def e950 : Ent := ⟨23,[S 8 0 3,I 1,I 0],gl0 ++ [(C [(.str [48]),(.str [48]),(.str [49])])],(T [(A [I 1,.cell]),I 0]),[]⟩
noncomputable def e1121 : Ent := ⟨23,[S 8 0 4,I 1,I 0],gl0 ++ [(C [(.str [48]),(.str [48]),(.str [48]),(.str [49])])],(T [(A [I 1,.cell]),I 0]),[]⟩
noncomputable def e1292 : Ent := ⟨23,[S 8 0 5,I 1,I 0],gl0 ++ [(C [(.str [48]),(.str [48]),(.str [48]),(.str [48]),(.str [49])])],(T [(A [I 1,.cell]),I 0]),[]⟩
noncomputable def c32 : List Ent := [e545,e782,e950,e1121,e1292]
noncomputable def d32 : List Ent := [e64,e66,e102,e157,e316,e351,e418,e450,e544,e585,e774,e775,e781,e790,e868,e943,e949,e1114,e1120,e1285,e1291]
theorem c32_h : lall (entB (cfA d32)) c32 = true := by decide +kernel
theorem c32_ok : ∀ e ∈ c32, EntOk Tryz.prog 8 e := mkOkA (deps := d32) (cons1 (at1 c13_ok 65 rfl) (cons1 (at1 c3_ok 203 rfl) (cons1 (at1 c3_ok 8 rfl) (cons1 (at1 c3_ok 10 rfl) (cons1 (at1 c19_ok 83 rfl) (cons1 (at1 c3_ok 13 rfl) (cons1 (at1 c3_ok 208 rfl) (cons1 (at1 c5_ok 183 rfl) (cons1 (at1 c31_ok 39 rfl) (cons1 (at1 c13_ok 71 rfl) (cons1 (at1 c31_ok 40 rfl) (cons1 (at1 c5_ok 184 rfl) (cons1 (at1 c19_ok 84 rfl) (cons1 (at1 c3_ok 18 rfl) (cons1 (at1 c3_ok 19 rfl) (cons1 (at1 c31_ok 41 rfl) (cons1 (at1 c19_ok 85 rfl) (cons1 (at1 c31_ok 42 rfl) (cons1 (at1 c19_ok 86 rfl) (cons1 (at1 c31_ok 43 rfl) (cons1 (at1 c19_ok 87 rfl) noEnt))))))))))))))))))))) c32_h
end Go.Proofs.YtofkmenlcnjolaaGreatDoor
