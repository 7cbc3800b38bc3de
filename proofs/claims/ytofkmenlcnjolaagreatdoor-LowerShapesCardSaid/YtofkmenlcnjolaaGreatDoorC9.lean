/- Calls of the program that are known once and for all, part 9: each is checked by the kernel with the evaluator. -/
import Derived.Test.YtofkmenlcnjolaaGreatDoorBase
import Derived.Test.YtofkmenlcnjolaaGreatDoorC0
import Derived.Test.YtofkmenlcnjolaaGreatDoorC3
import Derived.Test.YtofkmenlcnjolaaGreatDoorC4
import Derived.Test.YtofkmenlcnjolaaGreatDoorC5
import Derived.Test.YtofkmenlcnjolaaGreatDoorC6
import Derived.Test.YtofkmenlcnjolaaGreatDoorC8
namespace Go.Proofs.YtofkmenlcnjolaaGreatDoor
open Go.Ev
noncomputable def e861 : Ent := ⟨10,[(A [I 1,S 8 0 1])],gl ++ [(C [(.str [49]),S 9 0 1]),(C [I 3])],(T [z,(.str [45,49]),o,I 0]),[]⟩
noncomputable def e1029 : Ent := ⟨10,[(A [I 1,S 8 0 1])],gl ++ [(C [(.str [49]),S 9 0 1]),(C [I 5])],(T [z,(.str [45,49]),o,I 0]),[]⟩
noncomputable def e1200 : Ent := ⟨10,[(A [I 1,S 8 0 1])],gl ++ [(C [(.str [49]),S 9 0 1]),(C [I 7])],(T [z,(.str [45,49]),o,I 0]),[]⟩
noncomputable def e1371 : Ent := ⟨10,[(A [I 1,S 8 0 1])],gl ++ [(C [(.str [49]),S 9 0 1]),(C [I 9])],(T [z,(.str [45,49]),o,I 0]),[]⟩
noncomputable def e749 : Ent := ⟨20,[S 8 0 3],gl0 ++ [(C [(.str [48]),(.str [48]),(.str [49])])],(T [i,I 0]),[]⟩
noncomputable def e931 : Ent := ⟨20,[S 8 0 5],gl0 ++ [(C [(.str [48]),(.str [48]),(.str [48]),(.str [48]),(.str [49])])],(T [i,I 0]),[]⟩
noncomputable def e1103 : Ent := ⟨20,[S 8 0 7],gl0 ++ [(C [(.str [48]),(.str [48]),(.str [48]),(.str [48]),(.str [48]),(.str [48]),(.str [49])])],(T [i,I 0]),[]⟩
noncomputable def e1274 : Ent := ⟨20,[S 8 0 9],gl0 ++ [(C [(.str [48]),(.str [48]),(.str [48]),(.str [48]),(.str [48]),(.str [48]),(.str [48]),(.str [48]),(.str [49])])],(T [i,I 0]),[]⟩
noncomputable def e1445 : Ent := ⟨20,[S 8 0 11],gl0 ++ [(C [(.str [48]),(.str [48]),(.str [48]),(.str [48]),(.str [48]),(.str [48]),(.str [48]),(.str [48]),(.str [48]),(.str [48]),(.str [49])])],(T [i,I 0]),[]⟩
noncomputable def e772 : Ent := ⟨22,[S 8 0 3],gl0 ++ [(C [(.str [48]),(.str [48]),(.str [49])])],K 9 0 1 1,[[(.str [49]),K 10 0 2 2],[(.str [48]),(.str [49])]]⟩
noncomputable def e941 : Ent := ⟨22,[S 8 0 5],gl0 ++ [(C [(.str [48]),(.str [48]),(.str [48]),(.str [48]),(.str [49])])],K 9 0 1 1,[[(.str [49]),K 10 0 3 3],[(.str [48]),(.str [48]),(.str [49])]]⟩
noncomputable def e1112 : Ent := ⟨22,[S 8 0 7],gl0 ++ [(C [(.str [48]),(.str [48]),(.str [48]),(.str [48]),(.str [48]),(.str [48]),(.str [49])])],K 9 0 1 1,[[(.str [49]),K 10 0 4 4],[(.str [48]),(.str [48]),(.str [48]),(.str [49])]]⟩
noncomputable def e1283 : Ent := ⟨22,[S 8 0 9],gl0 ++ [(C [(.str [48]),(.str [48]),(.str [48]),(.str [48]),(.str [48]),(.str [48]),(.str [48]),(.str [48]),(.str [49])])],K 9 0 1 1,[[(.str [49]),K 10 0 5 5],[(.str [48]),(.str [48]),(.str [48]),(.str [48]),(.str [49])]]⟩
noncomputable def e1454 : Ent := ⟨22,[S 8 0 11],gl0 ++ [(C [(.str [48]),(.str [48]),(.str [48]),(.str [48]),(.str [48]),(.str [48]),(.str [48]),(.str [48]),(.str [48]),(.str [48]),(.str [49])])],K 9 0 1 1,[[(.str [49]),K 10 0 6 6],[(.str [48]),(.str [48]),(.str [48]),(.str [48]),(.str [48]),(.str [49])]]⟩
noncomputable def c42 : List Ent := [e861,e1029,e1200,e1371,e749,e931,e1103,e1274,e1445,e772,e941,e1112,e1283,e1454]
noncomputable def d42 : List Ent := (lapp c25 (lapp c31 (lapp c36 (lapp c40 c41))))
theorem c42_h : lall (entB (cfE d42)) c42 = true := by decide +kernel
theorem c42_ok : ∀ e ∈ c42, EntOk Tryz.prog 8 e := mkOk (deps := d42) (memApp c25_ok (memApp c31_ok (memApp c36_ok (memApp c40_ok c41_ok)))) c42_h
noncomputable def e783 : Ent := ⟨10,[(A [I 1,S 8 0 1])],gl0 ++ [(C [(.str [49]),S 9 0 1]),(C [I 2])],(T [S 10 0 1,(.str []),i,I 0]),[[(.str [49]),(.str [48]),I 1,I 1,.cell,I 1,z]]⟩
noncomputable def e951 : Ent := ⟨10,[(A [I 1,S 8 0 1])],gl0 ++ [(C [(.str [49]),S 9 0 1]),(C [I 4])],(T [S 10 0 1,(.str []),i,I 0]),[[(.str [49]),(.str [48]),I 1,I 1,.cell,I 1,z]]⟩
noncomputable def e1122 : Ent := ⟨10,[(A [I 1,S 8 0 1])],gl0 ++ [(C [(.str [49]),S 9 0 1]),(C [I 6])],(T [S 10 0 1,(.str []),i,I 0]),[[(.str [49]),(.str [48]),I 1,I 1,.cell,I 1,z]]⟩
noncomputable def e1293 : Ent := ⟨10,[(A [I 1,S 8 0 1])],gl0 ++ [(C [(.str [49]),S 9 0 1]),(C [I 8])],(T [S 10 0 1,(.str []),i,I 0]),[[(.str [49]),(.str [48]),I 1,I 1,.cell,I 1,z]]⟩
noncomputable def e1464 : Ent := ⟨10,[(A [I 1,S 8 0 1])],gl0 ++ [(C [(.str [49]),S 9 0 1]),(C [I 10])],(T [S 10 0 1,(.str []),i,I 0]),[[(.str [49]),(.str [48]),I 1,I 1,.cell,I 1,z]]⟩
noncomputable def c43 : List Ent := [e783,e951,e1122,e1293,e1464]
noncomputable def d43 : List Ent := (lapp c0 (lapp c25 (lapp c31 (lapp c32 (lapp c33 (lapp c36 c42))))))
theorem c43_h : lall (entB (cfE d43)) c43 = true := by decide +kernel
theorem c43_ok : ∀ e ∈ c43, EntOk Tryz.prog 8 e := mkOk (deps := d43) (memApp c0_ok (memApp c25_ok (memApp c31_ok (memApp c32_ok (memApp c33_ok (memApp c36_ok c42_ok)))))) c43_h
end Go.Proofs.YtofkmenlcnjolaaGreatDoor
