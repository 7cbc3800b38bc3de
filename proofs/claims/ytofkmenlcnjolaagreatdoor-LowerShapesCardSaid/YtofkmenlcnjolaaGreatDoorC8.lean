/- Calls of the program that are known once and for all, part 8: each is checked by the kernel with the evaluator. -/
import Derived.Test.YtofkmenlcnjolaaGreatDoorBase
import Derived.Test.YtofkmenlcnjolaaGreatDoorC0
import Derived.Test.YtofkmenlcnjolaaGreatDoorC1
import Derived.Test.YtofkmenlcnjolaaGreatDoorC2
import Derived.Test.YtofkmenlcnjolaaGreatDoorC3
import Derived.Test.YtofkmenlcnjolaaGreatDoorC4
import Derived.Test.YtofkmenlcnjolaaGreatDoorC6
import Derived.Test.YtofkmenlcnjolaaGreatDoorC7
namespace Go.Proofs.YtofkmenlcnjolaaGreatDoor
open Go.Ev
noncomputable def e547 : Ent := ⟨10,[(A [I 1,S 8 0 1])],gl0 ++ [(C [(.str [49]),S 9 0 1]),(C [I 0])],(T [S 10 0 1,(.str []),i,I 0]),[[(.str [49]),(.str [48]),I 1,I 1,.cell,I 1,z]]⟩
noncomputable def e465 : Ent := ⟨13,[],gl ++ [],i,[]⟩
noncomputable def e860 : Ent := ⟨21,[S 8 0 4],gl ++ [(C [(.str [48]),(.str [48]),(.str [48]),(.str [49])])],(.str [45,49]),[]⟩
noncomputable def e1028 : Ent := ⟨21,[S 8 0 6],gl ++ [(C [(.str [48]),(.str [48]),(.str [48]),(.str [48]),(.str [48]),(.str [49])])],(.str [45,49]),[]⟩
noncomputable def e1199 : Ent := ⟨21,[S 8 0 8],gl ++ [(C [(.str [48]),(.str [48]),(.str [48]),(.str [48]),(.str [48]),(.str [48]),(.str [48]),(.str [49])])],(.str [45,49]),[]⟩
noncomputable def c40 : List Ent := [e547,e465,e860,e1028,e1199]
noncomputable def d40 : List Ent := (lapp c0 (lapp c5 (lapp c7 (lapp c13 (lapp c25 (lapp c31 (lapp c32 (lapp c36 c39))))))))
theorem c40_h : lall (entB (cfE d40)) c40 = true := by decide +kernel
theorem c40_ok : ∀ e ∈ c40, EntOk Tryz.prog 8 e := mkOk (deps := d40) (memApp c0_ok (memApp c5_ok (memApp c7_ok (memApp c13_ok (memApp c25_ok (memApp c31_ok (memApp c32_ok (memApp c36_ok c39_ok)))))))) c40_h
noncomputable def e1370 : Ent := ⟨21,[S 8 0 10],gl ++ [(C [(.str [48]),(.str [48]),(.str [48]),(.str [48]),(.str [48]),(.str [48]),(.str [48]),(.str [48]),(.str [48]),(.str [49])])],(.str [45,49]),[]⟩
noncomputable def e748 : Ent := ⟨43,[S 8 0 3,(.str [])],gl0 ++ [(C [(.str [48]),(.str [48]),(.str [49])])],(T [i,I 0]),[]⟩
noncomputable def e930 : Ent := ⟨43,[S 8 0 5,(.str [])],gl0 ++ [(C [(.str [48]),(.str [48]),(.str [48]),(.str [48]),(.str [49])])],(T [i,I 0]),[]⟩
noncomputable def e1102 : Ent := ⟨43,[S 8 0 7,(.str [])],gl0 ++ [(C [(.str [48]),(.str [48]),(.str [48]),(.str [48]),(.str [48]),(.str [48]),(.str [49])])],(T [i,I 0]),[]⟩
noncomputable def e1273 : Ent := ⟨43,[S 8 0 9,(.str [])],gl0 ++ [(C [(.str [48]),(.str [48]),(.str [48]),(.str [48]),(.str [48]),(.str [48]),(.str [48]),(.str [48]),(.str [49])])],(T [i,I 0]),[]⟩
noncomputable def e1444 : Ent := ⟨43,[S 8 0 11,(.str [])],gl0 ++ [(C [(.str [48]),(.str [48]),(.str [48]),(.str [48]),(.str [48]),(.str [48]),(.str [48]),(.str [48]),(.str [48]),(.str [48]),(.str [49])])],(T [i,I 0]),[]⟩
noncomputable def e771 : Ent := ⟨51,[S 8 0 3],gl0 ++ [(C [(.str [48]),(.str [48]),(.str [49])])],(T [K 9 0 2 2,K 10 0 1 1]),[[(.str [48]),(.str [49])],[(.str [49])]]⟩
noncomputable def e940 : Ent := ⟨51,[S 8 0 5],gl0 ++ [(C [(.str [48]),(.str [48]),(.str [48]),(.str [48]),(.str [49])])],(T [K 9 0 3 3,K 10 0 1 1]),[[(.str [48]),(.str [48]),(.str [49])],[(.str [49])]]⟩
noncomputable def e1111 : Ent := ⟨51,[S 8 0 7],gl0 ++ [(C [(.str [48]),(.str [48]),(.str [48]),(.str [48]),(.str [48]),(.str [48]),(.str [49])])],(T [K 9 0 4 4,K 10 0 1 1]),[[(.str [48]),(.str [48]),(.str [48]),(.str [49])],[(.str [49])]]⟩
noncomputable def e1282 : Ent := ⟨51,[S 8 0 9],gl0 ++ [(C [(.str [48]),(.str [48]),(.str [48]),(.str [48]),(.str [48]),(.str [48]),(.str [48]),(.str [48]),(.str [49])])],(T [K 9 0 5 5,K 10 0 1 1]),[[(.str [48]),(.str [48]),(.str [48]),(.str [48]),(.str [49])],[(.str [49])]]⟩
noncomputable def e1453 : Ent := ⟨51,[S 8 0 11],gl0 ++ [(C [(.str [48]),(.str [48]),(.str [48]),(.str [48]),(.str [48]),(.str [48]),(.str [48]),(.str [48]),(.str [48]),(.str [48]),(.str [49])])],(T [K 9 0 6 6,K 10 0 1 1]),[[(.str [48]),(.str [48]),(.str [48]),(.str [48]),(.str [48]),(.str [49])],[(.str [49])]]⟩
noncomputable def c41 : List Ent := [e1370,e748,e930,e1102,e1273,e1444,e771,e940,e1111,e1282,e1453]
noncomputable def d41 : List Ent := (lapp c0 (lapp c25 (lapp c31 (lapp c36 c39))))
theorem c41_h : lall (entB (cfE d41)) c41 = true := by decide +kernel
theorem c41_ok : ∀ e ∈ c41, EntOk Tryz.prog 8 e := mkOk (deps := d41) (memApp c0_ok (memApp c25_ok (memApp c31_ok (memApp c36_ok c39_ok)))) c41_h
end Go.Proofs.YtofkmenlcnjolaaGreatDoor
