/- Calls of the program that are known once and for all, part 7: each is checked by the kernel with the evaluator. -/
import Derived.Test.YtofkmenlcnjolaaGreatDoorBase
import Derived.Test.YtofkmenlcnjolaaGreatDoorC0
import Derived.Test.YtofkmenlcnjolaaGreatDoorC1
import Derived.Test.YtofkmenlcnjolaaGreatDoorC2
import Derived.Test.YtofkmenlcnjolaaGreatDoorC3
import Derived.Test.YtofkmenlcnjolaaGreatDoorC6
namespace Go.Proofs.YtofkmenlcnjolaaGreatDoor
open Go.Ev
noncomputable def e676 : Ent := ⟨10,[(A [I 1,S 8 0 1])],gl ++ [(C [(.str [49]),S 9 0 1]),(C [I 1])],(T [z,(.str [45,49]),o,I 0]),[]⟩
noncomputable def e539 : Ent := ⟨20,[S 8 0 1],gl0 ++ [(C [(.str [49])])],(T [i,I 0]),[]⟩
noncomputable def e542 : Ent := ⟨22,[S 8 0 1],gl0 ++ [(C [(.str [49])])],K 9 0 1 1,[[(.str [49]),K 10 0 1 1],[(.str [49])]]⟩
noncomputable def e464 : Ent := ⟨32,[(A [S 8 0 1,I 1,S 9 0 3,z,z])],gl ++ [(C [(.str [120])]),(C [(.str [49]),S 10 0 1,(.str [45,50]),S 11 0 1,(.str [51]),S 12 0 1]),(C [I 2]),(C [I 1]),(C [I 0])],(T [(A [(.str [50]),(.str [48]),I 1,I 1,K 13 0 1 1,z]),K 15 0 1 1,I 0]),[[z,S 14 0 1],[(.str [49]),(.str [48]),I 1,I 1,.cell,I 1,z],[(.str [49])]]⟩
noncomputable def e853 : Ent := ⟨46,[S 8 0 4],gl ++ [(C [(.str [48]),(.str [48]),(.str [48]),(.str [49])])],(T [S 9 0 1,I 0]),[[(.str [45,49]),(.str [49])]]⟩
noncomputable def e1021 : Ent := ⟨46,[S 8 0 6],gl ++ [(C [(.str [48]),(.str [48]),(.str [48]),(.str [48]),(.str [48]),(.str [49])])],(T [S 9 0 1,I 0]),[[(.str [45,49]),(.str [49])]]⟩
noncomputable def e1192 : Ent := ⟨46,[S 8 0 8],gl ++ [(C [(.str [48]),(.str [48]),(.str [48]),(.str [48]),(.str [48]),(.str [48]),(.str [48]),(.str [49])])],(T [S 9 0 1,I 0]),[[(.str [45,49]),(.str [49])]]⟩
noncomputable def e1363 : Ent := ⟨46,[S 8 0 10],gl ++ [(C [(.str [48]),(.str [48]),(.str [48]),(.str [48]),(.str [48]),(.str [48]),(.str [48]),(.str [48]),(.str [48]),(.str [49])])],(T [S 9 0 1,I 0]),[[(.str [45,49]),(.str [49])]]⟩
noncomputable def e747 : Ent := ⟨89,[S 8 0 3,(A [o,z,o,z,J 0])],gl0 ++ [(C [o,z,o,z,o,S 9 0 1]),(C [U 1])],i,[]⟩
noncomputable def e929 : Ent := ⟨89,[S 8 0 5,(A [o,z,o,z,J 0])],gl0 ++ [(C [o,z,o,z,o,z,o,z,o,S 9 0 1]),(C [U 1])],i,[]⟩
noncomputable def e1101 : Ent := ⟨89,[S 8 0 7,(A [o,z,o,z,J 0])],gl0 ++ [(C [o,z,o,z,o,z,o,z,o,z,o,z,o,S 9 0 1]),(C [U 1])],i,[]⟩
noncomputable def e1272 : Ent := ⟨89,[S 8 0 9,(A [o,z,o,z,J 0])],gl0 ++ [(C [o,z,o,z,o,z,o,z,o,z,o,z,o,z,o,z,o,S 9 0 1]),(C [U 1])],i,[]⟩
noncomputable def e1443 : Ent := ⟨89,[S 8 0 11,(A [o,z,o,z,J 0])],gl0 ++ [(C [o,z,o,z,o,z,o,z,o,z,o,z,o,z,o,z,o,z,o,z,o,S 9 0 1]),(C [U 1])],i,[]⟩
noncomputable def e758 : Ent := ⟨109,[S 8 0 3],gl0 ++ [(C [(.str [48]),(.str [48]),(.str [49])])],(T [S 9 0 2,I 0]),[[K 10 0 1 1,K 11 0 2 2],[(.str [49])],[(.str [48]),(.str [49])]]⟩
noncomputable def e932 : Ent := ⟨109,[S 8 0 5],gl0 ++ [(C [(.str [48]),(.str [48]),(.str [48]),(.str [48]),(.str [49])])],(T [S 9 0 4,I 0]),[[K 10 0 1 1,K 11 0 1 1,K 12 0 1 1,K 13 0 2 2],[(.str [49])],[(.str [49])],[(.str [49])],[(.str [48]),(.str [49])]]⟩
noncomputable def e1104 : Ent := ⟨109,[S 8 0 7],gl0 ++ [(C [(.str [48]),(.str [48]),(.str [48]),(.str [48]),(.str [48]),(.str [48]),(.str [49])])],(T [S 9 0 6,I 0]),[[K 10 0 1 1,K 11 0 1 1,K 12 0 1 1,K 13 0 1 1,K 14 0 1 1,K 15 0 2 2],[(.str [49])],[(.str [49])],[(.str [49])],[(.str [49])],[(.str [49])],[(.str [48]),(.str [49])]]⟩
noncomputable def e1275 : Ent := ⟨109,[S 8 0 9],gl0 ++ [(C [(.str [48]),(.str [48]),(.str [48]),(.str [48]),(.str [48]),(.str [48]),(.str [48]),(.str [48]),(.str [49])])],(T [S 9 0 8,I 0]),[[K 10 0 1 1,K 11 0 1 1,K 12 0 1 1,K 13 0 1 1,K 14 0 1 1,K 15 0 1 1,K 16 0 1 1,K 17 0 2 2],[(.str [49])],[(.str [49])],[(.str [49])],[(.str [49])],[(.str [49])],[(.str [49])],[(.str [49])],[(.str [48]),(.str [49])]]⟩
noncomputable def e1446 : Ent := ⟨109,[S 8 0 11],gl0 ++ [(C [(.str [48]),(.str [48]),(.str [48]),(.str [48]),(.str [48]),(.str [48]),(.str [48]),(.str [48]),(.str [48]),(.str [48]),(.str [49])])],(T [S 9 0 10,I 0]),[[K 10 0 1 1,K 11 0 1 1,K 12 0 1 1,K 13 0 1 1,K 14 0 1 1,K 15 0 1 1,K 16 0 1 1,K 17 0 1 1,K 18 0 1 1,K 19 0 2 2],[(.str [49])],[(.str [49])],[(.str [49])],[(.str [49])],[(.str [49])],[(.str [49])],[(.str [49])],[(.str [49])],[(.str [49])],[(.str [48]),(.str [49])]]⟩
noncomputable def c39 : List Ent := [e676,e539,e542,e464,e853,e1021,e1192,e1363,e747,e929,e1101,e1272,e1443,e758,e932,e1104,e1275,e1446]
noncomputable def d39 : List Ent := (lapp c1 (lapp c4 (lapp c7 (lapp c13 (lapp c25 (lapp c31 (lapp c36 (lapp c37 c38))))))))
theorem c39_h : lall (entB (cfE d39)) c39 = true := by decide +kernel
theorem c39_ok : ∀ e ∈ c39, EntOk Tryz.prog 8 e := mkOk (deps := d39) (memApp c1_ok (memApp c4_ok (memApp c7_ok (memApp c13_ok (memApp c25_ok (memApp c31_ok (memApp c36_ok (memApp c37_ok c38_ok)))))))) c39_h
end Go.Proofs.YtofkmenlcnjolaaGreatDoor
