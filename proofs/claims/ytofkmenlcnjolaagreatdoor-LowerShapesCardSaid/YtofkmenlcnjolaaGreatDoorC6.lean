/- Calls of the program that are known once and for all, part 6: each is checked by the kernel with the evaluator. -/
import Derived.Test.YtofkmenlcnjolaaGreatDoorBase
import Derived.Test.YtofkmenlcnjolaaGreatDoorC0
import Derived.Test.YtofkmenlcnjolaaGreatDoorC1
import Derived.Test.YtofkmenlcnjolaaGreatDoorC2
import Derived.Test.YtofkmenlcnjolaaGreatDoorC3
namespace Go.Proofs.YtofkmenlcnjolaaGreatDoor
open Go.Ev
noncomputable def e1621 : Ent := ⟨12,[(A [I 2,S 8 0 1]),S 10 0 1],gl0 ++ [(C [(.str [52]),S 9 0 2]),(C [I 0,I 0]),(C [I 3,S 11 0 1]),(C [(.str [49]),S 12 0 3]),(C [I 0,I 0,I 0])],(T [z,I 4]),[]⟩
noncomputable def c34 : List Ent := [e1621]
noncomputable def d34 : List Ent := (lapp c20 c26)
theorem c34_h : lall (entB (cfE d34)) c34 = true := by decide +kernel
theorem c34_ok : ∀ e ∈ c34, EntOk Tryz.prog 8 e := mkOk (deps := d34) (memApp c20_ok c26_ok) c34_h
noncomputable def e2073 : Ent := ⟨12,[(A [I 3,S 8 0 1]),S 10 0 1],gl0 ++ [(C [(.str [52]),S 9 0 3]),(C [I 0,I 0,I 0]),(C [I 4,S 11 0 1]),(C [(.str [49]),S 12 0 4]),(C [I 0,I 0,I 0,I 0])],(T [z,I 4]),[]⟩
noncomputable def c35 : List Ent := [e2073]
noncomputable def d35 : List Ent := (lapp c22 c28)
theorem c35_h : lall (entB (cfE d35)) c35 = true := by decide +kernel
theorem c35_ok : ∀ e ∈ c35, EntOk Tryz.prog 8 e := mkOk (deps := d35) (memApp c22_ok c28_ok) c35_h
noncomputable def e1474 : Ent := ⟨10,[(A [I 1,S 8 0 1])],gl0 ++ [(C [(.str [49]),S 9 0 1]),(C [I 11])],(T [z,(.str []),o,I 3]),[]⟩
noncomputable def e1484 : Ent := ⟨10,[(A [I 1,S 8 0 1])],gl0 ++ [(C [(.str [49]),S 9 0 1]),(C [I 12])],(T [z,(.str []),o,I 3]),[]⟩
noncomputable def e1494 : Ent := ⟨10,[(A [I 1,S 8 0 1])],gl0 ++ [(C [(.str [49]),S 9 0 1]),(C [I 13])],(T [z,(.str []),o,I 3]),[]⟩
noncomputable def e1504 : Ent := ⟨10,[(A [I 1,S 8 0 1])],gl0 ++ [(C [(.str [49]),S 9 0 1]),(C [I 14])],(T [z,(.str []),o,I 3]),[]⟩
noncomputable def e1514 : Ent := ⟨10,[(A [I 1,S 8 0 1])],gl0 ++ [(C [(.str [49]),S 9 0 1]),(C [I 15])],(T [z,(.str []),o,I 3]),[]⟩
noncomputable def e1524 : Ent := ⟨10,[(A [I 1,S 8 0 1])],gl0 ++ [(C [(.str [49]),S 9 0 1]),(C [I 16])],(T [z,(.str []),o,I 3]),[]⟩
noncomputable def e1534 : Ent := ⟨10,[(A [I 1,S 8 0 1])],gl0 ++ [(C [(.str [49]),S 9 0 1]),(C [I 17])],(T [z,(.str []),o,I 3]),[]⟩
noncomputable def e1544 : Ent := ⟨10,[(A [I 1,S 8 0 1])],gl0 ++ [(C [(.str [49]),S 9 0 1]),(C [I 18])],(T [z,(.str []),o,I 3]),[]⟩
noncomputable def e1554 : Ent := ⟨10,[(A [I 1,S 8 0 1])],gl0 ++ [(C [(.str [49]),S 9 0 1]),(C [I 19])],(T [z,(.str []),o,I 3]),[]⟩
noncomputable def e1564 : Ent := ⟨10,[(A [I 1,S 8 0 1])],gl0 ++ [(C [(.str [49]),S 9 0 1]),(C [I 20])],(T [z,(.str []),o,I 3]),[]⟩
noncomputable def e1574 : Ent := ⟨10,[(A [I 1,S 8 0 1])],gl0 ++ [(C [(.str [49]),S 9 0 1]),(C [I 21])],(T [z,(.str []),o,I 3]),[]⟩
noncomputable def e1584 : Ent := ⟨10,[(A [I 1,S 8 0 1])],gl0 ++ [(C [(.str [49]),S 9 0 1]),(C [I 22])],(T [z,(.str []),o,I 3]),[]⟩
noncomputable def e1594 : Ent := ⟨10,[(A [I 1,S 8 0 1])],gl0 ++ [(C [(.str [49]),S 9 0 1]),(C [I 23])],(T [z,(.str []),o,I 3]),[]⟩
noncomputable def e1604 : Ent := ⟨10,[(A [I 1,S 8 0 1])],gl0 ++ [(C [(.str [49]),S 9 0 1]),(C [I 24])],(T [z,(.str []),o,I 3]),[]⟩
noncomputable def e505 : Ent := ⟨12,[(A [I 0,S 8 0 1]),S 10 0 1],gl0 ++ [(C [(.str [52]),K 9 0 0 0]),(C []),(C [I 1,S 11 0 1]),(C [(.str [49]),S 12 0 1]),(C [I 0])],(T [z,I 4]),[]⟩
noncomputable def e561 : Ent := ⟨12,[(A [I 1,S 8 0 1]),S 10 0 1],gl0 ++ [(C [(.str [52]),S 9 0 1]),(C [I 0]),(C [I 2,S 11 0 1]),(C [(.str [49]),S 12 0 2]),(C [I 0,I 0])],(T [z,I 4]),[]⟩
noncomputable def e510 : Ent := ⟨19,[(A [I 1,S 8 0 1]),I 0],gl0 ++ [(C [(.str [49]),S 9 0 1]),(C [I 0])],(T [K 10 0 1 1,I 0]),[[(.str [49])]]⟩
noncomputable def e574 : Ent := ⟨19,[(A [I 1,S 8 0 1]),I 0],gl0 ++ [(C [(.str [49]),S 9 0 1]),(C [I 1])],(T [K 10 0 2 2,I 0]),[[(.str [48]),(.str [49])]]⟩
noncomputable def e686 : Ent := ⟨19,[(A [I 1,S 8 0 1]),I 0],gl0 ++ [(C [(.str [49]),S 9 0 1]),(C [I 2])],(T [K 10 0 3 3,I 0]),[[(.str [48]),(.str [48]),(.str [49])]]⟩
noncomputable def e796 : Ent := ⟨19,[(A [I 1,S 8 0 1]),I 0],gl0 ++ [(C [(.str [49]),S 9 0 1]),(C [I 3])],(T [K 10 0 4 4,I 0]),[[(.str [48]),(.str [48]),(.str [48]),(.str [49])]]⟩
noncomputable def e874 : Ent := ⟨19,[(A [I 1,S 8 0 1]),I 0],gl0 ++ [(C [(.str [49]),S 9 0 1]),(C [I 4])],(T [K 10 0 5 5,I 0]),[[(.str [48]),(.str [48]),(.str [48]),(.str [48]),(.str [49])]]⟩
noncomputable def e964 : Ent := ⟨19,[(A [I 1,S 8 0 1]),I 0],gl0 ++ [(C [(.str [49]),S 9 0 1]),(C [I 5])],(T [K 10 0 6 6,I 0]),[[(.str [48]),(.str [48]),(.str [48]),(.str [48]),(.str [48]),(.str [49])]]⟩
noncomputable def e1042 : Ent := ⟨19,[(A [I 1,S 8 0 1]),I 0],gl0 ++ [(C [(.str [49]),S 9 0 1]),(C [I 6])],(T [K 10 0 7 7,I 0]),[[(.str [48]),(.str [48]),(.str [48]),(.str [48]),(.str [48]),(.str [48]),(.str [49])]]⟩
noncomputable def e1135 : Ent := ⟨19,[(A [I 1,S 8 0 1]),I 0],gl0 ++ [(C [(.str [49]),S 9 0 1]),(C [I 7])],(T [K 10 0 8 8,I 0]),[[(.str [48]),(.str [48]),(.str [48]),(.str [48]),(.str [48]),(.str [48]),(.str [48]),(.str [49])]]⟩
noncomputable def e1213 : Ent := ⟨19,[(A [I 1,S 8 0 1]),I 0],gl0 ++ [(C [(.str [49]),S 9 0 1]),(C [I 8])],(T [K 10 0 9 9,I 0]),[[(.str [48]),(.str [48]),(.str [48]),(.str [48]),(.str [48]),(.str [48]),(.str [48]),(.str [48]),(.str [49])]]⟩
noncomputable def e1306 : Ent := ⟨19,[(A [I 1,S 8 0 1]),I 0],gl0 ++ [(C [(.str [49]),S 9 0 1]),(C [I 9])],(T [K 10 0 10 10,I 0]),[[(.str [48]),(.str [48]),(.str [48]),(.str [48]),(.str [48]),(.str [48]),(.str [48]),(.str [48]),(.str [48]),(.str [49])]]⟩
noncomputable def e1384 : Ent := ⟨19,[(A [I 1,S 8 0 1]),I 0],gl0 ++ [(C [(.str [49]),S 9 0 1]),(C [I 10])],(T [K 10 0 11 11,I 0]),[[(.str [48]),(.str [48]),(.str [48]),(.str [48]),(.str [48]),(.str [48]),(.str [48]),(.str [48]),(.str [48]),(.str [48]),(.str [49])]]⟩
noncomputable def e599 : Ent := ⟨20,[S 8 0 2],gl0 ++ [(C [(.str [48]),(.str [49])])],(T [o,I 0]),[]⟩
noncomputable def e808 : Ent := ⟨20,[S 8 0 4],gl0 ++ [(C [(.str [48]),(.str [48]),(.str [48]),(.str [49])])],(T [o,I 0]),[]⟩
noncomputable def e976 : Ent := ⟨20,[S 8 0 6],gl0 ++ [(C [(.str [48]),(.str [48]),(.str [48]),(.str [48]),(.str [48]),(.str [49])])],(T [o,I 0]),[]⟩
noncomputable def e1147 : Ent := ⟨20,[S 8 0 8],gl0 ++ [(C [(.str [48]),(.str [48]),(.str [48]),(.str [48]),(.str [48]),(.str [48]),(.str [48]),(.str [49])])],(T [o,I 0]),[]⟩
noncomputable def e1318 : Ent := ⟨20,[S 8 0 10],gl0 ++ [(C [(.str [48]),(.str [48]),(.str [48]),(.str [48]),(.str [48]),(.str [48]),(.str [48]),(.str [48]),(.str [48]),(.str [49])])],(T [o,I 0]),[]⟩
noncomputable def e607 : Ent := ⟨44,[S 8 0 2],gl0 ++ [(C [(.str [48]),(.str [49])])],(T [(.str [49]),I 0]),[]⟩
noncomputable def e811 : Ent := ⟨44,[S 8 0 4],gl0 ++ [(C [(.str [48]),(.str [48]),(.str [48]),(.str [49])])],(T [(.str [49]),I 0]),[]⟩
noncomputable def e979 : Ent := ⟨44,[S 8 0 6],gl0 ++ [(C [(.str [48]),(.str [48]),(.str [48]),(.str [48]),(.str [48]),(.str [49])])],(T [(.str [49]),I 0]),[]⟩
noncomputable def e1150 : Ent := ⟨44,[S 8 0 8],gl0 ++ [(C [(.str [48]),(.str [48]),(.str [48]),(.str [48]),(.str [48]),(.str [48]),(.str [48]),(.str [49])])],(T [(.str [49]),I 0]),[]⟩
noncomputable def e1321 : Ent := ⟨44,[S 8 0 10],gl0 ++ [(C [(.str [48]),(.str [48]),(.str [48]),(.str [48]),(.str [48]),(.str [48]),(.str [48]),(.str [48]),(.str [48]),(.str [49])])],(T [(.str [49]),I 0]),[]⟩
noncomputable def e763 : Ent := ⟨57,[S 8 0 1,S 9 0 1],gl0 ++ [(C [(.str [49])]),(C [(.str [49])])],K 10 0 1 1,[[(.str [49])]]⟩
noncomputable def e770 : Ent := ⟨57,[S 8 0 1,S 9 0 2],gl0 ++ [(C [(.str [49])]),(C [(.str [48]),(.str [49])])],K 10 0 2 2,[[(.str [48]),(.str [49])]]⟩
noncomputable def e939 : Ent := ⟨57,[S 8 0 2,S 9 0 2],gl0 ++ [(C [(.str [48]),(.str [49])]),(C [(.str [48]),(.str [49])])],K 10 0 3 3,[[(.str [48]),(.str [48]),(.str [49])]]⟩
noncomputable def e1110 : Ent := ⟨57,[S 8 0 3,S 9 0 2],gl0 ++ [(C [(.str [48]),(.str [48]),(.str [49])]),(C [(.str [48]),(.str [49])])],K 10 0 4 4,[[(.str [48]),(.str [48]),(.str [48]),(.str [49])]]⟩
noncomputable def e1281 : Ent := ⟨57,[S 8 0 4,S 9 0 2],gl0 ++ [(C [(.str [48]),(.str [48]),(.str [48]),(.str [49])]),(C [(.str [48]),(.str [49])])],K 10 0 5 5,[[(.str [48]),(.str [48]),(.str [48]),(.str [48]),(.str [49])]]⟩
noncomputable def e1452 : Ent := ⟨57,[S 8 0 5,S 9 0 2],gl0 ++ [(C [(.str [48]),(.str [48]),(.str [48]),(.str [48]),(.str [49])]),(C [(.str [48]),(.str [49])])],K 10 0 6 6,[[(.str [48]),(.str [48]),(.str [48]),(.str [48]),(.str [48]),(.str [49])]]⟩
noncomputable def e431 : Ent := ⟨67,[(A [I 2,I 2,S 8 0 4])],gl ++ [(C [(.str [49]),(.str [45,49]),(.str [45,49]),(.str [49])])],(T [(A [I 2,I 2,K 9 0 4 4,K 10 0 2 2]),i,I 0]),[[(.str [49]),(.str [48]),(.str [45,49]),(.str [49])],[(.str [49]),(.str [48])]]⟩
noncomputable def e105 : Ent := ⟨71,[(A [S 8 0 1,I 1,S 9 0 3,z,z])],gl0 ++ [(C [(.str [120])]),(C [(.str [49]),S 10 0 1,(.str [45,50]),S 11 0 1,(.str [51]),S 12 0 1]),(C [I 2]),(C [I 1]),(C [I 0])],i,[]⟩
noncomputable def e227 : Ent := ⟨75,[(A [I 1,I 1,S 8 0 1]),S 9 0 1],gl0 ++ [(C [(.str [50])]),(C [(.str [50])])],(T [K 10 0 1 1,z,I 0]),[[(.str [49])]]⟩
noncomputable def e346 : Ent := ⟨78,[(A [I 1,I 1,S 8 0 1]),S 9 0 1,(.str [49])],gl ++ [(C [(.str [50])]),(C [(.str [50])])],(A [I 2,I 2,S 10 0 4]),[[(.str [49]),(.str [45,49]),(.str [45,49]),(.str [49])]]⟩
noncomputable def e669 : Ent := ⟨94,[S 8 0 2,(A [o,S 10 0 1,o,z])],gl0 ++ [(C [o,z,o,S 9 0 1]),(C [U 1]),(C [U 1])],S 11 0 1,[[i,S 12 0 1,o,z,o,S 12 0 1,o,z],[U 1]]⟩
noncomputable def e623 : Ent := ⟨95,[S 8 0 2],gl0 ++ [(C [o,z,o,S 9 0 1]),(C [U 1])],S 10 0 2,[[o,z,o,S 9 0 1]]⟩
noncomputable def e365 : Ent := ⟨125,[(A [I 2,I 2,S 8 0 4])],gl0 ++ [(C [(.str [49]),(.str [45,49]),(.str [45,49]),(.str [49])])],i,[]⟩
noncomputable def e249 : Ent := ⟨137,[S 8 0 1,I 1],gl0 ++ [(C [o,S 9 0 1,o,z]),(C [U 2])],(T [(.ptr 10 0),i]),[[I 1,I 1,(.ptr 11 0),o,S 13 0 1,K 16 0 1 1,K 18 0 1 1],[I 1,S 12 0 1,S 14 0 1],[o,S 13 0 1],[U 1],[o,S 15 0 1,o,S 9 0 1],[U 1],[o,K 17 0 1 1,o,z],[U 1],[o,S 19 0 1,o,z],[U 2,U 0]]⟩
noncomputable def e148 : Ent := ⟨145,[(A [I 1,S 8 0 3]),I 0],gl ++ [(C [(.str [49]),S 9 0 1,(.str [45,50]),S 10 0 1,(.str [51]),S 11 0 1]),(C [I 2]),(C [I 1]),(C [I 0])],(T [(A [I 1,K 12 0 2 2]),I 0]),[[(.str [50]),K 13 0 1 1,(.str [45,50]),K 14 0 1 1],[I 1],[I 0]]⟩
noncomputable def e536 : Ent := ⟨172,[S 8 0 1],gl0 ++ [(C [o,S 9 0 1]),(C [U 1])],z,[]⟩
noncomputable def e719 : Ent := ⟨193,[S 8 0 2],gl0 ++ [(C [o,z,o,S 9 0 1]),(C [U 2,U 0])],K 10 0 2 2,[[o,z,o,S 11 0 1],[U 1]]⟩
noncomputable def e844 : Ent := ⟨193,[S 8 0 3],gl0 ++ [(C [o,z,o,z,o,S 9 0 1]),(C [U 3,U 0])],K 10 0 3 3,[[o,z,o,z,o,S 11 0 1],[U 1]]⟩
noncomputable def e915 : Ent := ⟨193,[S 8 0 4],gl0 ++ [(C [o,z,o,z,o,z,o,S 9 0 1]),(C [U 4,U 0])],K 10 0 4 4,[[o,z,o,z,o,z,o,S 11 0 1],[U 1]]⟩
noncomputable def e1012 : Ent := ⟨193,[S 8 0 5],gl0 ++ [(C [o,z,o,z,o,z,o,z,o,S 9 0 1]),(C [U 5,U 0])],K 10 0 5 5,[[o,z,o,z,o,z,o,z,o,S 11 0 1],[U 1]]⟩
noncomputable def e1084 : Ent := ⟨193,[S 8 0 6],gl0 ++ [(C [o,z,o,z,o,z,o,z,o,z,o,S 9 0 1]),(C [U 6,U 0])],K 10 0 6 6,[[o,z,o,z,o,z,o,z,o,z,o,S 11 0 1],[U 1]]⟩
noncomputable def e1183 : Ent := ⟨193,[S 8 0 7],gl0 ++ [(C [o,z,o,z,o,z,o,z,o,z,o,z,o,S 9 0 1]),(C [U 7,U 0])],K 10 0 7 7,[[o,z,o,z,o,z,o,z,o,z,o,z,o,S 11 0 1],[U 1]]⟩
noncomputable def e1255 : Ent := ⟨193,[S 8 0 8],gl0 ++ [(C [o,z,o,z,o,z,o,z,o,z,o,z,o,z,o,S 9 0 1]),(C [U 8,U 0])],K 10 0 8 8,[[o,z,o,z,o,z,o,z,o,z,o,z,o,z,o,S 11 0 1],[U 1]]⟩
noncomputable def e1354 : Ent := ⟨193,[S 8 0 9],gl0 ++ [(C [o,z,o,z,o,z,o,z,o,z,o,z,o,z,o,z,o,S 9 0 1]),(C [U 9,U 0])],K 10 0 9 9,[[o,z,o,z,o,z,o,z,o,z,o,z,o,z,o,z,o,S 11 0 1],[U 1]]⟩
noncomputable def e1426 : Ent := ⟨193,[S 8 0 10],gl0 ++ [(C [o,z,o,z,o,z,o,z,o,z,o,z,o,z,o,z,o,z,o,S 9 0 1]),(C [U 10,U 0])],K 10 0 10 10,[[o,z,o,z,o,z,o,z,o,z,o,z,o,z,o,z,o,z,o,S 11 0 1],[U 1]]⟩
noncomputable def c36 : List Ent := [e1474,e1484,e1494,e1504,e1514,e1524,e1534,e1544,e1554,e1564,e1574,e1584,e1594,e1604,e505,e561,e510,e574,e686,e796,e874,e964,e1042,e1135,e1213,e1306,e1384,e599,e808,e976,e1147,e1318,e607,e811,e979,e1150,e1321,e763,e770,e939,e1110,e1281,e1452,e431,e105,e227,e346,e669,e623,e365,e249,e148,e536,e719,e844,e915,e1012,e1084,e1183,e1255,e1354,e1426]
noncomputable def d36 : List Ent := (lapp c0 (lapp c1 (lapp c3 (lapp c4 (lapp c5 (lapp c7 (lapp c13 (lapp c19 (lapp c25 c31)))))))))
theorem c36_h : lall (entB (cfE d36)) c36 = true := by decide +kernel
theorem c36_ok : ∀ e ∈ c36, EntOk Tryz.prog 8 e := mkOk (deps := d36) (memApp c0_ok (memApp c1_ok (memApp c3_ok (memApp c4_ok (memApp c5_ok (memApp c7_ok (memApp c13_ok (memApp c19_ok (memApp c25_ok c31_ok))))))))) c36_h
noncomputable def e671 : Ent := ⟨46,[S 8 0 2],gl ++ [(C [(.str [48]),(.str [49])])],(T [S 9 0 1,I 0]),[[(.str [45,49]),(.str [49])]]⟩
noncomputable def e366 : Ent := ⟨61,[S 8 0 2,(A [I 2,I 2,S 13 0 4])],gl0 ++ [(C [I 1,K 9 0 1 1,I 1,K 11 0 1 1]),(C [(.str [49]),K 10 0 1 1]),(C [I 1]),(C [(.str [49]),K 12 0 1 1]),(C [I 0]),(C [(.str [49]),(.str [45,49]),(.str [45,49]),(.str [49])])],I 0,[]⟩
noncomputable def e252 : Ent := ⟨67,[(A [I 1,I 1,S 8 0 1])],gl0 ++ [(C [(.str [50])])],(T [(A [I 1,I 1,K 9 0 1 1,K 10 0 1 1]),i,I 0]),[[(.str [49])],[(.str [50])]]⟩
noncomputable def e168 : Ent := ⟨74,[(A [I 1,S 8 0 3])],gl ++ [(C [(.str [49]),S 9 0 1,(.str [45,50]),S 10 0 1,(.str [51]),S 11 0 1]),(C [I 2]),(C [I 1]),(C [I 0])],(T [(A [I 1,I 1,S 12 0 1]),K 13 0 1 1]),[[(.str [50])],[(.str [50])]]⟩
noncomputable def e537 : Ent := ⟨89,[S 8 0 1,(A [o,z,o,z,J 0])],gl0 ++ [(C [o,S 9 0 1]),(C [U 1])],i,[]⟩
noncomputable def e540 : Ent := ⟨109,[S 8 0 1],gl0 ++ [(C [(.str [49])])],(T [z,I 0]),[]⟩
noncomputable def e727 : Ent := ⟨195,[S 8 0 3,S 10 0 2],gl0 ++ [(C [o,z,o,z,o,S 9 0 1]),(C [U 1]),(C [o,z,o,S 11 0 1]),(C [U 2,U 0])],K 12 0 2 2,[[o,z,o,S 13 0 1],[U 1]]⟩
noncomputable def e850 : Ent := ⟨195,[S 8 0 4,S 10 0 3],gl0 ++ [(C [o,z,o,z,o,z,o,S 9 0 1]),(C [U 1]),(C [o,z,o,z,o,S 11 0 1]),(C [U 3,U 0])],K 12 0 3 3,[[o,z,o,z,o,S 13 0 1],[U 1]]⟩
noncomputable def e921 : Ent := ⟨195,[S 8 0 5,S 10 0 4],gl0 ++ [(C [o,z,o,z,o,z,o,z,o,S 9 0 1]),(C [U 1]),(C [o,z,o,z,o,z,o,S 11 0 1]),(C [U 4,U 0])],K 12 0 4 4,[[o,z,o,z,o,z,o,S 13 0 1],[U 1]]⟩
noncomputable def e1018 : Ent := ⟨195,[S 8 0 6,S 10 0 5],gl0 ++ [(C [o,z,o,z,o,z,o,z,o,z,o,S 9 0 1]),(C [U 1]),(C [o,z,o,z,o,z,o,z,o,S 11 0 1]),(C [U 5,U 0])],K 12 0 5 5,[[o,z,o,z,o,z,o,z,o,S 13 0 1],[U 1]]⟩
noncomputable def e1090 : Ent := ⟨195,[S 8 0 7,S 10 0 6],gl0 ++ [(C [o,z,o,z,o,z,o,z,o,z,o,z,o,S 9 0 1]),(C [U 1]),(C [o,z,o,z,o,z,o,z,o,z,o,S 11 0 1]),(C [U 6,U 0])],K 12 0 6 6,[[o,z,o,z,o,z,o,z,o,z,o,S 13 0 1],[U 1]]⟩
noncomputable def e1189 : Ent := ⟨195,[S 8 0 8,S 10 0 7],gl0 ++ [(C [o,z,o,z,o,z,o,z,o,z,o,z,o,z,o,S 9 0 1]),(C [U 1]),(C [o,z,o,z,o,z,o,z,o,z,o,z,o,S 11 0 1]),(C [U 7,U 0])],K 12 0 7 7,[[o,z,o,z,o,z,o,z,o,z,o,z,o,S 13 0 1],[U 1]]⟩
noncomputable def e1261 : Ent := ⟨195,[S 8 0 9,S 10 0 8],gl0 ++ [(C [o,z,o,z,o,z,o,z,o,z,o,z,o,z,o,z,o,S 9 0 1]),(C [U 1]),(C [o,z,o,z,o,z,o,z,o,z,o,z,o,z,o,S 11 0 1]),(C [U 8,U 0])],K 12 0 8 8,[[o,z,o,z,o,z,o,z,o,z,o,z,o,z,o,S 13 0 1],[U 1]]⟩
noncomputable def e1360 : Ent := ⟨195,[S 8 0 10,S 10 0 9],gl0 ++ [(C [o,z,o,z,o,z,o,z,o,z,o,z,o,z,o,z,o,z,o,S 9 0 1]),(C [U 1]),(C [o,z,o,z,o,z,o,z,o,z,o,z,o,z,o,z,o,S 11 0 1]),(C [U 9,U 0])],K 12 0 9 9,[[o,z,o,z,o,z,o,z,o,z,o,z,o,z,o,z,o,S 13 0 1],[U 1]]⟩
noncomputable def e1432 : Ent := ⟨195,[S 8 0 11,S 10 0 10],gl0 ++ [(C [o,z,o,z,o,z,o,z,o,z,o,z,o,z,o,z,o,z,o,z,o,S 9 0 1]),(C [U 1]),(C [o,z,o,z,o,z,o,z,o,z,o,z,o,z,o,z,o,z,o,S 11 0 1]),(C [U 10,U 0])],K 12 0 10 10,[[o,z,o,z,o,z,o,z,o,z,o,z,o,z,o,z,o,z,o,S 13 0 1],[U 1]]⟩
noncomputable def c37 : List Ent := [e671,e366,e252,e168,e537,e540,e727,e850,e921,e1018,e1090,e1189,e1261,e1360,e1432]
noncomputable def d37 : List Ent := (lapp c1 (lapp c4 (lapp c5 (lapp c7 (lapp c19 (lapp c25 (lapp c31 c36)))))))
theorem c37_h : lall (entB (cfE d37)) c37 = true := by decide +kernel
theorem c37_ok : ∀ e ∈ c37, EntOk Tryz.prog 8 e := mkOk (deps := d37) (memApp c1_ok (memApp c4_ok (memApp c5_ok (memApp c7_ok (memApp c19_ok (memApp c25_ok (memApp c31_ok c36_ok))))))) c37_h
noncomputable def e675 : Ent := ⟨21,[S 8 0 2],gl ++ [(C [(.str [48]),(.str [49])])],(.str [45,49]),[]⟩
noncomputable def e462 : Ent := ⟨30,[S 8 0 2,(A [I 2,I 2,S 13 0 4])],gl ++ [(C [I 1,K 9 0 1 1,I 1,K 11 0 1 1]),(C [(.str [49]),K 10 0 1 1]),(C [I 1]),(C [(.str [49]),K 12 0 1 1]),(C [I 0]),(C [(.str [49]),(.str [45,49]),(.str [45,49]),(.str [49])])],(T [S 14 0 1,I 0]),[[(.str [49]),(.str [48]),I 1,I 1,.cell,I 1,z]]⟩
noncomputable def e538 : Ent := ⟨43,[S 8 0 1,(.str [])],gl0 ++ [(C [(.str [49])])],(T [i,I 0]),[]⟩
noncomputable def e541 : Ent := ⟨51,[S 8 0 1],gl0 ++ [(C [(.str [49])])],(T [K 9 0 1 1,K 10 0 1 1]),[[(.str [49])],[(.str [49])]]⟩
noncomputable def e852 : Ent := ⟨95,[S 8 0 4],gl0 ++ [(C [o,z,o,z,o,z,o,S 9 0 1]),(C [U 1])],S 10 0 2,[[o,z,o,S 9 0 1]]⟩
noncomputable def e1020 : Ent := ⟨95,[S 8 0 6],gl0 ++ [(C [o,z,o,z,o,z,o,z,o,z,o,S 9 0 1]),(C [U 1])],S 10 0 2,[[o,z,o,S 9 0 1]]⟩
noncomputable def e1191 : Ent := ⟨95,[S 8 0 8],gl0 ++ [(C [o,z,o,z,o,z,o,z,o,z,o,z,o,z,o,S 9 0 1]),(C [U 1])],S 10 0 2,[[o,z,o,S 9 0 1]]⟩
noncomputable def e1362 : Ent := ⟨95,[S 8 0 10],gl0 ++ [(C [o,z,o,z,o,z,o,z,o,z,o,z,o,z,o,z,o,z,o,S 9 0 1]),(C [U 1])],S 10 0 2,[[o,z,o,S 9 0 1]]⟩
noncomputable def e740 : Ent := ⟨172,[S 8 0 3],gl0 ++ [(C [o,z,o,z,o,S 9 0 1]),(C [U 1])],S 10 0 2,[[S 11 0 1,S 12 0 2],[o,S 9 0 1],[o,z,o,S 13 0 1],[U 1]]⟩
noncomputable def e928 : Ent := ⟨172,[S 8 0 5],gl0 ++ [(C [o,z,o,z,o,z,o,z,o,S 9 0 1]),(C [U 1])],S 10 0 4,[[S 11 0 1,S 12 0 1,S 13 0 1,S 14 0 2],[o,S 9 0 1],[o,S 9 0 1],[o,S 9 0 1],[o,z,o,S 15 0 1],[U 1]]⟩
noncomputable def e1100 : Ent := ⟨172,[S 8 0 7],gl0 ++ [(C [o,z,o,z,o,z,o,z,o,z,o,z,o,S 9 0 1]),(C [U 1])],S 10 0 6,[[S 11 0 1,S 12 0 1,S 13 0 1,S 14 0 1,S 15 0 1,S 16 0 2],[o,S 9 0 1],[o,S 9 0 1],[o,S 9 0 1],[o,S 9 0 1],[o,S 9 0 1],[o,z,o,S 17 0 1],[U 1]]⟩
noncomputable def e1271 : Ent := ⟨172,[S 8 0 9],gl0 ++ [(C [o,z,o,z,o,z,o,z,o,z,o,z,o,z,o,z,o,S 9 0 1]),(C [U 1])],S 10 0 8,[[S 11 0 1,S 12 0 1,S 13 0 1,S 14 0 1,S 15 0 1,S 16 0 1,S 17 0 1,S 18 0 2],[o,S 9 0 1],[o,S 9 0 1],[o,S 9 0 1],[o,S 9 0 1],[o,S 9 0 1],[o,S 9 0 1],[o,S 9 0 1],[o,z,o,S 19 0 1],[U 1]]⟩
noncomputable def e1442 : Ent := ⟨172,[S 8 0 11],gl0 ++ [(C [o,z,o,z,o,z,o,z,o,z,o,z,o,z,o,z,o,z,o,z,o,S 9 0 1]),(C [U 1])],S 10 0 10,[[S 11 0 1,S 12 0 1,S 13 0 1,S 14 0 1,S 15 0 1,S 16 0 1,S 17 0 1,S 18 0 1,S 19 0 1,S 20 0 2],[o,S 9 0 1],[o,S 9 0 1],[o,S 9 0 1],[o,S 9 0 1],[o,S 9 0 1],[o,S 9 0 1],[o,S 9 0 1],[o,S 9 0 1],[o,S 9 0 1],[o,z,o,S 21 0 1],[U 1]]⟩
noncomputable def c38 : List Ent := [e675,e462,e538,e541,e852,e1020,e1191,e1362,e740,e928,e1100,e1271,e1442]
noncomputable def d38 : List Ent := (lapp c0 (lapp c3 (lapp c4 (lapp c5 (lapp c7 (lapp c13 (lapp c19 (lapp c25 (lapp c31 (lapp c36 c37))))))))))
theorem c38_h : lall (entB (cfE d38)) c38 = true := by decide +kernel
theorem c38_ok : ∀ e ∈ c38, EntOk Tryz.prog 8 e := mkOk (deps := d38) (memApp c0_ok (memApp c3_ok (memApp c4_ok (memApp c5_ok (memApp c7_ok (memApp c13_ok (memApp c19_ok (memApp c25_ok (memApp c31_ok (memApp c36_ok c37_ok)))))))))) c38_h
end Go.Proofs.YtofkmenlcnjolaaGreatDoor
