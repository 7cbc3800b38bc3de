/- Calls of the program that are known once and for all, part 5: the polynomial of a list of six coefficients. -/
import Derived.Test.YtofkmenlcnjolaaGreatDoorBase
namespace Go.Proofs.YtofkmenlcnjolaaGreatDoor
open Go.Ev
noncomputable def pe24 : Ent := ⟨41,[S 8 0 1],gl0 ++ [(C [I 0])],I 0,[]⟩
noncomputable def pe26 : Ent := ⟨41,[S 8 0 1],gl0 ++ [(C [I 1])],I 1,[]⟩
noncomputable def pe28 : Ent := ⟨41,[S 8 0 1],gl0 ++ [(C [I 2])],I 2,[]⟩
noncomputable def pe30 : Ent := ⟨41,[S 8 0 1],gl0 ++ [(C [I 3])],I 3,[]⟩
noncomputable def pe32 : Ent := ⟨41,[S 8 0 1],gl0 ++ [(C [I 4])],I 4,[]⟩
noncomputable def pe34 : Ent := ⟨41,[S 8 0 1],gl0 ++ [(C [I 5])],I 5,[]⟩
noncomputable def pe54 : Ent := ⟨41,[S 8 0 6],gl0 ++ [(C [I 5,I 0,I 0,I 0,I 0,I 0,o,S 9 0 1,o,z,I 0,I 0,I 0,I 0,I 0,I 0,o,z,o,z,I 0,I 0,I 0,I 0,I 0,I 0,o,z,o,z,I 0,I 0,I 0,I 0,I 0,I 0,o,z,o,z,I 0,I 0,I 0,I 0,I 0,I 0,o,z,o,z,I 0,I 0,I 0,I 0,I 0,I 0,o,z,o,z]),(C [U 1])],I 5,[]⟩
noncomputable def pe0 : Ent := ⟨167,[S 8 0 6],gl0 ++ [(C [(.str [48]),(.str [48]),(.str [48]),(.str [48]),(.str [48]),(.str [49])])],i,[]⟩
noncomputable def pe36 : Ent := ⟨176,[(A [o,z])],gl0 ++ [],i,[]⟩
noncomputable def pe45 : Ent := ⟨176,[(A [o,S 8 0 1])],gl0 ++ [(C [U 1])],o,[]⟩
noncomputable def pe56 : Ent := ⟨177,[(A [o,S 8 0 1])],gl0 ++ [(C [U 1])],(T [I 1,i]),[]⟩
noncomputable def pe38 : Ent := ⟨204,[o,z],gl0 ++ [],(A [o,z]),[]⟩
noncomputable def pe42 : Ent := ⟨204,[o,S 8 0 1],gl0 ++ [(C [U 1])],(A [o,S 8 0 1]),[]⟩
noncomputable def pe4 : Ent := ⟨256,[(.str [48])],gl0 ++ [],(T [(.str [48]),(.str [])]),[]⟩
noncomputable def pe14 : Ent := ⟨256,[(.str [49])],gl0 ++ [],(T [(.str [49]),(.str [])]),[]⟩
noncomputable def pe37 : Ent := ⟨268,[z,z],gl0 ++ [],z,[]⟩
noncomputable def pe41 : Ent := ⟨268,[z,S 8 0 1],gl0 ++ [(C [U 1])],S 8 0 1,[]⟩
noncomputable def pe49 : Ent := ⟨291,[U 1],gl0 ++ [],I 1,[]⟩
noncomputable def pe57 : Ent := ⟨324,[I 1],gl0 ++ [],(.str [49]),[]⟩
noncomputable def pe51 : Ent := ⟨335,[S 8 0 1,I 0,I 1,(.func 223 [] [])],gl0 ++ [(C [I 5,I 0,I 0,I 0,I 0,I 0,o,S 9 0 1,o,z,I 0,I 0,I 0,I 0,I 0,I 0,o,z,o,z,I 0,I 0,I 0,I 0,I 0,I 0,o,z,o,z,I 0,I 0,I 0,I 0,I 0,I 0,o,z,o,z,I 0,I 0,I 0,I 0,I 0,I 0,o,z,o,z,I 0,I 0,I 0,I 0,I 0,I 0,o,z,o,z]),(C [U 1])],(T []),[]⟩
noncomputable def pe1 : Ent := ⟨356,[(.str [48]),(.str [45])],gl0 ++ [],o,[]⟩
noncomputable def pe11 : Ent := ⟨356,[(.str [49]),(.str [45])],gl0 ++ [],o,[]⟩
noncomputable def pe6 : Ent := ⟨357,[(.str [48])],gl0 ++ [],z,[]⟩
noncomputable def pe16 : Ent := ⟨357,[(.str [49])],gl0 ++ [],S 8 0 1,[[U 1]]⟩
noncomputable def pc0 : List Ent := [pe24,pe26,pe28,pe30,pe32,pe34,pe54,pe0,pe36,pe45,pe56,pe38,pe42,pe4,pe14,pe37,pe41,pe49,pe57,pe51,pe1,pe11,pe6,pe16]
noncomputable def pd0 : List Ent := []
theorem pc0_h : lall (entB (cfE pd0)) pc0 = true := by decide +kernel
theorem pc0_ok : ∀ e ∈ pc0, EntOk Tryz.prog 8 e := mkOk (deps := pd0) noEnt pc0_h
noncomputable def pe25 : Ent := ⟨85,[S 8 0 1],gl0 ++ [(C [I 0])],i,[]⟩
noncomputable def pe27 : Ent := ⟨85,[S 8 0 1],gl0 ++ [(C [I 1])],i,[]⟩
noncomputable def pe29 : Ent := ⟨85,[S 8 0 1],gl0 ++ [(C [I 2])],i,[]⟩
noncomputable def pe31 : Ent := ⟨85,[S 8 0 1],gl0 ++ [(C [I 3])],i,[]⟩
noncomputable def pe33 : Ent := ⟨85,[S 8 0 1],gl0 ++ [(C [I 4])],i,[]⟩
noncomputable def pe35 : Ent := ⟨85,[S 8 0 1],gl0 ++ [(C [I 5])],i,[]⟩
noncomputable def pe55 : Ent := ⟨85,[S 8 0 6],gl0 ++ [(C [I 5,I 0,I 0,I 0,I 0,I 0,o,S 9 0 1,o,z,I 0,I 0,I 0,I 0,I 0,I 0,o,z,o,z,I 0,I 0,I 0,I 0,I 0,I 0,o,z,o,z,I 0,I 0,I 0,I 0,I 0,I 0,o,z,o,z,I 0,I 0,I 0,I 0,I 0,I 0,o,z,o,z,I 0,I 0,I 0,I 0,I 0,I 0,o,z,o,z]),(C [U 1])],i,[]⟩
noncomputable def pe46 : Ent := ⟨117,[(A [o,S 8 0 1,o,z])],gl0 ++ [(C [U 1])],o,[]⟩
noncomputable def pe47 : Ent := ⟨117,[(A [o,z,o,z])],gl0 ++ [],i,[]⟩
noncomputable def pe39 : Ent := ⟨200,[(A [o,z]),(A [o,z])],gl0 ++ [],(A [o,z]),[]⟩
noncomputable def pe43 : Ent := ⟨200,[(A [o,z]),(A [o,S 8 0 1])],gl0 ++ [(C [U 1])],(A [o,S 8 0 1]),[]⟩
noncomputable def pe50 : Ent := ⟨225,[U 1],gl0 ++ [],I 1,[]⟩
noncomputable def pe58 : Ent := ⟨266,[I 1,I 10],gl0 ++ [],(.str [49]),[]⟩
noncomputable def pe52 : Ent := ⟨280,[S 8 0 1,I 0,I 1,I 1,(.func 223 [] [])],gl0 ++ [(C [I 5,I 0,I 0,I 0,I 0,I 0,o,S 9 0 1,o,z,I 0,I 0,I 0,I 0,I 0,I 0,o,z,o,z,I 0,I 0,I 0,I 0,I 0,I 0,o,z,o,z,I 0,I 0,I 0,I 0,I 0,I 0,o,z,o,z,I 0,I 0,I 0,I 0,I 0,I 0,o,z,o,z,I 0,I 0,I 0,I 0,I 0,I 0,o,z,o,z]),(C [U 1])],(T []),[]⟩
noncomputable def pe2 : Ent := ⟨315,[(.str [48]),(.str [45])],gl0 ++ [],(T [(.str [48]),o]),[]⟩
noncomputable def pe12 : Ent := ⟨315,[(.str [49]),(.str [45])],gl0 ++ [],(T [(.str [49]),o]),[]⟩
noncomputable def pe7 : Ent := ⟨316,[(.str [48]),z],gl0 ++ [],z,[]⟩
noncomputable def pe17 : Ent := ⟨316,[(.str [49]),z],gl0 ++ [],S 8 0 1,[[U 1]]⟩
noncomputable def pc1 : List Ent := [pe25,pe27,pe29,pe31,pe33,pe35,pe55,pe46,pe47,pe39,pe43,pe50,pe58,pe52,pe2,pe12,pe7,pe17]
noncomputable def pd1 : List Ent := pc0
theorem pc1_h : lall (entB (cfE pd1)) pc1 = true := by decide +kernel
theorem pc1_ok : ∀ e ∈ pc1, EntOk Tryz.prog 8 e := mkOk (deps := pd1) pc0_ok pc1_h
noncomputable def pe40 : Ent := ⟨100,[(A [o,z,o,z]),(A [o,z,o,z])],gl0 ++ [],(A [o,z,o,z]),[]⟩
noncomputable def pe44 : Ent := ⟨100,[(A [o,z,o,z]),(A [o,S 8 0 1,o,z])],gl0 ++ [(C [U 1])],(A [o,S 8 0 1,o,z]),[]⟩
noncomputable def pe59 : Ent := ⟨198,[I 1,I 10],gl0 ++ [],(.str [49]),[]⟩
noncomputable def pe53 : Ent := ⟨222,[S 8 0 1,(.func 223 [] [])],gl0 ++ [(C [I 5,I 0,I 0,I 0,I 0,I 0,o,S 9 0 1,o,z,I 0,I 0,I 0,I 0,I 0,I 0,o,z,o,z,I 0,I 0,I 0,I 0,I 0,I 0,o,z,o,z,I 0,I 0,I 0,I 0,I 0,I 0,o,z,o,z,I 0,I 0,I 0,I 0,I 0,I 0,o,z,o,z,I 0,I 0,I 0,I 0,I 0,I 0,o,z,o,z]),(C [U 1])],(T []),[]⟩
noncomputable def pe3 : Ent := ⟨255,[(.str [48]),(.str [45])],gl0 ++ [],(T [(.str [48]),o]),[]⟩
noncomputable def pe13 : Ent := ⟨255,[(.str [49]),(.str [45])],gl0 ++ [],(T [(.str [49]),o]),[]⟩
noncomputable def pe8 : Ent := ⟨257,[(.str [48])],gl0 ++ [],z,[]⟩
noncomputable def pe18 : Ent := ⟨257,[(.str [49])],gl0 ++ [],S 8 0 1,[[U 1]]⟩
noncomputable def pc2 : List Ent := [pe40,pe44,pe59,pe53,pe3,pe13,pe8,pe18]
noncomputable def pd2 : List Ent := (lapp pc0 pc1)
theorem pc2_h : lall (entB (cfE pd2)) pc2 = true := by decide +kernel
theorem pc2_ok : ∀ e ∈ pc2, EntOk Tryz.prog 8 e := mkOk (deps := pd2) (memApp pc0_ok pc1_ok) pc2_h
noncomputable def pe48 : Ent := ⟨122,[S 8 0 1],gl0 ++ [(C [K 9 0 6 6]),(C [I 0,I 0,I 0,I 0,I 0,I 0,o,z,o,z,I 1,I 0,I 0,I 0,I 0,I 0,o,z,o,z,I 2,I 0,I 0,I 0,I 0,I 0,o,z,o,z,I 3,I 0,I 0,I 0,I 0,I 0,o,z,o,z,I 4,I 0,I 0,I 0,I 0,I 0,o,z,o,z,I 5,I 0,I 0,I 0,I 0,I 0,o,S 10 0 1,o,z]),(C [U 1])],K 11 0 1 6,[[I 5,I 0,I 0,I 0,I 0,I 0,o,S 10 0 1,o,z,I 0,I 0,I 0,I 0,I 0,I 0,o,z,o,z,I 0,I 0,I 0,I 0,I 0,I 0,o,z,o,z,I 0,I 0,I 0,I 0,I 0,I 0,o,z,o,z,I 0,I 0,I 0,I 0,I 0,I 0,o,z,o,z,I 0,I 0,I 0,I 0,I 0,I 0,o,z,o,z]]⟩
noncomputable def pc3 : List Ent := [pe48]
noncomputable def pd3 : List Ent := [pe40,pe44,pe46,pe47]
theorem pc3_h : lall (entB (cfA pd3)) pc3 = true := by decide +kernel
theorem pc3_ok : ∀ e ∈ pc3, EntOk Tryz.prog 8 e := mkOkA (deps := pd3) (cons1 (at1 pc2_ok 0 rfl) (cons1 (at1 pc2_ok 1 rfl) (cons1 (at1 pc1_ok 7 rfl) (cons1 (at1 pc1_ok 8 rfl) noEnt)))) pc3_h
noncomputable def pe60 : Ent := ⟨178,[I 1],gl0 ++ [],(.str [49]),[]⟩
noncomputable def pe5 : Ent := ⟨182,[(.str [48])],gl0 ++ [],(T [(A [o,(.str [48]),(.str [])]),i]),[]⟩
noncomputable def pe15 : Ent := ⟨182,[(.str [49])],gl0 ++ [],(T [(A [o,(.str [49]),(.str [])]),i]),[]⟩
noncomputable def pe9 : Ent := ⟨183,[(.str [48])],gl0 ++ [],(A [o,z]),[]⟩
noncomputable def pe19 : Ent := ⟨183,[(.str [49])],gl0 ++ [],(A [o,S 8 0 1]),[[U 1]]⟩
noncomputable def pc4 : List Ent := [pe60,pe5,pe15,pe9,pe19]
noncomputable def pd4 : List Ent := (lapp pc0 pc2)
theorem pc4_h : lall (entB (cfE pd4)) pc4 = true := by decide +kernel
theorem pc4_ok : ∀ e ∈ pc4, EntOk Tryz.prog 8 e := mkOk (deps := pd4) (memApp pc0_ok pc2_ok) pc4_h
noncomputable def pe61 : Ent := ⟨92,[(A [o,S 8 0 1,o,z])],gl0 ++ [(C [U 1])],(.str [49]),[]⟩
noncomputable def pe10 : Ent := ⟨102,[(.str [48])],gl0 ++ [],(T [(A [o,z,o,z]),i]),[]⟩
noncomputable def pe20 : Ent := ⟨102,[(.str [49])],gl0 ++ [],(T [(A [o,S 8 0 1,o,z]),i]),[[U 1]]⟩
noncomputable def pc5 : List Ent := [pe61,pe10,pe20]
noncomputable def pd5 : List Ent := (lapp pc0 pc4)
theorem pc5_h : lall (entB (cfE pd5)) pc5 = true := by decide +kernel
theorem pc5_ok : ∀ e ∈ pc5, EntOk Tryz.prog 8 e := mkOk (deps := pd5) (memApp pc0_ok pc4_ok) pc5_h
noncomputable def pe21 : Ent := ⟨115,[S 8 0 6],gl0 ++ [(C [(.str [48]),(.str [48]),(.str [48]),(.str [48]),(.str [48]),(.str [49])])],(T [K 9 0 6 6,i]),[[o,z,o,z,o,z,o,z,o,z,o,z,o,z,o,z,o,z,o,z,o,S 10 0 1,o,z],[U 1]]⟩
noncomputable def pe62 : Ent := ⟨121,[I 1,S 8 0 1],gl0 ++ [(C [I 5,I 0,I 0,I 0,I 0,I 0,o,S 9 0 1,o,z,I 0,I 0,I 0,I 0,I 0,I 0,o,z,o,z,I 0,I 0,I 0,I 0,I 0,I 0,o,z,o,z,I 0,I 0,I 0,I 0,I 0,I 0,o,z,o,z,I 0,I 0,I 0,I 0,I 0,I 0,o,z,o,z,I 0,I 0,I 0,I 0,I 0,I 0,o,z,o,z]),(C [U 1])],(T [(A [I 1,K 10 0 1 1]),I 0]),[[(.str [49]),K 11 0 1 1],[I 5]]⟩
noncomputable def pc6 : List Ent := [pe21,pe62]
noncomputable def pd6 : List Ent := (lapp pc1 (lapp pc2 pc5))
theorem pc6_h : lall (entB (cfE pd6)) pc6 = true := by decide +kernel
theorem pc6_ok : ∀ e ∈ pc6, EntOk Tryz.prog 8 e := mkOk (deps := pd6) (memApp pc1_ok (memApp pc2_ok pc5_ok)) pc6_h
noncomputable def pe63 : Ent := ⟨59,[I 1,S 8 0 6],gl0 ++ [(C [(.str [48]),K 9 0 1 1,(.str [48]),K 10 0 1 1,(.str [48]),K 11 0 1 1,(.str [48]),K 12 0 1 1,(.str [48]),K 13 0 1 1,(.str [49]),K 14 0 1 1]),(C [I 0]),(C [I 1]),(C [I 2]),(C [I 3]),(C [I 4]),(C [I 5])],(T [(A [I 1,K 15 0 1 1]),I 0]),[[(.str [49]),K 16 0 1 1],[I 5]]⟩
noncomputable def pe22 : Ent := ⟨120,[S 8 0 6],gl0 ++ [(C [(.str [48]),(.str [48]),(.str [48]),(.str [48]),(.str [48]),(.str [49])])],(T [K 9 0 6 6,i]),[[o,z,o,z,o,z,o,z,o,z,o,z,o,z,o,z,o,z,o,z,o,S 10 0 1,o,z],[U 1]]⟩
noncomputable def pc7 : List Ent := [pe63,pe22]
noncomputable def pd7 : List Ent := (lapp pc0 (lapp pc1 (lapp pc3 (lapp pc5 pc6))))
theorem pc7_h : lall (entB (cfE pd7)) pc7 = true := by decide +kernel
theorem pc7_ok : ∀ e ∈ pc7, EntOk Tryz.prog 8 e := mkOk (deps := pd7) (memApp pc0_ok (memApp pc1_ok (memApp pc3_ok (memApp pc5_ok pc6_ok)))) pc7_h
noncomputable def pe23 : Ent := ⟨58,[S 8 0 6],gl0 ++ [(C [(.str [48]),(.str [48]),(.str [48]),(.str [48]),(.str [48]),(.str [49])])],i,[]⟩
noncomputable def pc8 : List Ent := [pe23]
noncomputable def pd8 : List Ent := pc7
theorem pc8_h : lall (entB (cfE pd8)) pc8 = true := by decide +kernel
theorem pc8_ok : ∀ e ∈ pc8, EntOk Tryz.prog 8 e := mkOk (deps := pd8) pc7_ok pc8_h
noncomputable def pe64 : Ent := ⟨23,[S 8 0 6,I 1,I 0],gl0 ++ [(C [(.str [48]),(.str [48]),(.str [48]),(.str [48]),(.str [48]),(.str [49])])],(T [(A [I 1,.cell]),I 0]),[]⟩
noncomputable def pc9 : List Ent := [pe64]
noncomputable def pd9 : List Ent := [pe23,pe63]
theorem pc9_h : lall (entB (cfA pd9)) pc9 = true := by decide +kernel
theorem pc9_ok : ∀ e ∈ pc9, EntOk Tryz.prog 8 e := mkOkA (deps := pd9) (cons1 (at1 pc8_ok 0 rfl) (cons1 (at1 pc7_ok 0 rfl) noEnt)) pc9_h
noncomputable def c33 : List Ent := pc9
theorem c33_ok : ∀ e ∈ c33, EntOk Tryz.prog 8 e := pc9_ok
end Go.Proofs.YtofkmenlcnjolaaGreatDoor
