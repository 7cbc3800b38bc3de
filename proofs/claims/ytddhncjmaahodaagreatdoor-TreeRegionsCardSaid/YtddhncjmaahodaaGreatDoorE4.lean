/- Towards the law TreeRegions: lemmas on the evaluator of the model's code, plain laws of numbers, walks of the program's functions, the card. No conditions. -/
import Derived.Test.YtddhncjmaahodaaGreatDoorE3
set_option linter.all false
noncomputable section
open Bool renaming and_eq_true→cz,eq_false_iff→mB,false_ne_true→rJ,not_false→gS,not_true→dZ,or_eq_true→pE
open Classical renaming byContradiction→m6
open Go.Proofs.Tryz renaming prog→eW
open Int renaming natAbs_mul→nH,natAbs_natCast→cV,natAbs_neg→lO,natCast_mul→e7,toNat_natCast→bN
open List renaming append_assoc→eG,append_nil→fA,cons_append→fm,drop_eq_getElem_cons→kr,drop_of_length_le→i_,eq_nil_of_length_eq_zero→nI,getD_eq_getElem?_getD→c_,getElem?_append_left→k3,getElem?_append_right→pI,getElem?_drop→pJ,getElem?_eq_getElem→cH,getElem?_eq_some_iff→fo,getElem?_map→qE,getElem_mem→u_,length_append→bt,length_cons→di,length_drop→gF,length_map→lQ,length_nil→lR,length_pos_iff→vb,length_singleton→gm,length_take_of_le→gK,length_take→ep,length→jD,mem_append→gU,mem_cons→gL,mem_of_getElem?→er,mem_singleton→dH,merge→qF,nil_append→eM,pairwise_cons→rM,range→lS,replicate→br,take_append_drop→oC,take_append_of_le_length→xh,take_left'→qG,take_left→oD,take_of_length_le→cq,take_succ_eq_append_getElem→jZ,take_zero→nK
open Nat renaming add_comm→iy,add_mul→cZ,add_zero→cO,beq→bK,ble→b8,div_le_self→g7,gcd_dvd_right→ta,gcd_one_right→tc,gcd→cx,le_refl→aR,le_trans→cI,lt_of_le_of_lt→eH,lt_of_lt_of_le→ei,lt_succ_self→lU,min_eq_left→oH,mul_div_cancel→td,mul_le_mul_left→fc,mul_le_mul_right→dz,mul_le_mul→jO,mul_lt_mul_of_pos_right→ng,mul_one→dQ,mul→dW,one_mul→fM,pow_add→fX,pow_le_pow_left→vh,pow_le_pow_right→fN,pow_pos→e8,pow_succ→c3,reduceEqDiff→kz,sub_self→lV,succ_mul→pO,succ_pos→nh,zero_add→fB,zero_le→ck,zero_mul→jE
open Option renaming isSome→pP,none→aW
open Rat renaming divInt_ofNat→tj
open UInt8 renaming toNat_inj→vl
namespace Go.Proofs.YtddhncjmaahodaaGreatDoor
open Go.aE
def Pj:ah:=aB [bI 4 0]
def EP:ah:=bm [af 17 0,af 18 1,bD 19 .gtr 17 18] 19 (aB [bI 4 1]) Pj
def zM:ah:=bm [af 14 0,af 15 1,cw 16 14 15] 16 (aB [ex 4 (fq (kc (ai (-1))))]) EP
def zN:ah:=bm [af 13 6] 13 (aB [bI 4 1]) zM
def zO:ah:=bm [af 11 5] 11 (bm [af 12 6] 12 (aB [bI 4 0]) (aB [ex 4 (fq (kc (ai (-1))))])) zN
def Pk:ah:=an [af 9 1,bk 10 233 9,ao 6 10] zO
def Pm:ah:=an [af 7 0,bk 8 233 7,ao 5 8] Pk
def Ph:ah:=an [bI 4 0] Pm
theorem akL:aZ Tryz.f170 170 Ph [.tmp 4]:=bh
def Rq:ah:=aB [af 3 0,af 4 0,bD 5 .neq 3 4,ao 2 5]
def Rp:ah:=an [aP 2 aq] Rq
theorem alb:aZ Tryz.f233 233 Rp [.tmp 2]:=bh
def VN:ah:=.aH [b9 52 37 1,af 37 52]
def AS:ah:=.seq (.block 1 (an [aX 39 2 35 37,aL 40 2 39,ex 9 (alloc [(.str []),(.str [])]),aF 2 9 40] (an [aA 41 0 9,aC 42 41,ex 43 (iF (rd 42)),bH 44 .gtr 43 20,af 45 44,c6 45 false 46 1 9,c9 45 false 47 46,aN 45 false 48 (iF (rd 47)),ef 45 false 49 .gtr 48 20,en 50 45 49] (bl 50 (aB [ex 51 (bF 10 []),ao 4 51]) .skip)))) VN
def xW:ah:=.seq (bl 38 .skip (.exit 0)) AS
def Hw:ah:=an [cw 38 37 36] xW
def VT:ah:=aB [ex 154 (bF 10 []),af 155 154,bG 155 true 156 16,ef 155 true 157 .eql 156 0,dM 158 155 157,af 159 158,bG 159 true 160 14,bG 159 true 161 21,aN 159 true 162 (bi .eql (rd 160) (rd 161)),dM 163 159 162,af 164 163,bG 164 true 165 15,jY 164 true 166 4 22,aN 164 true 167 (bF 22 [(rd 166)]),aN 164 true 168 (bs .eql (rd 165) (rd 167)),dM 169 164 168,ao 4 169]
def VU:ah:=an [af 150 19,bk 151 21 150,af 149 151,bn 152 0 149,bn 153 1 149,ex 22 (alloc [aq,.ak,aq,.ak]),ao 21 152,aF 4 22 153] VT
def Hx:ah:=bm [af 134 20,fL 135 134] 135 (aB [ex 136 (bF 10 []),af 137 136,bG 137 true 138 16,ef 137 true 139 .eql 138 15,dM 140 137 139,af 141 140,bG 141 true 142 14,ef 141 true 143 .eql 142 0,dM 144 141 143,af 145 144,bG 145 true 146 15,aN 145 true 147 (bs .eql (rd 146) (kc (.str []))),dM 148 145 147,ao 4 148]) VU
def VV:ah:=an [af 130 10,bk 131 20 130,af 129 131,bn 132 0 129,bn 133 1 129,ao 19 132,ao 20 133] Hx
def VW:ah:=bm [af 120 13,bH 121 .neq 120 0,af 122 121,jY 122 false 123 5 12,jY 122 false 124 5 17,aN 122 false 125 (bF 9 [(rd 124)]),rg 122 false 123 (ct true 5 (rd 12)),aN 122 false 126 (bF 19 [(rd 123),(rd 125)]),aN 122 false 127 (not (rd 126)),en 128 122 127] 128 (aB [aP 4 aq]) VV
def VX:ah:=an [aL 115 5 6,af 116 10,bf 117 18 115 116,af 114 117,bn 118 0 114,bn 119 1 114,ex 17 (alloc [(ai 0),(ai 0),.ak,.ak,.ak]),aF 5 17 118,ao 18 119] VW
def Hr:ah:=bm [af 89 11,fL 90 89] 90 (aB [ex 91 (bF 10 []),af 92 91,bG 92 true 93 13,ef 92 true 94 .eql 93 1,dM 95 92 94,af 96 95,bG 96 true 97 16,ef 96 true 98 .eql 97 1,dM 99 96 98,af 100 99,c6 100 true 101 0 12,c9 100 true 102 101,aN 100 true 103 (fF (rd 102)),ef 100 true 104 .eql 103 0,dM 105 100 104,af 106 105,bG 106 true 107 14,ef 106 true 108 .eql 107 0,dM 109 106 108,af 110 109,bG 110 true 111 15,aN 110 true 112 (bs .eql (rd 111) (kc (.str []))),dM 113 110 112,ao 4 113]) VX
def Hs:ah:=bm [aL 84 5 7,aL 85 1 3,bf 86 17 84 85,af 87 11,ex 88 (be true .bool (rd 86) (rd 87))] 88 (aB [aP 4 aq]) Hr
def Ht:ah:=an [aL 78 5 7,aL 79 1 3,bf 80 16 78 79,af 77 80,bn 81 0 77,bn 82 1 77,bn 83 2 77,ao 14 81,ao 15 82,ao 16 83] Hs
def Hu:ah:=an [aL 72 5 7,aL 73 1 3,bf 74 15 72 73,af 71 74,bn 75 0 71,bn 76 1 71,ex 12 (alloc [.ak,(ai 0),.ak,.ak,.ak]),aF 5 12 75,ao 13 76] Ht
def AT:ah:=an [aA 65 0 6,aC 66 65,aL 67 1 3,bf 68 14 66 67,af 64 68,bn 69 0 64,bn 70 1 64,ao 10 69,ao 11 70] Hu
def VO:ah:=bm [af 53 5,ex 54 (bF 11 [(rd 53),(kc (ai 2))]),bH 55 .eql 54 0] 55 (.aH [af 56 5,aA 57 0 6,aC 58 57,af 59 5,ex 60 (bF 11 [(rd 59),(kc (ai 2))]),ey 58 57,bH 61 .eql 60 0,kG 62 13 56 58 61,bk 63 12 62,aF 1 3 63]) AT
def VP:ah:=.seq (an [aA 34 0 3,aC 35 34,aY 36 35,eL 37 (ai 0)] (.block 0 (.loop Hw))) VO
def Hv:ah:=bm [aA 29 0 3,aC 30 29,aY 31 30,bH 32 .gtr 31 4] 32 (aB [ex 33 (bF 10 []),ao 4 33]) VP
def VQ:ah:=an [aL 27 5 6,bk 28 9 27,ex 7 (alloc [.ak,(ai 0),.ak,.ak,.ak]),aF 5 7 28] Hv
def VR:ah:=an [af 25 5,bk 26 8 25,ex 6 (alloc [(ai 0),(ai 0),.ak,.ak,.ak]),aF 5 6 26] VQ
def VS:ah:=an [af 23 0,bk 24 7 23,ao 5 24] VR
def j7:ah:=an [b7 3 1,aP 4 aq] VS
theorem cu:aZ Tryz.f3 3 j7 [.tmp 4]:=bh
def Ee:ah:=.aH [b9 31 9 1,af 9 31]
def NL:ah:=.seq (.block 1 (an [aX 11 10 7 9,aL 12 10 11,ex 5 (alloc [aq,.ak,aq,.ak,aq,.ak,aq,.ak,aq,aq]),aF 10 5 12] (an [ex 6 (alloc [(.str []),(.str [])])] (bm [aA 13 8 5,aC 14 13] 14 (.aH [aA 15 0 5,aL 16 4 15,bk 17 22 16,aA 18 0 6,aF 1 18 17]) (bm [aA 19 9 5,aC 20 19] 20 (.aH [aA 21 4 5,aL 22 4 21,bk 23 22 22,aA 24 1 6,aF 1 24 23]) (.aH [aA 25 0 3,aC 26 25,aL 27 2 6,ex 28 (cW 1 [(0,2)] [(.str []),(.str [])] [(rd 27)]),eo 29 2 32 26 28,aA 30 0 3,aF 1 30 29])))))) Ee
def Ef:ah:=.seq (bl 10 .skip (.exit 0)) NL
def NM:ah:=an [cw 10 9 8] Ef
def NN:ah:=aB [aL 32 1 3,aF 1 2 32]
def NO:ah:=.seq (an [af 7 0,aY 8 7,eL 9 (ai 0)] (.block 0 (.loop NM))) NN
def NP:ah:=an [ex 3 (alloc [.ak])] NO
def Nx:ah:=an [ex 2 (alloc [.ak])] NP
theorem v9:aZ Tryz.f12 12 Nx [.cell 2 true 1]:=bh
def zG:ah:=.aH [af 13 8,b9 14 13 1,ao 8 14]
def NR:ah:=.seq (.block 1 (an [af 15 0,ex 16 (bF 52 [(rd 15),(kc (ai 3))]),af 17 2,af 18 17,bG 18 false 19 0,aN 18 false 20 (bF 11 [(rd 19),(kc (ai 4))]),ef 18 false 21 .gtr 20 0,en 22 18 21,af 23 2,af 24 23,bG 24 false 25 0,aN 24 false 26 (bF 11 [(rd 25),(kc (ai 4))]),ef 24 false 27 .gtr 26 0,en 28 24 27,ex 29 (cD [(0,4),(8,1),(9,1)] [aq,.ak,aq,.ak,aq,.ak,aq,.ak,aq,aq] [(rd 16),(rd 22),(rd 28)]),ex 9 (alloc [aq,.ak,aq,.ak,aq,.ak,aq,.ak,aq,aq]),aF 10 9 29] (an [aA 30 0 9,aL 31 4 30,af 32 0,bk 33 53 32,cQ 31 4 30,bf 34 37 31 33,aA 35 4 9,aF 4 35 34] (.aH [af 36 7,aL 37 10 9,ex 38 (cW 1 [(0,10)] [aq,.ak,aq,.ak,aq,.ak,aq,.ak,aq,aq] [(rd 37)]),eo 39 10 136 36 38,ao 7 39])))) zG
def NT:ah:=.seq (an [af 10 8,af 11 1,cw 12 10 11] (bl 12 .skip (.exit 0))) NR
def NU:ah:=aB [af 40 7,ao 6 40]
def NV:ah:=.seq (an [bI 8 0] (.block 0 (.loop NT))) NU
def NW:ah:=an [aP 7 .ak] NV
def NQ:ah:=an [aP 6 .ak] NW
theorem yb:aZ Tryz.f13 13 NQ [.tmp 6]:=bh
def Eo:ah:=.aH [b9 70 15 1,af 15 70]
def N3:ah:=.seq (.block 1 (an [aX 17 2 13 15,aL 18 2 17,ex 8 (alloc [(.str []),(.str [])]),aF 2 8 18] (an [aA 19 0 8,aC 20 19,ex 21 (bs .neq (rd 20) (kc (.str []))),aA 22 1 8,aC 23 22,ex 24 (bs .neq (rd 23) (kc (.str []))),ex 25 (cD [(8,1),(9,1)] [aq,.ak,aq,.ak,aq,.ak,aq,.ak,aq,aq] [(rd 21),(rd 24)]),ex 9 (alloc [aq,.ak,aq,.ak,aq,.ak,aq,.ak,aq,aq]),aF 10 9 25] (an [aP 10 cC,aP 11 cC] (bm [aA 26 8 9,aC 27 26] 27 (.aH [aA 29 0 8,aC 30 29,bk 31 44 30,af 28 31,bn 32 0 28,bn 33 1 28,aA 34 0 9,aF 4 34 32,ao 10 33]) (bm [aA 35 9 9,aC 36 35] 36 (.aH [aA 38 1 8,aC 39 38,bk 40 44 39,af 37 40,bn 41 0 37,bn 42 1 37,aA 43 4 9,aF 4 43 41,ao 11 42]) (bm [af 44 10,fL 45 44,af 46 45,bG 46 false 47 11,aN 46 false 48 (not (rd 47)),en 49 46 48,af 50 49,c6 50 false 51 8 9,c9 50 false 52 51,bG 50 false 53 52,c6 53 true 54 9 9,c9 53 true 55 54,aN 50 false 56 (pick (rd 53) (rd 55) (kc aq)),bG 50 false 57 56,c6 57 true 58 0 9,jY 57 true 59 4 58,c6 57 true 60 4 9,jY 57 true 61 4 60,aN 57 true 62 (bF 40 [(rd 59),(rd 61)]),ef 57 true 63 .geq 62 0,aN 50 false 64 (pick (rd 57) (rd 63) (kc aq)),en 65 50 64] 65 (aB [aP 4 .ak,aP 5 aq]) (.aH [af 66 6,aL 67 10 9,ex 68 (cW 1 [(0,10)] [aq,.ak,aq,.ak,aq,.ak,aq,.ak,aq,aq] [(rd 67)]),eo 69 10 136 66 68,ao 6 69])))))))) Eo
def Ep:ah:=.seq (bl 16 .skip (.exit 0)) N3
def N4:ah:=an [cw 16 15 14] Ep
def N5:ah:=aB [af 71 6,af 72 6,aY 73 72,af 74 0,bD 75 .eql 73 74,ao 4 71,ao 5 75]
def N6:ah:=.seq (an [aA 12 0 3,aC 13 12,aY 14 13,eL 15 (ai 0)] (.block 0 (.loop N4))) N5
def N7:ah:=an [aP 6 .ak] N6
def NX:ah:=an [b7 3 1,aP 4 .ak,aP 5 aq] N7
theorem sv:aZ Tryz.f14 14 NX [.tmp 4,.tmp 5]:=bh
def ON:ah:=aB [aL 11 5 2,aL 12 1 3,bf 13 54 11 12,bn 14 0 13,bn 15 1 13,aF 5 4 14,ao 5 15]
def EF:ah:=bm [aL 6 5 2,aL 7 1 3,bf 8 17 6 7,fL 9 8] 9 (aB [ex 10 (cD [] [.ak,(ai 0),.ak,.ak,.ak] []),aF 5 4 10,bI 5 1]) ON
def Er:ah:=an [b7 2 0,b7 3 1,ex 4 (alloc [.ak,(ai 0),.ak,.ak,.ak]),bI 5 0] EF
theorem Je:aZ Tryz.f15 15 Er [.cell 4 true 5,.tmp 5]:=bh
def zK:ah:=.aH [b9 47 27 1,af 27 47]
def Pa:ah:=.seq (.block 1 (an [af 29 27,aX 30 2 25 27,aL 31 2 30,ex 10 (alloc [(.str []),(.str [])]),ao 9 29,aF 2 10 31] (an [aA 32 1 10,aC 33 32,aA 34 0 10,aC 35 34,bf 36 56 33 35,ao 11 36] (an [af 37 9,bH 38 .eql 37 0,af 39 38,bG 39 false 40 11,bG 39 false 41 8,aN 39 false 42 (bF 57 [(rd 40),(rd 41)]),ef 39 false 43 .gtr 42 0,en 44 39 43] (bl 44 (.aH [af 45 9,af 46 11,ao 7 45,ao 8 46]) .skip))))) zK
def EM:ah:=.seq (bl 28 .skip (.exit 0)) Pa
def EN:ah:=an [cw 28 27 26] EM
def Pb:ah:=aB [af 53 7,aA 54 0 12,aC 55 54,aA 56 1 12,aC 57 56,bf 58 59 55 57,ex 59 (bF 58 [(kc (.str [49,47,50])),(rd 58)]),ao 4 53,ao 5 59,bI 6 0]
def Pc:ah:=an [aA 48 0 3,aC 49 48,af 50 7,aX 51 2 49 50,aL 52 2 51,ex 12 (alloc [(.str []),(.str [])]),aF 2 12 52] Pb
def Pd:ah:=.seq (an [aA 24 0 3,aC 25 24,aY 26 25,eL 27 (ai 0)] (.block 0 (.loop EN))) Pc
def Pe:ah:=an [bI 7 0,aP 8 (.str [])] Pd
def Pf:ah:=bm [aA 20 0 3,aC 21 20,aY 22 21,bH 23 .eql 22 0] 23 (aB [bI 4 0,aP 5 (.str []),bI 6 8]) Pe
def EO:ah:=bm [aL 17 1 3,bk 18 55 17,fL 19 18] 19 (aB [bI 4 0,aP 5 (.str []),bI 6 15]) Pf
def zL:ah:=bm [aL 13 5 2,aL 14 1 3,bf 15 17 13 14,fL 16 15] 16 (aB [bI 4 0,aP 5 (.str []),bI 6 1]) EO
def zI:ah:=an [b7 2 0,b7 3 1,bI 4 0,aP 5 (.str []),bI 6 0] zL
theorem v_:aZ Tryz.f16 16 zI [.tmp 4,.tmp 5,.tmp 6]:=bh
def PB:ah:=aB [aL 5 5 2,bk 6 60 5,af 7 6,jY 7 true 8 1 3,c6 7 true 9 0 2,c9 7 true 10 9,aN 7 true 11 (fF (rd 10)),aN 7 true 12 (bF 61 [(rd 8),(rd 11)]),dM 13 7 12,ao 4 13]
def Pg:ah:=an [b7 2 0,b7 3 1,aP 4 aq] PB
theorem BF:aZ Tryz.f17 17 Pg [.tmp 4]:=bh
def Qv:ah:=.aH [b9 57 42 1,af 42 57]
def Qw:ah:=.seq (.block 1 (an [af 44 42,ao 5 44] (an [aA 45 3 2,aC 46 45,af 47 5,aX 48 2 46 47,aL 49 2 48,aA 50 3 3,aC 51 50,af 52 5,aX 53 2 51 52,aL 54 2 53,bf 55 67 49 54,fL 56 55] (bl 56 (aB [aP 4 aq]) .skip)))) Qv
def Fe:ah:=.seq (bl 43 .skip (.exit 0)) Qw
def Ff:ah:=an [cw 43 42 41] Fe
def Qz:ah:=.aH [b9 76 61 1,af 61 76]
def QA:ah:=.seq (.block 3 (an [af 63 61,ao 6 63] (an [aA 64 4 2,aC 65 64,af 66 6,aX 67 2 65 66,aL 68 2 67,aA 69 4 3,aC 70 69,af 71 6,aX 72 2 70 71,aL 73 2 72,bf 74 67 68 73,fL 75 74] (bl 75 (aB [aP 4 aq]) .skip)))) Qz
def Fg:ah:=.seq (bl 62 .skip (.exit 2)) QA
def Fh:ah:=an [cw 62 61 60] Fg
def QB:ah:=aB [aP 4 cC]
def QC:ah:=.seq (an [aA 58 4 2,aC 59 58,aY 60 59,eL 61 (ai 0)] (.block 2 (.loop Fh))) QB
def Qx:ah:=.seq (an [aA 39 3 2,aC 40 39,aY 41 40,eL 42 (ai 0)] (.block 0 (.loop Ff))) QC
def Qy:ah:=bm [aA 7 0 2,aC 8 7,aA 9 0 3,aC 10 9,bf 11 66 8 10,fL 12 11,af 13 12,c6 13 false 14 1 2,jY 13 false 15 2 14,c6 13 false 16 1 3,jY 13 false 17 2 16,aN 13 false 18 (bF 67 [(rd 15),(rd 17)]),aN 13 false 19 (not (rd 18)),en 20 13 19,af 21 20,c6 21 false 22 3 2,c9 21 false 23 22,aN 21 false 24 (fF (rd 23)),c6 21 false 25 3 3,c9 21 false 26 25,aN 21 false 27 (fF (rd 26)),aN 21 false 28 (bi .neq (rd 24) (rd 27)),en 29 21 28,af 30 29,c6 30 false 31 4 2,c9 30 false 32 31,aN 30 false 33 (fF (rd 32)),c6 30 false 34 4 3,c9 30 false 35 34,aN 30 false 36 (fF (rd 35)),aN 30 false 37 (bi .neq (rd 33) (rd 36)),en 38 30 37] 38 (aB [aP 4 aq]) Qx
def Qu:ah:=an [b7 2 0,b7 3 1,aP 4 aq] Qy
theorem BH:aZ Tryz.f19 19 Qu [.tmp 4]:=bh
def QM:ah:=.aH [b9 29 9 1,af 9 29]
def zV:ah:=.seq (.block 1 (an [aX 11 10 7 9,aL 12 10 11,ex 6 (alloc [aq,.ak,aq,.ak,aq,.ak,aq,.ak,aq,aq]),aF 10 6 12] (bm [aA 13 8 6,aC 14 13,fL 15 14,af 16 15,c6 16 false 17 9 6,c9 16 false 18 17,aN 16 false 19 (not (rd 18)),en 20 16 19] 20 (aB [aP 2 .ak,aP 3 aq]) (.aH [af 21 4,aA 22 0 6,aL 23 4 22,aA 24 4 6,aL 25 4 24,ex 26 (cD [(0,4),(4,4)] [aq,.ak,aq,.ak,aq,.ak,aq,.ak] [(rd 23),(rd 25)]),ex 27 (cW 1 [(0,8)] [aq,.ak,aq,.ak,aq,.ak,aq,.ak] [(rd 26)]),eo 28 8 128 21 27,ao 4 28])))) QM
def xO:ah:=.seq (bl 10 .skip (.exit 0)) zV
def QN:ah:=an [cw 10 9 8] xO
def QO:ah:=aB [af 30 4,ao 2 30,aP 3 cC]
def QS:ah:=.seq (an [af 7 0,aY 8 7,eL 9 (ai 0)] (.block 0 (.loop QN))) QO
def QT:ah:=an [aP 4 .ak] QS
def vC:ah:=an [aP 2 .ak,aP 3 aq] QT
theorem ak2:aZ Tryz.f20 20 vC [.tmp 2,.tmp 3]:=bh
def Fo:ah:=.aH [b9 33 9 1,af 9 33]
def QY:ah:=.seq (.block 1 (an [af 11 9,aX 12 8 7 9,aL 13 8 12,ex 6 (alloc [aq,.ak,aq,.ak,aq,.ak,aq,.ak]),ao 5 11,aF 8 6 13] (an [aA 14 4 6,aL 15 4 14,aA 16 0 6,aL 17 4 16,af 19 0,af 20 4,aX 21 8 19 20,aA 22 4 21,aL 23 4 22,af 24 0,af 25 4,aX 26 8 24 25,aA 27 0 26,aL 28 4 27,bf 18 39 15 17,cQ 23 4 22,cQ 28 4 27,bf 29 39 23 28,bf 30 40 18 29,bH 31 .gtr 30 0] (bl 31 (.aH [af 32 5,ao 4 32]) .skip)))) Fo
def Fp:ah:=.seq (bl 10 .skip (.exit 0)) QY
def QZ:ah:=an [cw 10 9 8] Fp
def Q0:ah:=aB [af 34 4,af 38 0,af 39 4,aX 40 8 38 39,aA 41 0 40,aL 42 4 41,af 43 0,af 44 4,aX 45 8 43 44,aA 46 4 45,aL 47 4 46,ex 35 (bF 36 [(kc (ai 1))]),cQ 42 4 41,cQ 47 4 46,ex 36 (bF 36 [(kc (ai 2))]),cQ 42 4 41,cQ 47 4 46,bf 37 35 35 36,cQ 42 4 41,cQ 47 4 46,bf 48 37 42 47,bf 49 38 37 48,ao 2 34,aF 4 3 49]
def Q1:ah:=.seq (an [af 7 0,aY 8 7,eL 9 (ai 0)] (.block 0 (.loop QZ))) Q0
def Q2:ah:=an [bI 4 0] Q1
def QU:ah:=an [bI 2 0,ex 3 (alloc [aq,.ak,aq,.ak])] Q2
theorem ak4:aZ Tryz.f21 21 QU [.tmp 2,.cell 3 true 4]:=bh
def HH:ah:=.aH [b9 44 12 1,af 12 44]
def WD:ah:=.seq (.block 1 (an [af 14 12,aX 15 2 10 12,aL 16 2 15,ex 8 (alloc [(.str []),(.str [])]),ao 7 14,aF 2 8 16] (bm [aA 17 0 8,aC 18 17,ex 19 (bs .neq (rd 18) (kc (.str [])))] 19 (.aH [af 20 6,aA 21 0 3,aC 22 21,aY 23 22,af 24 7,aA 25 0 8,aC 26 25,bk 27 100 26,ey 22 21,ex 28 (bF 99 [(rd 23),(rd 24),(kc (.str [49])),(rd 27)]),ex 29 (cW 1 [(0,2)] [(ai 0),.ak] [(rd 28)]),eo 30 2 32 20 29,ao 6 30]) (an [aA 31 1 8,aC 32 31,ex 33 (bs .neq (rd 32) (kc (.str [])))] (bl 33 (.aH [af 34 6,aA 35 0 3,aC 36 35,aY 37 36,af 38 7,aA 39 1 8,aC 40 39,ex 41 (bF 99 [(rd 37),(rd 38),(kc (.str [45,49])),(rd 40)]),ex 42 (cW 1 [(0,2)] [(ai 0),.ak] [(rd 41)]),eo 43 2 32 34 42,ao 6 43]) .skip))))) HH
def HI:ah:=.seq (bl 13 .skip (.exit 0)) WD
def HJ:ah:=an [cw 13 12 11] HI
def WE:ah:=aB [aL 45 5 2,af 46 6,ex 47 (bF 101 [(rd 45),(rd 46),(kc .ak)]),bn 48 0 47,bn 49 1 47,aF 5 4 48,ao 5 49]
def WG:ah:=.seq (an [aA 9 0 3,aC 10 9,aY 11 10,eL 12 (ai 0)] (.block 0 (.loop HJ))) WE
def WH:ah:=an [aP 6 .ak] WG
def WC:ah:=an [b7 2 0,b7 3 1,ex 4 (alloc [.ak,(ai 0),.ak,.ak,.ak]),bI 5 0] WH
theorem aar:aZ Tryz.f54 54 WC [.cell 4 true 5,.tmp 5]:=bh
def WJ:ah:=aB [aA 3 0 1,aC 4 3,ex 5 (bF 102 [(rd 4),(kc (.func 103 [] []))]),fL 6 5,ao 2 6]
def WI:ah:=an [b7 1 0,aP 2 aq] WJ
theorem al':aZ Tryz.f55 55 WI [.tmp 2]:=bh
def HM:ah:=.aH [b9 55 15 1,af 15 55]
def W_:ah:=.seq (.block 1 (an [aX 17 2 13 15,aL 18 2 17,ex 6 (alloc [(.str []),(.str [])]),aF 2 6 18] (bm [aA 19 0 6,aC 20 19,ex 21 (bs .neq (rd 20) (kc (.str []))),af 22 21,c6 22 true 23 0 6,c9 22 true 24 23,aN 22 true 25 (bF 72 [(rd 24)]),aN 22 true 26 (not (rd 25)),dM 27 22 26,af 28 27,c6 28 false 29 1 6,c9 28 false 30 29,aN 28 false 31 (bs .neq (rd 30) (kc (.str []))),bG 28 false 32 31,c6 32 true 33 1 6,c9 32 true 34 33,aN 32 true 35 (bF 72 [(rd 34)]),aN 32 true 36 (not (rd 35)),aN 28 false 37 (pick (rd 32) (rd 36) (kc aq)),en 38 28 37] 38 (aB [aP 4 aq]) (an [aA 39 0 6,aC 40 39,ex 41 (bs .neq (rd 40) (kc (.str []))),af 42 41,c6 42 true 43 1 6,c9 42 true 44 43,aN 42 true 45 (bs .neq (rd 44) (kc (.str []))),dM 46 42 45,af 47 46,c6 47 true 48 0 6,c9 47 true 49 48,c6 47 true 50 1 6,c9 47 true 51 50,aN 47 true 52 (bF 57 [(rd 49),(rd 51)]),ef 47 true 53 .geq 52 0,dM 54 47 53] (bl 54 (aB [aP 4 aq]) .skip))))) HM
def HN:ah:=.seq (bl 16 .skip (.exit 0)) W_
def HO:ah:=an [cw 16 15 14] HN
def Xa:ah:=aB [aP 4 cC]
def Xb:ah:=.seq (an [aA 12 0 2,aC 13 12,aY 14 13,eL 15 (ai 0)] (.block 0 (.loop HO))) Xa
def Xc:ah:=bm [aA 7 0 2,aC 8 7,aY 9 8,af 10 1,bD 11 .neq 9 10] 11 (aB [aP 4 aq]) Xb
def W9:ah:=an [b7 2 0,aP 4 aq] Xc
theorem amf:aZ Tryz.f61 61 W9 [.tmp 4]:=bh
def Xo:ah:=.aH [b9 55 23 1,af 23 55]
def Xp:ah:=.seq (.block 1 (an [af 25 23,ao 5 25] (an [aA 26 1 2,aC 27 26,af 28 5,aX 29 2 27 28,aA 30 0 29,aC 31 30,aA 32 1 3,aC 33 32,af 34 5,aX 35 2 33 34,aA 36 0 35,aC 37 36,ex 38 (bs .neq (rd 31) (rd 37)),af 39 38,c6 39 false 40 1 2,c9 39 false 41 40,bG 39 false 42 5,aN 39 false 43 (dX none 2 (rd 41) (rd 42)),c6 39 false 44 1 43,c9 39 false 45 44,c6 39 false 46 1 3,c9 39 false 47 46,bG 39 false 48 5,aN 39 false 49 (dX none 2 (rd 47) (rd 48)),c6 39 false 50 1 49,c9 39 false 51 50,aN 39 false 52 (bF 117 [(rd 45),(rd 51)]),aN 39 false 53 (not (rd 52)),en 54 39 53] (bl 54 (aB [aP 4 aq]) .skip)))) Xo
def HQ:ah:=.seq (bl 24 .skip (.exit 0)) Xp
def Xq:ah:=an [cw 24 23 22] HQ
def Xr:ah:=aB [aP 4 cC]
def Xs:ah:=.seq (an [aA 20 1 2,aC 21 20,aY 22 21,eL 23 (ai 0)] (.block 0 (.loop Xq))) Xr
def Xt:ah:=bm [aA 6 0 2,aC 7 6,aA 8 0 3,aC 9 8,bD 10 .neq 7 9,af 11 10,c6 11 false 12 1 2,c9 11 false 13 12,aN 11 false 14 (fF (rd 13)),c6 11 false 15 1 3,c9 11 false 16 15,aN 11 false 17 (fF (rd 16)),aN 11 false 18 (bi .neq (rd 14) (rd 17)),en 19 11 18] 19 (aB [aP 4 aq]) Xs
def Xn:ah:=an [b7 2 0,b7 3 1,aP 4 aq] Xt
theorem amj:aZ Tryz.f67 67 Xn [.tmp 4]:=bh
def Ya:ah:=aB [aL 30 2 10,aF 2 8 30]
def Yb:ah:=an [af 18 0,af 19 2,af 20 9,ex 21 (cD [(0,1),(1,1)] [(.str []),.ak] [(rd 19),(rd 20)]),af 22 3,af 23 0,ex 24 (ms 8 [(ai 0)] (rd 23) (rd 23)),ex 25 (cD [(0,1),(1,1)] [(.str []),.ak] [(rd 22),(rd 24)]),ex 26 (cW 2 [(0,2),(2,2)] [(.str []),.ak] [(rd 21),(rd 25)]),bf 27 154 18 26,af 17 27,bn 28 0 17,bn 29 1 17,ex 10 (alloc [(ai 0),.ak]),aF 2 10 28,ao 11 29] Ya
def Yc:ah:=an [af 14 9,af 15 1,aX 16 1 14 15,eP (st 1 (rd 16) (kc (ai 1)))] Yb
def Yd:ah:=an [af 12 0,ex 13 (ms 8 [(ai 0)] (rd 12) (rd 12)),ao 9 13] Yc
def X_:ah:=an [ex 8 (alloc [(ai 0),.ak])] Yd
theorem amx:aZ Tryz.f99 99 X_ [.cell 8 true 2]:=bh
def Mt:ah:=.aH [b9 31 23 1,af 23 31]
def Mu:ah:=.seq (.block 1 (an [aX 25 2 21 23,aL 26 2 25,ex 10 (alloc [(ai 0),.ak]),aF 2 10 26] (an [aL 27 2 10,bk 28 115 27,fL 29 28] (bl 29 (aB [ex 30 (cD [] [.ak,(ai 0),.ak,.ak,.ak] []),aF 5 6 30,bI 7 1]) .skip)))) Mt
def DN:ah:=.seq (bl 24 .skip (.exit 0)) Mu
def DO:ah:=an [cw 24 23 22] DN
def MB:ah:=.aH [b9 45 34 1,af 34 45]
def MC:ah:=.seq (.block 3 (an [aX 36 2 32 34,aL 37 2 36,ex 12 (alloc [(ai 0),.ak]),aF 2 12 37] (an [aA 38 0 12,aC 39 38,aA 40 0 3,aC 41 40,aY 42 41,bD 43 .neq 39 42] (bl 43 (aB [ex 44 (cD [] [.ak,(ai 0),.ak,.ak,.ak] []),aF 5 6 44,bI 7 4]) .skip)))) MB
def DP:ah:=.seq (bl 35 .skip (.exit 2)) MC
def DQ:ah:=an [cw 35 34 33] DP
def MD:ah:=aB [aL 75 5 3,ex 76 (bF 156 [(rd 75),(kc (.func 157 [] []))]),bn 77 0 76,bn 78 1 76,aF 5 6 77,ao 7 78]
def ME:ah:=an [aA 69 4 3,aC 70 69,af 71 2,ex 72 (cW 2 [(0,1),(1,1)] [.ak] [(rd 70),(rd 71)]),bk 73 155 72,aA 74 4 3,aF 1 74 73] MD
def Mv:ah:=an [aA 63 3 3,aC 64 63,af 65 1,ex 66 (cW 2 [(0,1),(1,1)] [.ak] [(rd 64),(rd 65)]),bk 67 155 66,aA 68 3 3,aF 1 68 67] ME
def Mw:ah:=bm [aA 46 3 3,aC 47 46,aY 48 47,af 49 1,aY 50 49,cU 51 48 50,bH 52 .gtr 51 16,af 53 52,c6 53 false 54 4 3,c9 53 false 55 54,aN 53 false 56 (fF (rd 55)),bG 53 false 57 2,aN 53 false 58 (fF (rd 57)),aN 53 false 59 (bi .add (rd 56) (rd 58)),ef 53 false 60 .gtr 59 16,en 61 53 60] 61 (aB [ex 62 (cD [] [.ak,(ai 0),.ak,.ak,.ak] []),aF 5 6 62,bI 7 2]) Mv
def Mx:ah:=.seq (an [af 32 8,aY 33 32,eL 34 (ai 0)] (.block 2 (.loop DQ))) Mw
def My:ah:=.seq (an [af 21 8,aY 22 21,eL 23 (ai 0)] (.block 0 (.loop DO))) Mx
def Mz:ah:=an [af 17 1,af 18 2,ex 19 (cW 2 [(0,1),(1,1)] [.ak] [(rd 17),(rd 18)]),bk 20 155 19,ao 8 20] My
def MA:ah:=bm [aL 13 5 3,bk 14 60 13,fL 15 14] 15 (aB [ex 16 (cD [] [.ak,(ai 0),.ak,.ak,.ak] []),aF 5 6 16,bI 7 1]) Mz
def Ms:ah:=an [b7 3 0,ex 6 (alloc [.ak,(ai 0),.ak,.ak,.ak]),bI 7 0] MA
theorem aj_:aZ Tryz.f101 101 Ms [.cell 6 true 5,.tmp 7]:=bh
def MG:ah:=aB [af 5 0,af 6 1,bf 7 159 5 6,bH 8 .geq 7 0,ao 4 8]
def MF:ah:=an [aP 4 aq] MG
theorem aj':aZ Tryz.f102 102 MF [.tmp 4]:=bh
def DS:ah:=aB [aA 3 0 1,aC 4 3,ex 5 (bs .eql (rd 4) (kc (.str []))),af 6 5,c6 6 false 7 1 1,c9 6 false 8 7,aN 6 false 9 (bs .eql (rd 8) (kc (.str []))),en 10 6 9,ao 2 10]
def DR:ah:=an [b7 1 0,aP 2 aq] DS
theorem aka:aZ Tryz.f103 103 DR [.tmp 2]:=bh
def Oa:ah:=.aH [b9 63 23 1,af 23 63]
def Ob:ah:=.seq (.block 1 (an [af 25 23,aX 26 2 21 23,aL 27 2 26,ex 8 (alloc [(.str []),.ak]),ao 7 25,aF 2 8 27] (an [aA 29 0 8,aC 30 29,bk 31 163 30,af 28 31,bn 32 0 28,bn 33 1 28,ex 9 (alloc [aq,.ak,aq,.ak]),aF 4 9 32,ao 10 33] (bm [af 34 10,fL 35 34,af 36 35,c6 36 false 37 1 8,c9 36 false 38 37,aN 36 false 39 (fF (rd 38)),bG 36 false 40 0,aN 36 false 41 (bi .neq (rd 39) (rd 40)),en 42 36 41,af 43 42,c6 43 false 44 1 8,c9 43 false 45 44,aN 43 false 46 (bF 224 [(rd 45)]),aN 43 false 47 (not (rd 46)),en 48 43 47] 48 (aB [ex 49 (cD [] [(ai 0),.ak] []),aF 2 4 49,bI 5 1]) (an [af 50 6,af 51 7,aL 52 4 9,aX 53 10 50 51,aA 54 6 53,aF 4 54 52] (.aH [af 55 6,af 56 7,aX 57 10 55 56,aA 58 0 57,ex 59 (mY 6 1 false false false [(rd 58)]),aA 60 1 8,aC 61 60,ex 62 (r3 1 (rd 59) (rd 61))])))))) Oa
def Et:ah:=.seq (bl 24 .skip (.exit 0)) Ob
def vz:ah:=an [cw 24 23 22] Et
def Eu:ah:=aB [af 64 0,af 65 6,ex 66 (cW 1 [(0,1)] [.ak] [(rd 65)]),bk 67 225 66,bf 68 202 64 67,bn 69 0 68,bn 70 1 68,aF 2 4 69,ao 5 70]
def Oc:ah:=.seq (an [af 21 1,aY 22 21,eL 23 (ai 0)] (.block 0 (.loop vz))) Eu
def Od:ah:=an [af 18 1,aY 19 18,ex 20 (ms 112 [(ai 0),(ai 0),(ai 0),(ai 0),(ai 0),(ai 0),aq,.ak,aq,.ak] (rd 19) (rd 19)),ao 6 20] Oc
def Oe:ah:=bm [af 11 0,bH 12 .lss 11 0,af 13 12,bG 13 false 14 0,ef 13 false 15 .gtr 14 6,en 16 13 15] 16 (aB [ex 17 (cD [] [(ai 0),.ak] []),aF 2 4 17,bI 5 3]) Od
def N_:ah:=an [ex 4 (alloc [(ai 0),.ak]),bI 5 0] Oe
theorem akz:aZ Tryz.f154 154 N_ [.cell 4 true 2,.tmp 5]:=bh
def Ev:ah:=.aH [b9 22 11 1,af 11 22]
def Ew:ah:=.seq (.block 1 (an [aX 13 1 9 11,aC 14 13,ao 5 14] (an [af 15 3,af 16 5,aY 17 16,cU 18 15 17,ao 3 18] (an [af 19 3,bH 20 .lss 19 0] (bl 20 (.aH [ex 21 b4.bad,eP b4.bad]) .skip))))) Ev
def zH:ah:=.seq (bl 12 .skip (.exit 0)) Ew
def xJ:ah:=an [cw 12 11 10] zH
def tw:ah:=.aH [b9 34 27 1,af 27 34]
def xK:ah:=.seq (.block 3 (an [aX 29 1 25 27,aC 30 29,ao 8 30] (.aH [af 31 6,af 32 8,eo 33 2 32 31 32,ao 6 33]))) tw
def tA:ah:=.seq (bl 28 .skip (.exit 2)) xK
def rZ:ah:=an [cw 28 27 26] tA
def Ex:ah:=aB [af 35 6,ao 2 35]
def Ey:ah:=.seq (an [af 25 0,aY 26 25,eL 27 (ai 0)] (.block 2 (.loop rZ))) Ex
def Og:ah:=an [af 23 3,ex 24 (bF 226 [(kc .ak),(rd 23)]),ao 6 24] Ey
def Oh:ah:=.seq (an [af 9 0,aY 10 9,eL 11 (ai 0)] (.block 0 (.loop xJ))) Og
def Oi:ah:=an [bI 3 0] Oh
def Of:ah:=an [aP 2 .ak] Oi
theorem akA:aZ Tryz.f155 155 Of [.tmp 2]:=bh
def Ok:ah:=.aH [b9 57 37 1,af 37 57]
def Ol:ah:=.seq (.block 1 (an [aX 39 2 35 37,aL 40 2 39,ex 10 (alloc [(ai 0),.ak]),aF 2 10 40] (an [af 42 1,aL 43 2 10,ex 44 (pY [(rd 42),(rd 43)]),af 41 44,bn 45 0 41,bn 46 1 41,ex 11 (alloc [(ai 0),.ak]),aF 2 11 45,ao 12 46] (bm [af 47 12,bH 48 .neq 47 0] 48 (aB [ex 49 (cD [] [.ak,(ai 0),.ak,.ak,.ak] []),af 50 12,aF 5 4 49,ao 5 50]) (.aH [aA 51 3 6,aC 52 51,aL 53 2 11,ex 54 (cW 1 [(0,2)] [(ai 0),.ak] [(rd 53)]),eo 55 2 32 52 54,aA 56 3 6,aF 1 56 55]))))) Ok
def Ez:ah:=.seq (bl 38 .skip (.exit 0)) Ol
def EA:ah:=an [cw 38 37 36] Ez
def Ou:ah:=.aH [b9 81 61 1,af 61 81]
def Ov:ah:=.seq (.block 3 (an [aX 63 2 59 61,aL 64 2 63,ex 14 (alloc [(ai 0),.ak]),aF 2 14 64] (an [af 66 1,aL 67 2 14,ex 68 (pY [(rd 66),(rd 67)]),af 65 68,bn 69 0 65,bn 70 1 65,ex 15 (alloc [(ai 0),.ak]),aF 2 15 69,ao 16 70] (bm [af 71 16,bH 72 .neq 71 0] 72 (aB [ex 73 (cD [] [.ak,(ai 0),.ak,.ak,.ak] []),af 74 16,aF 5 4 73,ao 5 74]) (.aH [aA 75 4 6,aC 76 75,aL 77 2 15,ex 78 (cW 1 [(0,2)] [(ai 0),.ak] [(rd 77)]),eo 79 2 32 76 78,aA 80 4 6,aF 1 80 79]))))) Ou
def EB:ah:=.seq (bl 62 .skip (.exit 2)) Ov
def EC:ah:=an [cw 62 61 60] EB
def Ow:ah:=aB [aL 82 5 6,aF 5 4 82,bI 5 0]
def Ox:ah:=.seq (an [aA 58 4 2,aC 59 58,aY 60 59,eL 61 (ai 0)] (.block 2 (.loop EC))) Ow
def Om:ah:=.seq (an [aA 34 3 2,aC 35 34,aY 36 35,eL 37 (ai 0)] (.block 0 (.loop EA))) Ox
def On:ah:=an [aL 32 2 7,aA 33 1 6,aF 2 33 32] Om
def Oo:ah:=bm [af 28 8,bH 29 .neq 28 0] 29 (aB [ex 30 (cD [] [.ak,(ai 0),.ak,.ak,.ak] []),af 31 8,aF 5 4 30,ao 5 31]) On
def Oq:ah:=an [af 22 1,aA 23 1 2,aL 24 2 23,ex 25 (pY [(rd 22),(rd 24)]),af 21 25,bn 26 0 21,bn 27 1 21,ex 7 (alloc [(ai 0),.ak]),aF 2 7 26,ao 8 27] Oo
def Ot:ah:=an [aA 17 0 2,aC 18 17,bk 19 227 18,ex 20 (cD [(0,1)] [.ak,(ai 0),.ak,.ak,.ak] [(rd 19)]),ex 6 (alloc [.ak,(ai 0),.ak,.ak,.ak]),aF 5 6 20] Oq
def Oj:ah:=an [b7 2 0,ex 4 (alloc [.ak,(ai 0),.ak,.ak,.ak]),bI 5 0] Ot
theorem akB:aZ Tryz.f156 156 Oj [.cell 4 true 5,.tmp 5]:=bh
def Oz:ah:=aB [aL 4 2 1,bk 5 158 4,aF 2 2 5,bI 3 0]
def Oy:ah:=an [b7 1 0,ex 2 (alloc [(ai 0),.ak]),bI 3 0] Oz
theorem akC:aZ Tryz.f157 157 Oy [.cell 2 true 2,.tmp 3]:=bh
def OB:ah:=.aH [b9 27 12 1,af 12 27]
def OC:ah:=.seq (.block 1 (an [aX 14 2 10 12,aL 15 2 14,ex 5 (alloc [(.str []),.ak]),aF 2 5 15] (.aH [aA 16 1 3,aC 17 16,aA 18 0 5,aC 19 18,aA 20 1 5,aC 21 20,bk 22 228 21,ey 17 16,ey 19 18,ex 23 (cD [(0,1),(1,1)] [(.str []),.ak] [(rd 19),(rd 22)]),ex 24 (cW 1 [(0,2)] [(.str []),.ak] [(rd 23)]),eo 25 2 40 17 24,aA 26 1 3,aF 1 26 25]))) OB
def ED:ah:=.seq (bl 13 .skip (.exit 0)) OC
def OD:ah:=an [cw 13 12 11] ED
def OE:ah:=aB [aL 28 2 3,aF 2 2 28]
def OF:ah:=.seq (an [aA 9 1 1,aC 10 9,aY 11 10,eL 12 (ai 0)] (.block 0 (.loop OD))) OE
def OG:ah:=an [aA 6 0 1,aC 7 6,ex 8 (cD [(0,1)] [(ai 0),.ak] [(rd 7)]),ex 3 (alloc [(ai 0),.ak]),aF 2 3 8] OF
def OA:ah:=an [b7 1 0,ex 2 (alloc [(ai 0),.ak])] OG
theorem akD:aZ Tryz.f158 158 OA [.cell 2 true 2]:=bh
def OI:ah:=.aH [b9 18 8 1,af 8 18]
def OJ:ah:=.seq (.block 1 (an [af 10 8,ao 5 10] (an [af 11 1,af 12 0,af 13 5,aX 14 2 12 13,aL 15 2 14,ex 16 (pY [(rd 11),(rd 15)])] (bl 16 (aB [af 17 5,ao 4 17]) .skip)))) OI
def EE:ah:=.seq (bl 9 .skip (.exit 0)) OJ
def OK:ah:=an [cw 9 8 7] EE
def OL:ah:=aB [ex 4 (fq (kc (ai (-1))))]
def OM:ah:=.seq (an [af 6 0,aY 7 6,eL 8 (ai 0)] (.block 0 (.loop OK))) OL
def OH:ah:=an [bI 4 0] OM
theorem akE:aZ Tryz.f159 159 OH [.tmp 4]:=bh
def QE:ah:=.aH [b9 55 35 1,af 35 55]
def QF:ah:=.seq (.block 1 (an [af 37 35,aX 38 10 33 35,aL 39 10 38,ex 8 (alloc [(ai 0),(ai 0),(ai 0),(ai 0),(ai 0),(ai 0),aq,.ak,aq,.ak]),ao 7 37,aF 10 8 39] (an [af 40 0,ex 41 (ms 8 [(ai 0)] (rd 40) (rd 40)),ao 9 41] (an [af 42 9,aA 43 0 8,ex 44 (mY 6 1 false false false [(rd 43)]),ex 45 (r3 1 (rd 42) (rd 44))] (.aH [aA 46 1 6,aC 47 46,af 48 7,aA 49 6 8,aL 50 4 49,af 52 9,bk 51 108 50,ey 47 46,ex 53 (cD [(0,1),(1,1)] [(.str []),.ak] [(rd 51),(rd 52)]),aX 54 2 47 48,aF 2 54 53]))))) QE
def Fi:ah:=.seq (bl 36 .skip (.exit 0)) QF
def Fj:ah:=an [cw 36 35 34] Fi
def QG:ah:=aB [aL 56 2 6,aF 2 4 56,bI 5 0]
def QH:ah:=.seq (an [af 33 1,aY 34 33,eL 35 (ai 0)] (.block 0 (.loop Fj))) QG
def QI:ah:=an [af 28 0,af 29 1,aY 30 29,ex 31 (ms 40 [(.str []),.ak] (rd 30) (rd 30)),ex 32 (cD [(0,1),(1,1)] [(ai 0),.ak] [(rd 28),(rd 31)]),ex 6 (alloc [(ai 0),.ak]),aF 2 6 32] QH
def QJ:ah:=bm [af 16 1,aY 17 16,bH 18 .gtr 17 0,af 19 18,bG 19 true 20 1,aN 19 true 21 (dX none 10 (rd 20) (kc (ai 0))),c6 19 true 22 0 21,aN 19 true 23 (mY 6 1 false false false [(rd 22)]),aN 19 true 24 (bF 224 [(rd 23)]),aN 19 true 25 (not (rd 24)),dM 26 19 25] 26 (aB [ex 27 (cD [] [(ai 0),.ak] []),aF 2 4 27,bI 5 2]) QI
def QK:ah:=an [af 14 1,ex 15 (bF 274 [(rd 14),(kc (.func 275 [] []))])] QJ
def QL:ah:=bm [af 10 1,aY 11 10,bH 12 .gtr 11 4096] 12 (aB [ex 13 (cD [] [(ai 0),.ak] []),aF 2 4 13,bI 5 2]) QK
def QD:ah:=an [ex 4 (alloc [(ai 0),.ak]),bI 5 0] QL
theorem ak3:aZ Tryz.f202 202 QD [.cell 4 true 2,.tmp 5]:=bh
def Re:ah:=aB [ex 5 (cW 0 [] [(.str [])] []),af 6 0,eo 7 1 16 5 6,ao 2 7]
def Rf:ah:=bm [af 3 0,ex 4 (be false (.slice 9) (rd 3) (kc .ak))] 4 (aB [aP 2 .ak]) Re
def Rd:ah:=an [aP 2 .ak] Rf
theorem ak_:aZ Tryz.f227 227 Rd [.tmp 2]:=bh
def Rh:ah:=aB [ex 5 (cW 0 [] [(ai 0)] []),af 6 0,eo 7 1 8 5 6,ao 2 7]
def Ri:ah:=bm [af 3 0,ex 4 (be false (.slice 3) (rd 3) (kc .ak))] 4 (aB [aP 2 .ak]) Rh
def Rg:ah:=an [aP 2 .ak] Ri
theorem ak':aZ Tryz.f228 228 Rg [.tmp 2]:=bh
def Sy:ah:=.aH [af 7 0,af 8 4,af 9 4,c7 10 .u64 9,bk 11 145 10,af 12 1,ex 13 (bF 334 [(rd 7),(kc (ai 0)),(rd 8),(rd 11),(rd 12)])]
def Sx:ah:=an [af 5 0,aY 6 5,ao 4 6] Sy
theorem alu:aZ Tryz.f274 274 Sx []:=bh
def SA:ah:=aB [aA 5 0 3,ex 6 (mY 6 1 false false false [(rd 5)]),aA 7 0 2,ex 8 (mY 6 1 false false false [(rd 7)]),bf 9 276 6 8,ao 4 9]
def Sz:ah:=an [b7 2 0,b7 3 1,bI 4 0] SA
theorem alv:aZ Tryz.f275 275 Sz [.tmp 4]:=bh
def afb:ah:=bl 125 (an [af 126 18,af 127 20,bD 128 .geq 126 127,ao 10 128] (an [af 129 0,af 130 1,af 131 16,af 132 3,af 133 4,ex 134 (bF 334 [(rd 129),(rd 130),(rd 131),(rd 132),(rd 133)])] (.aH [af 135 16,b9 136 135 1,ao 1 136]))) (an [af 137 19,af 138 20,bD 139 .geq 137 138,ao 10 139] (an [af 140 0,af 141 16,b9 142 141 1,af 143 2,af 144 3,af 145 4,ex 146 (bF 334 [(rd 140),(rd 142),(rd 143),(rd 144),(rd 145)])] (.aH [af 147 16,ao 2 147])))
def afc:ah:=an [af 123 18,af 124 19,cw 125 123 124] afb
def aff:ah:=an [af 121 12,bH 122 .quo 121 8,ao 20 122] afc
def afg:ah:=an [af 115 16,af 116 1,bD 117 .sub 115 116,af 118 2,af 119 16,bD 120 .sub 118 119,ao 18 117,ao 19 120] aff
def afh:ah:=an [af 114 17,ao 11 114] afg
def afi:ah:=an [af 106 0,af 107 1,af 108 2,af 109 13,af 110 4,ex 111 (bF 379 [(rd 106),(rd 107),(rd 108),(rd 109),(rd 110)]),af 105 111,bn 112 0 105,bn 113 1 105,ao 16 112,ao 17 113] afh
def afj:ah:=bm [af 81 1,bH 82 .gtr 81 0,af 83 82,bG 83 true 84 4,bG 83 true 85 0,bG 83 true 86 1,ef 83 true 87 .sub 86 1,aN 83 true 88 (dX none 10 (rd 85) (rd 87)),jY 83 true 89 10 88,bG 83 true 90 0,bG 83 true 91 13,aN 83 true 92 (dX none 10 (rd 90) (rd 91)),jY 83 true 93 10 92,aN 83 true 94 (pY [(rd 84),(rd 89),(rd 93)]),ef 83 true 95 .lss 94 0,aN 83 true 96 (not (rd 95)),dM 97 83 96] 97 (an [af 98 0,af 99 1,af 100 2,af 101 13,af 102 4,ex 103 (bF 378 [(rd 98),(rd 99),(rd 100),(rd 101),(rd 102)]),ao 15 103] (an [af 104 15,ao 1 104] (.exit 1))) afi
def afk:ah:=bm [af 68 10,af 69 68,bG 69 true 70 11,dM 71 69 70,af 72 71,bG 72 true 73 14,ef 72 true 74 .eql 73 1,dM 75 72 74] 75 (an [af 76 0,af 77 1,af 78 2,af 79 4,ex 80 (bF 377 [(rd 76),(rd 77),(rd 78),(rd 79)])] (bl 80 .ret .skip)) afj
def afl:ah:=bm [af 55 14,bH 56 .eql 55 2] 56 (an [af 57 0,af 58 1,af 59 2,af 60 4,ex 61 (bF 376 [(rd 57),(rd 58),(rd 59),(rd 60)])] (an [af 62 2,cL 63 62 1,af 64 13,af 65 1,bD 66 .sub 64 65,bD 67 .sub 63 66,ao 13 67] (.aH [bI 14 1]))) afk
def afm:ah:=an [af 48 0,af 49 1,af 50 2,af 51 4,ex 52 (bF 375 [(rd 48),(rd 49),(rd 50),(rd 51)]),af 47 52,bn 53 0 47,bn 54 1 47,ao 13 53,ao 14 54] afl
def afd:ah:=bm [af 38 10,fL 39 38] 39 (an [af 40 0,af 41 1,af 42 2,af 43 4,ex 44 (bF 374 [(rd 40),(rd 41),(rd 42),(rd 43)])] (.aH [af 45 3,cL 46 45 1,ao 3 46])) afm
def afe:ah:=bm [af 31 3,bH 32 .eql 31 0] 32 (aB [af 33 0,af 34 1,af 35 2,af 36 4,ex 37 (bF 373 [(rd 33),(rd 34),(rd 35),(rd 36)])]) afd
def UE:ah:=bm [af 24 12,bH 25 .leq 24 12] 25 (aB [af 26 0,af 27 1,af 28 2,af 29 4,ex 30 (bF 372 [(rd 26),(rd 27),(rd 28),(rd 29)])]) afe
def UF:ah:=.block 1 (an [af 21 2,af 22 1,bD 23 .sub 21 22,ao 12 23] UE)
def UG:ah:=.block 0 (.loop UF)
def UH:ah:=an [aP 11 cC] UG
def UD:ah:=an [aP 10 cC] UH
theorem alO:aZ Tryz.f334 334 UD []:=bh
end Go.Proofs.YtddhncjmaahodaaGreatDoor
namespace Go.aV
def rv(s:List UInt8):Rat:=(numOf s).getD 0
theorem sP(q:Rat):rv (bS q)=q:=by unfold rv;rw[uD];rfl
variable{i:List UInt8}{y:Rat}
theorem mq(h:numOf i=some y):rv i=y:=by unfold rv;rw[h];rfl
theorem Cs(h:numOf i=none):rv i=0:=by unfold rv;rw[h];rfl
theorem abc:numOf [48]=some 0:=uD 0
theorem KH{q:Rat}(h:q.num<0):bS q=45::bS (-q):=by
 unfold bS;have a:(-q).num= -q.num:=rfl;have b:(-q).den=q.den:=rfl;rw[ay h,a,b,au (aa:¬-q.num<0),lO];rfl
theorem arq(h:0<y.num):bS (-y)=45::bS y:=by
 have a:(-y).num= -y.num:=rfl;have:=KH (q:= -y) (by rw[a];omega);rw[this,Rat.neg_neg]
theorem ac5:(∃t,bS y=45::t)↔y.num<0:=by
 constructor
 ·rintro⟨t,b⟩;refine m6 fun g=>?_
  have e:bS y=dec y.num.natAbs++(if y.den=1 then []else 47::dec y.den):=by unfold bS;rw[au g];rfl
  rw[e]at b;cases a:dec y.num.natAbs with
  |nil=>exact nU _ a
  |cons c l=>
   rw[a]at b;have d:dV c:=nT y.num.natAbs c (by rw[a];exact .head _);injection b with f _
   rw[f]at d;exact absurd d aj
 ·intro h;exact⟨_,KH h⟩
theorem arl:bS y=[48]↔y=0:=⟨fun h=>by have:=sP y;rw[h]at this;rw[←this,mq abc],fun h=>by rw[h];rfl⟩
end Go.aV
namespace Go.Proofs.YtddhncjmaahodaaGreatDoor
open Go.aE Go.aV
variable{i:List UInt8}
theorem mo{L:Nat}(h:i.length≤L):bB (4*L+1) (rv i):=by
 cases a:numOf i with
 |none=>
  rw[Cs a];refine⟨?_,?_⟩
  ·show 0<2^(4*L+1);exact Nat.two_pow_pos _
  ·show 1<2^(4*L+1);exact Nat.one_lt_two_pow aa
 |some q=>
  rw[mq a];have j:=uC a;have d:∀ {n l:Nat},(dec n).length≤l→l≤L→n<2^(4*L+1):=fun{n l} e f=>by
   have b:=nr (dec n) (nT n);rw[mM]at b;refine ei b ?_;refine cI (fN aj (cI e f)) ?_;have:(10:Nat)^L≤(2^4)^L:=vh aj L;rw[←Nat.pow_mul]at this;exact cI this (fN aj aa)
  have g:(dec q.num.natAbs).length+(if q.den=1 then []else 47::dec q.den).length≤i.length:=by
   rw[j];unfold bS;rw[bt,bt];omega
  refine⟨d (l:=i.length) aa h,?_⟩;by_cases c:q.den=1
  ·rw[c];exact Nat.one_lt_two_pow aa
  ·rw[au c,di]at g;exact d (l:=i.length) aa h
theorem sY(s:List UInt8)(b:s.length≤500):ff 106 [.str s] (cN (rv s)):=by
 refine fK (.cons (.str _) .nil) (bg akd ?_);have h:=J8 s b;have c:sD s=.aK [cN (rv s),.bool (numOf s).isSome]:=by
  cases a:numOf s with
  |none=>rw[JD a,Cs a];rfl
  |some q=>rw[B2 a,mq a];rfl
 rw[c]at h;unfold cN cm at h;simp only[go_sem,MP,MR];refine cy h cl ?_;simp only[go_sem,MQ];exact cX cl rfl (h_ _)
variable{y:Rat}
theorem rz(h:gJ i=some y):numOf i=some y∧y.num.natAbs<1000000000∧y.den<1000000000:=by
 unfold gJ at h;split at h
 ·rename_i e;refine⟨h,?_⟩;have g:=uC h;rw[g,CC]at e;obtain⟨_,d,a⟩:=e;simp only at d a;have b:=Bh _ (nT y.num.natAbs) d;rw[mM]at b;refine⟨b,?_⟩;unfold r5 at a;by_cases f:y.den=1
  ·rw[f];decide
  ·rw[au f]at a;have c:=Bh _ (nT y.den) a;rw[mM]at c;exact c
 ·cases h
theorem KO(s:List UInt8)(t:s.length≤500):ff 72 [.str s] (.bool (numOf s).isSome):=by
 refine fK (.cons (.str _) .nil) (bg aml ?_);have a:=Ko s aa;unfold wL at a;simp only[go_sem,XG,XJ];refine use a ?_;cases y:gJ s with
 |some q=>
  simp only[go_sem,pP,mX];rw[(rz y).1];exact cX cl rfl (.bool _)
 |none=>
  simp only[go_sem,XI,pP,mX];refine use (Kr s aa) ?_;obtain⟨k,x,g,w⟩:=JT s;have j:=acs s;have m:=acu s;unfold lG;generalize numOf s=o at*
  generalize dL s=p at*
  obtain⟨neg,n,d,B⟩:=p;simp only at k x g w j m;cases B with
  |false=>
   have:o=none:=m (fun h=>rJ h.1);rw[this];simp only[go_sem,A0];exact cX cl rfl (.bool _)
  |true=>
   by_cases b:d=[]
   ·have f:decide (d=[])=true:=bw b;obtain⟨q,e,_⟩:=j rfl (.inl b);rw[e];simp only[go_sem,A0,f];exact cX cl rfl (.bool _)
   ·have f:decide (d=[])=false:=bp b;have z:=B5 n k aa;have A:=B5 d g aa;have u:∀l:List UInt8,(∀c∈l,dV c)→l.length≤500→(ax (dv l)).length<80:=fun l t C=>by
     have v:dv l<2^2000:=@Go.aV.B7 (dv l) 10 l.length 2 4 2000 (nr l t) aj aa aj;have:=(dU.nat v).len (k:=32) aj;rw[cV]at this;omega
    have i:=ze (dv n:Int) (dv d:Int) (by rw[cV];exact u n k aa) (by rw[cV];exact u d g aa);rw[cV,cV]at i;have a:=xb ((cx (dv n) (dv d):Nat):Int);simp only[go_sem,A0,XH,f];refine use z ?_;simp only[go_sem,true_and];refine use A ?_;unfold b6 c5 at i a⊢;simp only[go_sem];refine cy i cl ?_;simp only[go_sem];refine use a ?_;simp only[go_sem];by_cases r:cx (dv n) (dv d)=1
    ·obtain⟨q,e,_⟩:=j rfl (.inr r);rw[e,bw (aa:((cx (dv n) (dv d):Nat):Int)=1)];exact cX cl rfl (.bool _)
    ·have:o=none:=m (fun h=>h.2.elim b r);rw[this,bp (aa:¬((cx (dv n) (dv d):Nat):Int)=1)];exact cX cl rfl (.bool _)
theorem anT(s:List UInt8)(n:s.length≤500):ff 100 [.str s] (.str (bS (-(rv s)))):=by
 refine fK (.cons (.str _) .nil) (bg aj9 ?_);have v:=KO s n;by_cases d:s=[48]
 ·have h:decide (s=[48])=true:=bw d;simp only[go_sem,DL,DM,h];rw[d,mq abc];exact cX cl rfl (.str _)
 ·have h:decide (s=[48])=false:=bp d;simp only[go_sem,DL,DM,h];refine cy v cl ?_;cases g:numOf s with
  |none=>
   simp only[go_sem,pP];rw[Cs g];exact cX cl rfl (.str _)
  |some q=>
   have a:=uC g;rw[mq g];have w:q.num≠0:=fun e=>d (by rw[a,arl];exact Rat.num_eq_zero.1 e)
   obtain⟨c,t,b⟩:∃c t,s=c::t:=by
    cases b:s with
    |nil=>
     rw[b]at a;have:=congrArg jD a;unfold bS at this;rw[bt,bt]at this;have:=r4 q.num.natAbs;simp at*;omega
    |cons c t=>exact⟨c,t,rfl⟩
   have j:jS [.str s,ai 0]=some (.val (.int .u8 (c.toNat:Int))):=nt aj (by rw[b];rfl);by_cases f:c=45
   ·have o:q.num<0:=ac5.1 ⟨t,by rw[←a,b,f]⟩;have i:decide (((c.toNat:Nat):Int)=45)=true:=bw (by rw[f];rfl);have r:slice3 kg true false false [.str s,ai 1]=some (.val (.str (bS (-q)))):=by
     have:=KH o;rw[←a]at this;rw[uP ⟨aj,by rw[b];simp;omega⟩,this];rfl
    simp only[go_sem,pP,j,i,r];exact cX cl rfl (.str _)
   ·have p:0<q.num:=by
     refine m6 fun g=>?_
     obtain⟨u,k⟩:=ac5.2 (aa:q.num<0);rw[←a,b]at k;injection k with l _
     exact f l
    have i:decide (((c.toNat:Nat):Int)=45)=false:=bp fun e=>f (vl.1 (by show c.toNat=45;omega))
    have m:od (oP .add) [.str [45],.str s]=some (.val (.str (45::s))):=wH (s:=[45]) (t:=s) (by simp;omega);simp only[go_sem,Mr,pP,j,i,m];refine cX cl ?_ (.str _);rw[arq p,←a]
theorem Yw(x:Int):bA 233 [ai x] aq:=by
 refine cT (.cons (.int _ _) .nil) (.bool _) (bg alb ?_);have a:decide (x=x)=true:=bw rfl;simp only[go_sem,Rp,Rq];trivial
theorem af7(x y:Int):bA 170 [ai x,ai y] (ai (eX x y)):=by
 refine cT (.cons (.int _ _) (.cons (.int _ _) .nil)) (.int _ _) (bg akL ?_);simp only[go_sem,Ph,Pm];refine use (Yw x) ?_;simp only[go_sem,Pk];refine use (Yw y) ?_;unfold eX;by_cases a:x<y
 ·rw[ay a];simp(disch:=assumption)only[go_sem,zO,zN,zM,dt]
 ·rw[au a];by_cases b:y<x
  ·rw[ay b];simp(disch:=assumption)only[go_sem,zO,zN,zM,EP,df,dt]
  ·rw[au b];simp(disch:=assumption)only[go_sem,zO,zN,zM,EP,Pj,df]
theorem af8(x y:Int):bA 109 [ai x,ai y] (ai (eX x y)):=by
 refine cT (.cons (.int _ _) (.cons (.int _ _) .nil)) (.int _ _) (bg akg ?_);simp only[go_sem,MW,MX];refine use (af7 x y) ?_;simp only[go_sem]
theorem anG(n:Int)(h: -9223372036854775808<n):oR max2 [ai n,ai (-n)]=some (.val (ai (n.natAbs:Int))):=by
 have e:max2 (ai n) (ai (-n))=some (ai (n.natAbs:Int)):=by
  show some (V.int .i64 (match j9 n (-n)with|true=> -n|false=>n))=_;rw[n3];by_cases b:n< -n
  ·rw[bw b];show some (V.int .i64 (-n))=_;rw[(aa: -n=(n.natAbs:Int))]
  ·rw[bp b];show some (V.int .i64 n)=_;rw[(aa:n=(n.natAbs:Int)),cV]
 show av (av (max2 (ai n) (ai (-n))) fun a=>some a) (fun v=>some (bx.val v))=_;rw[e];rfl
theorem adw{z:Int}(h:z.natAbs<9223372036854775808):(zt z).length≤21:=by
 have:=Ir (aa:z.natAbs<18446744073709551616);unfold zt;split<;>simp<;>omega
theorem asb:([V.int .u8 0,.int .u8 0,.int .u8 0,.int .u8 0,.int .u8 0,.int .u8 0,.int .u8 0,.int .u8 0,.int .u8 0,.int .u8 0,.int .u8 0,.int .u8 0,.int .u8 0,.int .u8 0,.int .u8 0,.int .u8 0,.int .u8 0,.int .u8 0,.int .u8 0,.int .u8 0,.int .u8 0,.int .u8 0,.int .u8 0,.int .u8 0,.int .u8 0,.int .u8 0,.int .u8 0,.int .u8 0,.int .u8 0,.int .u8 0,.int .u8 0,.int .u8 0,.int .u8 0,.int .u8 0,.int .u8 0,.int .u8 0,.int .u8 0,.int .u8 0,.int .u8 0,.int .u8 0,.int .u8 0,.int .u8 0,.int .u8 0,.int .u8 0,.int .u8 0,.int .u8 0,.int .u8 0,.int .u8 0]:List V)=cn (br 48 0):=rfl
theorem ZC(n d:Int)(w:n.natAbs<9223372036854775808)(E:0<d∧d<9223372036854775808)(F:Fr)(f:rd 0 F=ai n)(b:rd 1 F=ai d):
 bT zB (gl [.tmp 4] fun p a=>GT a∧∃v,cr a (dG.lW a.next) p v∧bZ v∧v=.str (if d=1 then zt n else zt n++[47]++zt d)) F dG:=by
 by_cases i:d=1
 ·rw[ay i];have s:=ZB n aa;simp(disch:=assumption)only[go_sem,zB,f,b,dt];refine cy s gv ?_;simp only[go_sem];exact cX gv rfl (.str _)
 ·rw[au i];have y:slice3 (lK 48 1) false true false [.ptr 5 0,ai 0]=some (.val (.slice 5 0 0 (.known 48))):=by
   rw[Cx,sR aa];rfl
  have j:GT (dG.push (.cells (cn (br 48 0)) 0)):=gv.push aj _;have t:(dG.push (.cells (cn (br 48 0)) 0)).get 5=.cells (cn (br 48 0)) 0:=by
   rw[ag.bE,ay Jz]
  have r:eI (dG.push (.cells (cn (br 48 0)) 0)) (.slice 5 0 0 (.known 48)) [] 5 48 true:=.bP (l:=[]) (rest:=br 48 0) (by rw[eM];exact t) rfl (lU 5) aj aj;have I:=adw w;have J:=adw (z:=d) aa;simp(disch:=assumption)only[go_sem,zB,MO,MN,b,df];rw[asb];simp only[go_sem,y,f];refine(LB n aa _ r (by simp;omega) j (by show 5≤6;decide) (.inr (aR 5))).mono ?_;rintro p a ⟨l,o,c⟩;rw[eM]at o;have x:=c.next
  have G:6≤a.next:=x
  have q:=sn c j (by show 5≤6;decide) (.inr (aR 5));have u:l=0∨5≤l:=by
   have:(dG.push (.cells (cn (br 48 0)) 0)).next=6:=rfl
   rcases c.key with h|⟨_,h⟩<;>omega
  simp only[go_sem,MM];refine w6 o 47 aa aa rfl ?_;intro K C m A e;have H:=e.next
  have g:=sn e q aa u;have k:m=0∨5≤m:=by
   rcases e.key with h|⟨_,h⟩<;>omega
  simp only[go_sem,ML,b];refine(LB d aa _ A (by simp;omega) g aa k).mono ?_;rintro L D ⟨cu,B,z⟩;simp only[go_sem,B.str];exact cX (sn z g aa k) rfl (.str _)
theorem IW(n d:Int)(x:n.natAbs<4611686018427387904)(u:0<d∧d<4611686018427387904):ff 105 [ai n,ai d] (.str (bS (mkRat n d.toNat))):=by
 refine fK (.cons (.int _ _) (.cons (.int _ _) .nil)) (bg akc ?_);have j:d.toNat≠0:=aa;have c:decide (d<0)=false:=bp aa;have l:=wq n j;have m:=BT n j;have q:bS (mkRat n d.toNat)=if((mkRat n d.toNat).den:Int)=1 then zt (mkRat n d.toNat).num else zt (mkRat n d.toNat).num++[47]++zt ((mkRat n d.toNat).den:Int):=by
  by_cases h:(mkRat n d.toNat).den=1
  ·rw[ac8 h,ay aa]
  ·rw[ac4 h,au aa]
 rw[q,l,m];by_cases b:d=1
 ·subst b;have a:cx n.natAbs (1:Int).toNat=1:=tc _;rw[a,show((1:Nat):Int)=1 from rfl,Int.tdiv_one];have e:decide ((1:Int)=1)=true:=rfl;simp only[go_sem,DV,DX,DW,c];refine ZC n 1 aa aa _ ?_ ?_
  iterate 2 simp only[go_sem]
 ·have e:decide (d=1)=false:=bp b;have r:aG .i64 (-n)= -n:=aQ _ aa;have a:=ZQ n.natAbs d.toNat aa aa;rw[(aa:((d.toNat:Nat):Int)=d)]at a;have i:0<cx n.natAbs d.toNat:=Nat.gcd_pos_of_pos_right _ aa;have f:cx n.natAbs d.toNat≤d.toNat:=Nat.gcd_le_right _ aa;have p:cx n.natAbs d.toNat∣d.toNat:=ta _ _;obtain⟨g,aN⟩:∃g,g=cx n.natAbs d.toNat:=⟨_,rfl⟩;rw[←aN]at a i f p⊢;have k:((g:Nat):Int)≠0:=aa;have y:(n.tdiv (g:Int)).natAbs≤n.natAbs:=by
   rw[Int.natAbs_tdiv];exact g7 _ _
  have s:aG .i64 (n.tdiv (g:Int))=n.tdiv (g:Int):=aQ _ aa;have o:d.tdiv (g:Int)=((d.toNat/g:Nat):Int):=by
   have:=qp d.toNat g;rw[(aa:((d.toNat:Nat):Int)=d)]at this;exact this
  have v:d.toNat/g≤d.toNat:=g7 _ _;have w:0<d.toNat/g:=Nat.div_pos f i;have t:aG .i64 (d.tdiv (g:Int))=((d.toNat/g:Nat):Int):=by rw[o];exact aQ _ aa
  simp only[go_sem,DV,DX,DW,c,e,r,anG n aa];refine use a ?_;simp only[go_sem,iC .i64 n (g:Int) k,iC .i64 d (g:Int) k,s,t];refine ZC (n.tdiv (g:Int)) ((d.toNat/g:Nat):Int) aa aa _ ?_ ?_
  iterate 2 simp only[go_sem]
theorem lD{a b:Int}(c:a.natAbs<1000000000)(d:b.natAbs<1000000000):(a*b).natAbs<1000000000000000000:=by
 rw[nH];have:=jO (Nat.le_of_lt_succ c:a.natAbs≤999999999) (Nat.le_of_lt_succ d:b.natAbs≤999999999);omega
variable{a:Nat}{g:Nat}
theorem BZ(b:a≠0)(c:g≠0):0<(a:Int)*(g:Int):=Int.mul_pos aa aa
theorem Cv{t:List UInt8}{q:Rat}(a:gJ i=some y)(b:gJ t=some q):oc i t=.aK [.agg [ai y.num,ai (y.den:Int)],.agg [ai q.num,ai (q.den:Int)],cC]:=by unfold oc;rw[a,b];rfl
theorem sQ{t:List UInt8}(h:gJ i=none∨gJ t=none):oc i t=.aK [.agg [ai 0,ai 0],.agg [ai 0,ai 0],aq]:=by
 unfold oc;rcases h with h|h
 ·rw[h];rfl
 ·rw[h];split
  ·rename_i a;cases a
  ·rfl
theorem Yz(s t:List UInt8)(r:s.length≤500)(u:t.length≤500)(l:bB a (rv s))(m:bB g (rv t))(C:a+g≤1900):ff 57 [.str s,.str t] (ai (ig (rv s-rv t))):=by
 refine fK (.cons (.str _) (.cons (.str _) .nil)) (bg amb ?_);have b:=Cw s t aa aa;simp only[go_sem,WN,WQ];have x:oc s t=.aK [.agg [ai 0,ai 0],.agg [ai 0,ai 0],aq]∨∃p q,gJ s=some p∧gJ t=some q:=by
  cases j:gJ s with
  |none=>exact .inl (sQ (.inl j))
  |some p=>
   cases k:gJ t with
   |none=>exact .inl (sQ (.inr k))
   |some q=>exact .inr ⟨p,q,rfl,rfl⟩
 rcases x with n|⟨p,q,c,d⟩
 ·rw[n]at b;refine use b ?_;have y:=sY s r;have z:=sY t u;have o:=ao1 (rv s) (rv t) l m aa;simp only[go_sem,WO];refine cy y cl ?_;simp only[go_sem];refine cy z cl ?_;simp only[go_sem];refine use o ?_;simp only[go_sem];exact cX cl rfl (.int _ _)
 ·obtain⟨v,e,f⟩:=rz c;obtain⟨w,h,i⟩:=rz d;rw[Cv c d]at b;rw[mq v,mq w];have D:=lD (a:=p.num) (b:=(q.den:Int)) e (by rw[cV];exact i);have E:=lD (a:=q.num) (b:=(p.den:Int)) h (by rw[cV];exact f);have F:=lD (a:=(p.den:Int)) (b:=(q.den:Int)) (by rw[cV];exact f) (by rw[cV];exact i);have G:=lD (a:=p.num) (b:=q.num) e h;have H:=BZ p.den_nz q.den_nz;have A:aG .i64 (p.num*(q.den:Int))=p.num*(q.den:Int):=aQ _ aa;have B:aG .i64 (q.num*(p.den:Int))=q.num*(p.den:Int):=aQ _ aa;have I:aG .i64 ((p.den:Int)*(q.den:Int))=(p.den:Int)*(q.den:Int):=aQ _ aa;have J:aG .i64 (p.num*q.num)=p.num*q.num:=aQ _ aa;have K:aG .i64 (p.num*(q.den:Int)+q.num*(p.den:Int))=p.num*(q.den:Int)+q.num*(p.den:Int):=aQ _ aa;have L:aG .i64 (p.num*(q.den:Int)-q.num*(p.den:Int))=p.num*(q.den:Int)-q.num*(p.den:Int):=aQ _ aa;refine use b ?_;simp only[go_sem,A,B];rw[aco];refine use (af8 _ _) ?_;simp only[go_sem];exact cX cl rfl (.int _ _)
theorem aqR(s t:List UInt8)(v:s.length≤500)(x:t.length≤500)(c:bB a (rv s))(d:bB g (rv t))(H:a+g+1≤1900):ff 56 [.str s,.str t] (.str (bS (rv s-rv t))):=by
 refine fK (.cons (.str _) (.cons (.str _) .nil)) (bg ama ?_);have b:=Cw s t aa aa;simp only[go_sem,WK,WM];have A:oc s t=.aK [.agg [ai 0,ai 0],.agg [ai 0,ai 0],aq]∨∃p q,gJ s=some p∧gJ t=some q:=by
  cases m:gJ s with
  |none=>exact .inl (sQ (.inl m))
  |some p=>
   cases n:gJ t with
   |none=>exact .inl (sQ (.inr n))
   |some q=>exact .inr ⟨p,q,rfl,rfl⟩
 rcases A with o|⟨p,q,f,h⟩
 ·rw[o]at b;refine use b ?_;have B:=sY s v;have C:=sY t x;have r:=ao4 (rv s) (rv t) c d aa;simp only[go_sem,WL];refine cy B cl ?_;simp only[go_sem];refine cy C cl ?_;simp only[go_sem];refine cy r cl ?_;simp only[go_sem];have w:=Ca (rv s-rv t) (k:=a+g+1) (c.sub d) aa;refine cy w cl ?_;simp only[go_sem];exact cX cl rfl (.str _)
 ·obtain⟨y,i,j⟩:=rz f;obtain⟨z,k,l⟩:=rz h;rw[Cv f h]at b;rw[mq y,mq z];have I:=lD (a:=p.num) (b:=(q.den:Int)) i (by rw[cV];exact l);have J:=lD (a:=q.num) (b:=(p.den:Int)) k (by rw[cV];exact j);have K:=lD (a:=(p.den:Int)) (b:=(q.den:Int)) (by rw[cV];exact j) (by rw[cV];exact l);have L:=lD (a:=p.num) (b:=q.num) i k;have M:=BZ p.den_nz q.den_nz;have D:aG .i64 (p.num*(q.den:Int))=p.num*(q.den:Int):=aQ _ aa;have E:aG .i64 (q.num*(p.den:Int))=q.num*(p.den:Int):=aQ _ aa;have F:aG .i64 ((p.den:Int)*(q.den:Int))=(p.den:Int)*(q.den:Int):=aQ _ aa;have N:aG .i64 (p.num*q.num)=p.num*q.num:=aQ _ aa;have O:aG .i64 (p.num*(q.den:Int)+q.num*(p.den:Int))=p.num*(q.den:Int)+q.num*(p.den:Int):=aQ _ aa;have G:aG .i64 (p.num*(q.den:Int)-q.num*(p.den:Int))=p.num*(q.den:Int)-q.num*(p.den:Int):=aQ _ aa;refine use b ?_;simp only[go_sem,D,E,F,G];have e:=IW (p.num*(q.den:Int)-q.num*(p.den:Int)) ((p.den:Int)*(q.den:Int)) aa aa;have u:mkRat (p.num*(q.den:Int)-q.num*(p.den:Int)) ((p.den:Int)*(q.den:Int)).toNat=p-q:=by
   have:((p.den:Int)*(q.den:Int)).toNat=p.den*q.den:=by rw[←e7];exact bN _
   rw[this];rw[Rat.sub_eq_add_neg,vm,Rat.neg_den,Rat.neg_num,Int.neg_mul,←Int.sub_eq_add_neg]
  rw[u]at e;refine cy e cl ?_;simp only[go_sem];exact cX cl rfl (.str _)
theorem adR(s t:List UInt8)(v:s.length≤500)(x:t.length≤500)(c:bB a (rv s))(d:bB g (rv t))(H:a+g+1≤1900):ff 59 [.str s,.str t] (.str (bS (rv s+rv t))):=by
 refine fK (.cons (.str _) (.cons (.str _) .nil)) (bg amd ?_);have b:=Cw s t aa aa;simp only[go_sem,WU,WW];have A:oc s t=.aK [.agg [ai 0,ai 0],.agg [ai 0,ai 0],aq]∨∃p q,gJ s=some p∧gJ t=some q:=by
  cases m:gJ s with
  |none=>exact .inl (sQ (.inl m))
  |some p=>
   cases n:gJ t with
   |none=>exact .inl (sQ (.inr n))
   |some q=>exact .inr ⟨p,q,rfl,rfl⟩
 rcases A with o|⟨p,q,f,h⟩
 ·rw[o]at b;refine use b ?_;have B:=sY s v;have C:=sY t x;have r:=JZ (rv s) (rv t) c d aa;simp only[go_sem,WV];refine cy B cl ?_;simp only[go_sem];refine cy C cl ?_;simp only[go_sem];refine cy r cl ?_;simp only[go_sem];have w:=Ca (rv s+rv t) (k:=a+g+1) (c.add d) aa;refine cy w cl ?_;simp only[go_sem];exact cX cl rfl (.str _)
 ·obtain⟨y,i,j⟩:=rz f;obtain⟨z,k,l⟩:=rz h;rw[Cv f h]at b;rw[mq y,mq z];have I:=lD (a:=p.num) (b:=(q.den:Int)) i (by rw[cV];exact l);have J:=lD (a:=q.num) (b:=(p.den:Int)) k (by rw[cV];exact j);have K:=lD (a:=(p.den:Int)) (b:=(q.den:Int)) (by rw[cV];exact j) (by rw[cV];exact l);have L:=lD (a:=p.num) (b:=q.num) i k;have M:=BZ p.den_nz q.den_nz;have D:aG .i64 (p.num*(q.den:Int))=p.num*(q.den:Int):=aQ _ aa;have E:aG .i64 (q.num*(p.den:Int))=q.num*(p.den:Int):=aQ _ aa;have F:aG .i64 ((p.den:Int)*(q.den:Int))=(p.den:Int)*(q.den:Int):=aQ _ aa;have N:aG .i64 (p.num*q.num)=p.num*q.num:=aQ _ aa;have G:aG .i64 (p.num*(q.den:Int)+q.num*(p.den:Int))=p.num*(q.den:Int)+q.num*(p.den:Int):=aQ _ aa;have O:aG .i64 (p.num*(q.den:Int)-q.num*(p.den:Int))=p.num*(q.den:Int)-q.num*(p.den:Int):=aQ _ aa;refine use b ?_;simp only[go_sem,D,E,F,G];have e:=IW (p.num*(q.den:Int)+q.num*(p.den:Int)) ((p.den:Int)*(q.den:Int)) aa aa;have u:mkRat (p.num*(q.den:Int)+q.num*(p.den:Int)) ((p.den:Int)*(q.den:Int)).toNat=p+q:=by
   have:((p.den:Int)*(q.den:Int)).toNat=p.den*q.den:=by rw[←e7];exact bN _
   rw[this];rw[vm]
  rw[u]at e;refine cy e cl ?_;simp only[go_sem];exact cX cl rfl (.str _)
theorem anC(s t:List UInt8)(v:s.length≤500)(x:t.length≤500){a b:Nat}(d:bB a (rv s))(e:bB b (rv t))(F:a+b≤1900):ff 58 [.str s,.str t] (.str (bS (rv s*rv t))):=by
 refine fK (.cons (.str _) (.cons (.str _) .nil)) (bg amc ?_);have c:=Cw s t aa aa;simp only[go_sem,WR,WT];have A:oc s t=.aK [.agg [ai 0,ai 0],.agg [ai 0,ai 0],aq]∨∃p q,gJ s=some p∧gJ t=some q:=by
  cases m:gJ s with
  |none=>exact .inl (sQ (.inl m))
  |some p=>
   cases n:gJ t with
   |none=>exact .inl (sQ (.inr n))
   |some q=>exact .inr ⟨p,q,rfl,rfl⟩
 rcases A with o|⟨p,q,g,h⟩
 ·rw[o]at c;refine use c ?_;have B:=sY s v;have C:=sY t x;have r:=ao2 (rv s) (rv t) d e aa;simp only[go_sem,WS];refine cy B cl ?_;simp only[go_sem];refine cy C cl ?_;simp only[go_sem];refine cy r cl ?_;simp only[go_sem];have w:=Ca (rv s*rv t) (k:=a+b) (d.mul e) aa;refine cy w cl ?_;simp only[go_sem];exact cX cl rfl (.str _)
 ·obtain⟨y,i,j⟩:=rz g;obtain⟨z,k,l⟩:=rz h;rw[Cv g h]at c;rw[mq y,mq z];have G:=lD (a:=p.num) (b:=(q.den:Int)) i (by rw[cV];exact l);have H:=lD (a:=q.num) (b:=(p.den:Int)) k (by rw[cV];exact j);have I:=lD (a:=(p.den:Int)) (b:=(q.den:Int)) (by rw[cV];exact j) (by rw[cV];exact l);have J:=lD (a:=p.num) (b:=q.num) i k;have K:=BZ p.den_nz q.den_nz;have L:aG .i64 (p.num*(q.den:Int))=p.num*(q.den:Int):=aQ _ aa;have M:aG .i64 (q.num*(p.den:Int))=q.num*(p.den:Int):=aQ _ aa;have D:aG .i64 ((p.den:Int)*(q.den:Int))=(p.den:Int)*(q.den:Int):=aQ _ aa;have E:aG .i64 (p.num*q.num)=p.num*q.num:=aQ _ aa;have N:aG .i64 (p.num*(q.den:Int)+q.num*(p.den:Int))=p.num*(q.den:Int)+q.num*(p.den:Int):=aQ _ aa;have O:aG .i64 (p.num*(q.den:Int)-q.num*(p.den:Int))=p.num*(q.den:Int)-q.num*(p.den:Int):=aQ _ aa;refine use c ?_;simp only[go_sem,D,E];have f:=IW (p.num*q.num) ((p.den:Int)*(q.den:Int)) aa aa;have u:mkRat (p.num*q.num) ((p.den:Int)*(q.den:Int)).toNat=p*q:=by
   have:((p.den:Int)*(q.den:Int)).toNat=p.den*q.den:=by rw[←e7];exact bN _
   rw[this];rw[BY]
  rw[u]at f;refine cy f cl ?_;simp only[go_sem];exact cX cl rfl (.str _)
def tU(s:List UInt8):V:=if∀c∈s,dV c then .aK [cB (dv s:Int),.bool (!decide (s=[]))]else .aK [cB 0,aq]
theorem ahy(s:List UInt8)(hs:s.length≤1000000)(a:Nat)(U:a≤s.length)(F:Fr)(H:ag)(R:X→Fr→ag→Prop)(K:rd 0 F=.str s)(L:rd 2 F=.ptr 5 0)(M:rd 5 F=ai (a:Int))(N:rd 6 F=.int .u32 0)(O:rd 7 F=.int .u32 1)(P:rd 8 F=ai 0)(B:H.get 5=.cells [aq,.ak] 0)
 (J:∀(b:Fr) (j:Nat),(∀t,t<5→rd t b=rd t F)→rd 5 b=ai ((a+j:Nat):Int)→rd 6 b=.int .u32 ((dv ((s.drop a).take j):Nat):Int)→rd 7 b=.int .u32 ((10^j:Nat):Int)→j≤9→a+j≤s.length→(j=9∨a+j=s.length)→(∀c∈(s.drop a).take j,dV c)→R (.exit 2) b H)
 (I:∀b:Fr,(¬∀c∈s,dV c)→rd 2 b=.ptr 5 0→rd 3 b=aq→R .ret b (H.set 5 (.cells [aq,.ak] 0))):bT (.loop H7) R F H:=by
 refine bW (fun k d A=>∃j:Nat,(∀t,t<5→rd t d=rd t F)∧rd 5 d=ai ((a+j:Nat):Int)∧rd 6 d=.int .u32 ((dv ((s.drop a).take j):Nat):Int)∧rd 7 d=.int .u32 ((10^j:Nat):Int)∧rd 8 d=ai (j:Int)∧k=9-j∧j≤9∧a+j≤s.length∧(∀c∈(s.drop a).take j,dV c)∧A=H) 9 ⟨0,fun _ _=>rfl,M,N,O,P,rfl,ck _,U,fun c h=>(by rw[nK]at h;cases h),rfl⟩ ?_;rintro k d A ⟨j,o,f,u,v,l,rfl,E,D,w,rfl⟩;have p:rd 0 d=.str s:=by rw[o 0 aj];exact K
 have q:rd 2 d=.ptr 5 0:=by rw[o 2 aj];exact L
 unfold H7;by_cases h9:j<9
 ·have g:decide ((j:Int)<9)=true:=bw aa;by_cases W:a+j<s.length
  ·have m:decide (((a+j:Nat):Int)<((s.length:Nat):Int))=true:=bw aa;obtain⟨c,y⟩:∃c,s[a+j]? =some c:=⟨s[a+j],cH W⟩;have z:jS [.str s,ai ((a+j:Nat):Int)]=some (.val (.int .u8 (c.toNat:Int))):=nt aa (by rw[bN];exact y);have ar:c.toNat<256:=c.toNat_lt;by_cases n:dV c
   ·have T:48≤c.toNat∧c.toNat≤57:=n;have i:decide (((c.toNat:Nat):Int)<48)=false:=bp aa;have r:decide ((57:Int)<((c.toNat:Nat):Int))=false:=bp aa;have e:(s.drop a).take (j+1)=(s.drop a).take j++[c]:=by
     rw[List.take_add_one,pJ,y];rfl
    have C:∀x∈(s.drop a).take (j+1),dV x:=by
     rw[e];intro x Z;rcases gU.1 Z with h|h
     ·exact w x h
     ·rw[dH.1 h];exact n
    have a0:dv ((s.drop a).take (j+1))=10*dv ((s.drop a).take j)+(c.toNat-48):=by rw[e,vN]
    have Q:=nr _ C;have V:((s.drop a).take (j+1)).length≤9:=by rw[ep];omega
    have ap:dv ((s.drop a).take (j+1))<1000000000:=ei Q (fN aj V);have hp:10^(j+1)≤1000000000:=cI (fN aj (aa:j+1≤9)) aj;have a2:10^(j+1)=10^j*10:=c3 ..;have Y:=adb c n;have S:aG .u32 ((c.toNat-48:Nat):Int)=((c.toNat-48:Nat):Int):=gd _ aa;have w1:aG .u32 (((dv ((s.drop a).take j):Nat):Int)*10)=((10*dv ((s.drop a).take j):Nat):Int):=by rw[gd _ aa];omega
    have w2:aG .u32 (((10*dv ((s.drop a).take j):Nat):Int)+((c.toNat-48:Nat):Int))=((dv ((s.drop a).take (j+1)):Nat):Int):=by rw[gd _ aa];omega
    have w3:aG .u32 (((10^j:Nat):Int)*10)=((10^(j+1):Nat):Int):=by rw[gd _ aa];omega
    have ae:aG .i64 (((a+j:Nat):Int)+1)=((a+(j+1):Nat):Int):=by rw[aQ _ aa];omega
    have al:aG .i64 ((j:Int)+1)=((j+1:Nat):Int):=by rw[aQ _ aa];rfl
    simp only[go_sem,A3,XV,p,f,u,v,l,g,m,z,i,r,Y,S,w1,w2,w3,ae,al];refine⟨9-(j+1),aa,j+1,?_,?_,?_,?_,?_,rfl,aa,aa,C,rfl⟩
    ·intro t e;simp(disch:=omega)only[go_sem,au];exact o t e
    all_goals simp only[go_sem]
   ·have G:¬∀c∈s,dV c:=fun h=>n (h c (er y))
    have T:¬(48≤c.toNat∧c.toNat≤57):=n;by_cases aw:c.toNat<48
    ·have i:decide (((c.toNat:Nat):Int)<48)=true:=bw aa;simp only[go_sem,A3,p,q,f,l,g,m,z,i,B];refine I _ G ?_ ?_
     all_goals simp only[go_sem,q]
    ·have i:decide (((c.toNat:Nat):Int)<48)=false:=bp aa;have r:decide ((57:Int)<((c.toNat:Nat):Int))=true:=bw aa;simp only[go_sem,A3,p,q,f,l,g,m,z,i,r,B];refine I _ G ?_ ?_
     all_goals simp only[go_sem,q]
  ·have m:decide (((a+j:Nat):Int)<((s.length:Nat):Int))=false:=bp aa;simp only[go_sem,p,f,l,g,m];refine J _ j ?_ ?_ ?_ ?_ E D (.inr aa) w
   ·intro t e;simp(disch:=omega)only[go_sem,au];exact o t e
   all_goals simp only[go_sem,f,u,v]
 ·have g:decide ((j:Int)<9)=false:=bp aa;simp only[go_sem,l,g];refine J _ j ?_ ?_ ?_ ?_ E D (.inl aa) w
  ·intro t e;simp(disch:=omega)only[go_sem,au];exact o t e
  all_goals simp only[go_sem,f,u,v]
theorem ir:aU 0=[]:=nI (Nat.eq_zero_of_not_pos fun h=>(qT 0).1 h rfl)
theorem Z_:V.agg [aq,.row 0 []]=cB 0:=by
 unfold cB dJ;rw[show(0:Int).natAbs=0 from rfl,ir];rfl
theorem anh(s:Bool):bA 86 [.bool s,.ak] (cB 0):=by
 refine e3 (.cons (.bool _) (.cons .ak .nil)) (bg aat ?_);have c:eC V.ak=some (.val (ai 0)):=rfl;have b:decide ((0:Int)<0)=false:=rfl;have a:∃v,cr (((ag.zero 5).push (.cells [aq,.ak] 0)).set 5 (.cells [aq,.ak] 0)) (ag.zero (((ag.zero 5).push (.cells [aq,.ak] 0)).set 5 (.cells [aq,.ak] 0)).next) (.agg [aq,.ak]) v∧bZ v∧v=cB 0:=⟨_,.agg (.cons (.same _) (.cons .fQ .nil)),.agg (.cons (.bool _) (.cons (.row 0 .nil) .nil)),Z_⟩
 cases s
 ·simp only[go_sem,A1];exact a
 ·simp only[go_sem,A1,c,b];exact a
def C9(v:V)(n:Nat):Prop:=v=mag (aU n)∨v=.ak∧n=0
theorem C9.dr{v:V}{H H2:ag}(h:C9 v a):cr H H2 v (mag (aU a)):=by
 rcases h with h|⟨h,b⟩
 ·rw[h];exact .same _
 ·rw[h,b,ir];exact .fQ
theorem val_one(m:Nat):val [m]=m:=by show m+4294967296*0=m;omega
theorem ZH(s:List UInt8)(hs:s.length≤1000000):bA 95 [.str s] (tU s):=by
 refine e3 (.cons (.str _) .nil) (bg amv ?_);have U:bZ (tU s):=by
  unfold tU;split
  ·exact .aK (.cons (iR _) (.cons (.bool _) .nil))
  ·exact .aK (.cons (iR _) (.cons (.bool _) .nil))
 simp only[go_sem,XU,X2,X1];refine bW (fun k b e=>∃(i:Nat) (v:V),rd 0 b=.str s∧rd 2 b=.ptr 5 0∧rd 3 b=aq∧rd 4 b=v∧rd 5 b=ai (i:Int)∧C9 v (dv (s.take i))∧k=s.length-i∧i≤s.length∧(∀c∈s.take i,dV c)∧e.get 5=.cells [aq,.ak] 0∧6≤e.next) s.length ⟨0,.ak,?_,?_,?_,?_,?_,.inr ⟨rfl,rfl⟩,rfl,ck _,fun c h=>(by rw[nK]at h;cases h),?_,?_⟩ ?_
 iterate 4 simp only[go_sem]
 ·simp only[go_sem];rfl
 ·simp only[go_sem]
 ·exact aR 6
 rintro k b e ⟨i,v,f,o,J,B,p,A,rfl,W,g,t,a2⟩;unfold XZ;by_cases a1:i<s.length
 ·have w:decide (((i:Nat):Int)<((s.length:Nat):Int))=true:=bw aa;simp only[go_sem,XY,XX,f,p,w];refine ahy s hs i W _ _ _ ?_ ?_ ?_ ?_ ?_ ?_ t ?_ ?_
  iterate 6 simp only[go_sem,f,o,p]
  ·intro d j l M N O F Y am C;have K:rd 0 d=.str s:=by rw[l 0 aj];simp only[go_sem,f]
   have q:rd 2 d=.ptr 5 0:=by rw[l 2 aj];simp only[go_sem,o]
   have r:rd 3 d=aq:=by rw[l 3 aj];simp only[go_sem,J]
   have L:rd 4 d=v:=by rw[l 4 aj];simp only[go_sem,B]
   have ap:0<j:=aa;have H:s.take (i+j)=s.take i++(s.drop i).take j:=List.take_add;have E:((s.drop i).take j).length=j:=by rw[ep,gF];omega
   have ae:dv (s.take (i+j))=dv (s.take i)*10^j+dv ((s.drop i).take j):=by rw[H,YX,E]
   have R:∀c∈s.take (i+j),dV c:=by
    rw[H];intro x hx;rcases gU.1 hx with h|h
    ·exact g x h
    ·exact C x h
   have T:=nr _ C;rw[E]at T;have hp:10^j≤1000000000:=cI (fN aj F) aj;have S:=nr _ g;have y:∀n,n<10^s.length*10^9→(aU n).length<2000000:=fun n hn=>by
    have Q:n<4294967296^(s.length+9):=by
     refine ei hn ?_;rw[←fX];exact vh aj _
    have:=tP Q;omega
   have u:dv (s.take i)<10^s.length:=ei S (fN aj (by rw[ep];omega));have ar:=y (dv (s.take i)) (ei u (Nat.le_mul_of_pos_right _ aj));have aw:=y (dv (s.take i)*10^j) (ei (ng u (e8 aj)) (fc _ (fN aj F)));clear y u;generalize dv (s.take i)=a at*
   generalize dv ((s.drop i).take j)=c at*
   generalize 10^j=m at*
   have G:=aaZ (aU a) [m] (gy _) (.mk aa (fun _ h=>by cases h)) (by show _+1<_;omega);rw[fz,val_one]at G;have I:=qs [c] (by show 1<4294967296;decide);rw[og (.mk (aa:c<4294967296) (fun _ h=>by cases h)),val_one]at I;have a0:(aU c).length≤1:=tP aa;have D:=Ls (aU (a*m)) (aU c) (gy _) (gy _) aa aa;rw[fz,fz]at D;simp only[go_sem,XW,L,O];refine iL (b:=e.next) (cs:=bJ [m]) (args2:=[mag (aU a),mag [m]]) G ?_ ⟨0,1,.known 1,aJ⟩ (.cons A.dr (.cons (p4 (l:=[m]) ?_ ?_ rfl) .nil)) ?_
   ·rw[ag.bE,ay rfl];rfl
   ·rw[ag.bE,ay rfl];rfl
   ·rw[ag.a_,ay rfl]
   simp only[go_sem,N];refine iL (b:=e.next+1) (cs:=bJ [c]) (args2:=[mag [c]]) I ?_ ⟨0,1,.known 1,aJ⟩ (.cons (p4 (l:=[c]) ?_ ?_ rfl) .nil) ?_
   ·simp only[go_sem];rfl
   ·simp only[go_sem];rfl
   ·rw[ag.a_,ay rfl]
   simp only[go_sem];refine use D ?_;simp only[go_sem];refine⟨s.length-(i+j),aa,i+j,mag (aU (a*m+c)),?_,?_,?_,?_,?_,.inl (by rw[ae]),rfl,Y,R,?_,?_⟩
   iterate 5 simp only[go_sem,K,q,r,M]
   ·simp(disch:=omega)only[go_sem,au];exact t
   ·simp only[go_sem];omega
  ·intro d ac q r;simp only[go_sem,q,r];have z:tU s=.aK [cB 0,aq]:=au ac;rw[z,←Z_];exact⟨_,.aK (.cons (.agg (.cons (.same _) (.cons .fQ .nil))) (.cons (.same _) .nil)),.aK (.cons (.agg (.cons (.bool _) (.cons (.row 0 .nil) .nil))) (.cons (.bool _) .nil)),rfl⟩
 ·have X:i=s.length:=aa;subst X;have w:decide (((s.length:Nat):Int)<((s.length:Nat):Int))=false:=bp aa;rw[cq (aR _)]at A g;have z:tU s=.aK [cB (dv s:Int),.bool (!decide (s=[]))]:=ay g;have Z:bA 86 [aq,v] (cB (dv s:Int)):=by
   rcases A with h|⟨h,P⟩
   ·rw[h];exact o3 false _
   ·rw[h,P];exact anh false
  simp only[go_sem,X0,f,B,p,w];refine use Z ?_;simp only[go_sem,cB,dJ,f,o,t];exact g8 (by rw[z];rfl) U
end Go.Proofs.YtddhncjmaahodaaGreatDoor
namespace Go.aV
def ns(c:UInt8):Bool:= !decide (c=47)
def jN(l:List UInt8):Prop:=(∀c∈l,dV c)∧l≠[]
instance(l:List UInt8):Decidable (jN l):=by unfold jN;infer_instance
def yu(s:List UInt8):Bool:=decide (s.take 1=[45])
def hG(s:List UInt8):List UInt8:=if yu s then s.drop 1 else s
def mA(s:List UInt8):Int:=if yu s then-(dv ((hG s).takeWhile ns):Int)else(dv ((hG s).takeWhile ns):Int)
def lH(s:List UInt8):Rat×Bool:=
 if jN ((hG s).takeWhile ns)then
  if(hG s).dropWhile ns=[]then((mA s:Rat),decide (bS (mA s:Rat)=s))
  else if jN (((hG s).dropWhile ns).drop 1)∧dv (((hG s).dropWhile ns).drop 1)≠0 then
   (mkRat (mA s) (dv (((hG s).dropWhile ns).drop 1)),decide (bS (mkRat (mA s) (dv (((hG s).dropWhile ns).drop 1)))=s))
  else(0,false)
 else(0,false)
theorem aqp{a b:List UInt8}(g:∀c∈a,c≠47)(i:b=[]∨∃d,b=47::d):(a++b).takeWhile ns=a∧(a++b).dropWhile ns=b:=by
 have e:∀c∈a,ns c=true:=fun c h=>by unfold ns;rw[bp (g c h)];rfl
 have f:b.takeWhile ns=[]∧b.dropWhile ns=b:=by
  rcases i with h|⟨d,h⟩
  ·rw[h];exact⟨rfl,rfl⟩
  ·rw[h];have:ns 47=false:=rfl;exact⟨by rw[List.takeWhile_cons,this];rfl,by rw[List.dropWhile_cons,this];rfl⟩
 constructor
 ·rw[List.takeWhile_append_of_pos e,f.1,fA]
 ·rw[List.dropWhile_append_of_pos e,f.2]
theorem acE(t:List UInt8):t=t.takeWhile ns++t.dropWhile ns∧(∀c∈t.takeWhile ns,c≠47)∧(t.dropWhile ns=[]∨∃d,t.dropWhile ns=47::d):=by
 refine⟨List.takeWhile_append_dropWhile.symm,?_,?_⟩
 ·induction t with
  |nil=>intro c h;cases h
  |cons x t f=>
   intro c a;rw[List.takeWhile_cons]at a;split at a
   ·rename_i b;rcases gL.1 a with h|h
    ·intro e;rw[h]at e;rw[e]at b;cases b
    ·exact f c h
   ·cases a
 ·induction t with
  |nil=>exact .inl rfl
  |cons x t f=>
   rw[List.dropWhile_cons];split
   ·exact f
   ·rename_i b;right;refine⟨t,?_⟩;by_cases h:x=47
    ·rw[h]
    ·exact absurd (by unfold ns;rw[bp h];rfl) b
theorem agx{c:UInt8}(h:dV c):c≠47:=fun e=>by rw[e]at h;exact absurd h aj
variable{y:Rat}
theorem aro(f:¬y.num<0):(bS y).take 1≠[45]:=by
 have d:bS y=dec y.num.natAbs++(if y.den=1 then []else 47::dec y.den):=by unfold bS;rw[au f];rfl
 intro h;rw[d]at h;cases a:dec y.num.natAbs with
 |nil=>exact nU _ a
 |cons c l=>
  rw[a]at h;have b:dV c:=nT y.num.natAbs c (by rw[a];exact .head _);have e:c=45:=by simpa using h
  rw[e]at b;exact absurd b aj
theorem abM(q:Rat):lH (bS q)=(q,true):=by
 have b:yu (bS q)=decide (q.num<0):=by
  unfold yu;by_cases h:q.num<0
  ·rw[bw h];refine bw ?_;unfold bS;rw[ay h];rfl
  ·rw[bp h];exact bp (aro h)
 have d:hG (bS q)=dec q.num.natAbs++(if q.den=1 then []else 47::dec q.den):=by
  unfold hG;rw[b];by_cases h:q.num<0
  ·rw[ay (bw h)];unfold bS;rw[ay h];rfl
  ·rw[au (by simpa using h)];unfold bS;rw[au h];rfl
 have a:=aqp (a:=dec q.num.natAbs) (b:=if q.den=1 then []else 47::dec q.den) (fun c h=>agx (nT _ c h)) (by
  by_cases h:q.den=1
  ·rw[ay h];exact .inl rfl
  ·rw[au h];exact .inr ⟨_,rfl⟩)
 rw[←d]at a;have i:mA (bS q)=q.num:=by
  unfold mA;rw[b,a.1,mM];by_cases h:q.num<0
  ·rw[ay (bw h)];omega
  ·rw[au (by simpa using h)];omega
 have g:jN (dec q.num.natAbs):=⟨nT _,nU _⟩;unfold lH;rw[a.1,a.2,i,ay g];by_cases h:q.den=1
 ·have f:(q.num:Rat)=q:=by
   apply Rat.ext
   ·rfl
   ·exact h.symm
  rw[ay h,ay rfl,f,bw rfl]
 ·have e:(47::dec q.den).drop 1=dec q.den:=rfl;rw[au h,au (List.cons_ne_nil _ _),e,mM,ay ⟨⟨nT _,nU _⟩,q.den_nz⟩,Rat.mkRat_self,bw rfl]
theorem apf(s:List UInt8):(lH s).2=(numOf s).isSome∧∀q,numOf s=some q→(lH s).1=q:=by
 cases h:numOf s with
 |some q=>
  have d:=uC h;refine⟨?_,fun p c=>?_⟩
  ·rw[d,abM];rfl
  ·cases c;rw[d,abM]
 |none=>
  refine⟨?_,fun p c=>by cases c⟩;cases a:(lH s).2 with
  |false=>rfl
  |true=>
   have:bS (lH s).1=s:=by
    unfold lH at a⊢;split at a
    ·rename_i e;rw[ay e];split at a
     ·rename_i b;rw[ay b];exact of_decide_eq_true a
     ·rename_i b;rw[au b];split at a
      ·rename_i f;rw[ay f];exact of_decide_eq_true a
      ·cases a
    ·cases a
   rw[←this,uD]at h;cases h
end Go.aV
namespace Go.Proofs.YtddhncjmaahodaaGreatDoor
open Go.aE Go.aV
variable{a:Nat}
theorem aq0(z:Int)(d:z.natAbs<2^a)(f:a≤30000000):bA 22 [.agg [.bool (decide (z<0)),mag (aU z.natAbs),aq,.ak]] (.str (bS (z:Rat))):=by
 refine cT (.cons (.agg (.cons (.bool _) (.cons (jt _) (.cons (.bool _) (.cons .ak .nil))))) .nil) (.str _) (bg aag ?_);have e:=Is z d f;have j:=tN d;have h:od (oP .add) [.str [45],.str (dec z.natAbs)]=some (.val (.str ([45]++dec z.natAbs))):=wH (by simp;omega);have c:eC V.ak=some (.val (ai 0)):=rfl;have b:decide ((0:Int)<0)=false:=rfl;have g:bS (z:Rat)=(if z<0 then [45]else [])++dec z.natAbs:=by
  unfold bS;rw[show((z:Rat)).num=z from rfl,show((z:Rat)).den=1 from rfl,ay rfl,fA]
 rw[g];simp only[go_sem,Fq,FC,q3];refine use e ?_;by_cases i:z<0
 ·simp(disch:=assumption)only[go_sem,tG,tF,tE,dt,c,b,h,ay]
 ·simp(disch:=assumption)only[go_sem,tG,tF,tE,df,c,b,au,eM]
def uH(r:Rat×Bool):V:=.aK [cJ r.1,.bool r.2]
theorem Zm(r:Rat×Bool):bZ (uH r):=.aK (.cons (iu _) (.cons (.bool _) .nil))
theorem aqq(t a b:List UInt8)(K:t.length≤1000000)(f:t=a++b)(C:∀c∈a,c≠47)(g:b=[]∨∃d,b=47::d)(F:Fr)(H:ag)(R:X→Fr→ag→Prop)(z:rd 4 F=.str t)(A:rd 6 F=ai (t.length:Int))(B:rd 7 F=ai 0)
 (u:∀m:Fr,(∀t,t<6→rd t m=rd t F)→rd 6 m=ai (a.length:Int)→R (.exit 0) m H):bT (.loop Hz) R F H:=by
 refine bW (fun k h s=>∃i:Nat,(∀t,t<7→rd t h=rd t F)∧rd 7 h=ai (i:Int)∧k=a.length-i∧i≤a.length∧s=H) a.length ⟨0,fun _ _=>rfl,B,rfl,ck _,rfl⟩ ?_;rintro k h s ⟨i,l,o,rfl,J,rfl⟩;have n:rd 4 h=.str t:=by rw[l 4 aj];exact z
 have y:rd 6 h=ai (t.length:Int):=by rw[l 6 aj];exact A
 have w:t.length=a.length+b.length:=by rw[f,bt]
 unfold Hz;by_cases x:i<a.length
 ·have j:decide ((i:Int)<((t.length:Nat):Int))=true:=bw aa;obtain⟨c,v⟩:∃c,a[i]? =some c:=⟨a[i],cH x⟩;have q:t[i]? =some c:=by rw[f,k3 x];exact v
  have D:c≠47:=C c (er v);have r:jS [.str t,ai (i:Int)]=some (.val (.int .u8 (c.toNat:Int))):=nt aa (by rw[bN];exact q);have p:decide (((c.toNat:Nat):Int)=47)=false:=bp fun e=>D (vl.1 (by show c.toNat=47;omega))
  have I:aG .i64 ((i:Int)+1)=((i+1:Nat):Int):=by rw[aQ _ aa];rfl
  simp only[go_sem,Hy,V5,n,o,j,r,p,I];refine⟨a.length-(i+1),aa,i+1,?_,?_,rfl,aa,rfl⟩
  ·intro t f;simp(disch:=omega)only[go_sem,au];exact l t f
  ·simp only[go_sem]
 ·have E:i=a.length:=aa;subst E;rcases g with g|⟨d,g⟩
  ·have G:t.length=a.length:=by rw[w,g];rfl
   have j:decide (((a.length:Nat):Int)<((t.length:Nat):Int))=false:=bp aa;simp only[go_sem,n,o,j];refine u _ ?_ ?_
   ·intro t f;simp(disch:=omega)only[go_sem,au];exact l t aa
   ·simp only[go_sem,y];rw[G]
  ·have j:decide (((a.length:Nat):Int)<((t.length:Nat):Int))=true:=bw (by rw[w,g,di];omega);have q:t[a.length]? =some 47:=by rw[f,pI (aR _),lV,g];rfl
   have r:jS [.str t,ai (a.length:Int)]=some (.val (.int .u8 (((47:UInt8).toNat:Nat):Int))):=nt aa (by rw[bN];exact q);have p:decide ((((47:UInt8).toNat:Nat):Int)=47)=true:=rfl;simp only[go_sem,Hy,n,o,j,r,p];refine u _ ?_ ?_
   ·intro t f;simp(disch:=omega)only[go_sem,au];exact l t aa
   ·simp only[go_sem]
theorem Ze(s:List UInt8):∃z:Int,tU s=.aK [cB z,.bool (decide (jN s))]∧(jN s→z=(dv s:Int)):=by
 unfold tU;by_cases h:∀c∈s,dV c
 ·rw[ay h];refine⟨_,?_,fun _=>rfl⟩;congr 3;by_cases a:s=[]
  ·rw[bw a,bp (fun g:jN s=>g.2 a)];rfl
  ·rw[bp a,bw (show jN s from⟨h,a⟩)];rfl
 ·rw[au h];refine⟨0,?_,fun g=>absurd g.1 h⟩;rw[bp (fun g:jN s=>h g.1)]
theorem ao9:V.agg [aq,.row 0 [],aq,.row 0 []]=cJ 0:=by
 unfold cJ bY;rw[show(0:Rat).num=0 from rfl,show dd 0=0 from rfl,Int.natAbs_zero,ir];rfl
variable{c:ag}{J:ag}
theorem I0:∃v,cr c J (.aK [.agg [aq,.ak,aq,.ak],aq]) v∧bZ v∧v=uH (0,false):=by
 refine⟨_,.aK (.cons (.agg (.cons (.same _) (.cons .fQ (.cons (.same _) (.cons .fQ .nil))))) (.cons (.same _) .nil)),?_⟩;rw[ao9];exact⟨Zm (0,false),rfl⟩
variable{i:List UInt8}
theorem Bi(h:∀c∈i,dV c)(a:i.length≤500):dv i<2^2000:=by
 exact @Go.aV.B7 (dv i) 10 i.length 2 4 2000 (nr i h) aj aa aj
theorem aps(s t a b:List UInt8)(neg:Bool)(hl:s.length≤500)(ar:t.length≤s.length)(M:t=a++b)(T:b=[]∨∃d,b=47::d)(S:jN a)(z:Int)(N:z=if neg then-(dv a:Int)else(dv a:Int))(r:Rat×Bool)
 (f:r=if b=[]then((z:Rat),decide (bS (z:Rat)=s))else if jN (b.drop 1)∧dv (b.drop 1)≠0 then(mkRat z (dv (b.drop 1)),decide (bS (mkRat z (dv (b.drop 1)))=s))else(0,false)) (F:Fr) (H:ag) (G:rd 0 F=.str s) (k:rd 2 F=.ptr 5 0) (I:rd 4 F=.str t) (P:rd 5 F=.bool neg) (J:rd 6 F=ai (a.length:Int)) (Q:rd 8 F=.ptr 6 0) (l:H.get 5=.cells [aq,.ak,aq,.ak] 0) (R:H.get 6=.cells [aq,mag (aU (dv a))] 0) (c:H.next=7):
 bT HC (gl [.cell 2 true 4,.tmp 3] fun v1 E=>∃v,cr E (ag.zero E.next) v1 v∧bZ v∧v=uH r) F H:=by
 have B:=o3 neg (dv a);rw[←N]at B;have o:t.length=a.length+b.length:=by rw[M,bt]
 have D:z.natAbs<2^2000:=by
  have:=Bi S.1 aa;rw[N];split
  ·rw[lO,cV];exact this
  ·rw[cV];exact this
 unfold cB dJ at B;simp only[go_sem,HC,P,Q,R];refine use B ?_;rcases T with n|⟨d,i⟩
 ·rw[ay n]at f;have w:decide (((a.length:Nat):Int)<((t.length:Nat):Int))=false:=bp (by rw[o,n];show¬_<((a.length+0:Nat):Int);omega);have p:=aq0 z D aj;simp only[go_sem,HB,HA,I,J,w,G,c];refine use p ?_;have am:decide (bS (z:Rat)=s)=decide (bS (z:Rat)=s):=rfl;simp only[go_sem,k,l,c,true_and];rw[f];refine⟨_,.aK (.cons (.agg (.cons (.same _) (.cons (.same _) (.cons (.same _) (.cons .fQ .nil))))) (.cons (.same _) .nil)),?_⟩;have e:V.row 0 []=mag (aU (dd (z:Rat))):=by rw[lZ rfl,ir];rfl
  rw[e];exact⟨.aK (.cons (iu (z:Rat)) (.cons (.bool _) .nil)),rfl⟩
 ·have n:¬b=[]:=by rw[i];exact List.cons_ne_nil _ _
  have W:b.drop 1=d:=by rw[i];rfl
  rw[au n,W]at f;have w:decide (((a.length:Nat):Int)<((t.length:Nat):Int))=true:=bw (by rw[o,i,di];omega);have U:d.length≤500:=by rw[i,di]at o;omega
  have w1:aG .i64 (((a.length:Nat):Int)+1)=((a.length+1:Nat):Int):=by rw[aQ _ aa];omega
  have Y:slice3 kg true false false [.str t,ai ((a.length+1:Nat):Int)]=some (.val (.str d)):=by
   rw[uP (by rw[o,i,di];omega),bN,M,i,List.drop_append,Nat.add_sub_cancel_left];rw[List.drop_eq_nil_of_le aa];rfl
  obtain⟨x,Z,ab⟩:=Ze d;have y:=ZH d aa;rw[Z]at y;have L:=acC x;unfold cB dJ at y L;simp only[go_sem,HB,I,J,w,c,w1,Y];refine use y ?_;by_cases g:jN d
  ·have j:=ab g;have u:decide (jN d)=true:=bw g;simp only[go_sem,u,c];refine use L ?_;by_cases m:dv d=0
   ·rw[au (fun h=>h.2 m)]at f;have C:decide ((if x<0 then(-1:Int)else if x=0 then 0 else 1)=0)=true:=by rw[j,m];rfl
    simp only[go_sem,C,k,l,c];rw[f];exact I0
   ·rw[ay ⟨g,m⟩]at f;have C:decide ((if x<0 then(-1:Int)else if x=0 then 0 else 1)=0)=false:=by
     rw[j,au aa,au aa];rfl
    have K:=Bi g.1 U;have A:=vW z x (by rw[j];omega) (dI.of D aj) (by rw[j,cV];exact dI.of K aj);have O:Rat.divInt z x=mkRat z (dv d):=by rw[j,tj]
    rw[O]at A;have X:bB 2000 (mkRat z (dv d)):=by
     obtain⟨m1,m2⟩:=mk_le z m;exact⟨eH m1 D,eH m2 K⟩
    have p:=y2 _ X aj;generalize mkRat z (dv d)=q at*
    unfold cB dJ cJ bY at A;unfold cJ bY at p;simp only[go_sem,C,c];refine use A ?_;simp only[go_sem,HA,G,c];refine use p ?_;simp only[go_sem,k,l,c,true_and];rw[f];exact⟨_,.same _,Zm (q,decide (bS q=s)),rfl⟩
  ·have u:decide (jN d)=false:=bp g;rw[au (fun h=>g h.1)]at f;simp only[go_sem,u,k,l,c];rw[f];exact I0
theorem abd(s:List UInt8)(S:s.length≤500):bA 44 [.str s] (uH (lH s)):=by
 refine e3 (.cons (.str _) .nil) (bg al4 ?_);obtain⟨g,A,m⟩:=acE (hG s);obtain⟨t,i⟩:∃t,t=hG s:=⟨_,rfl⟩;obtain⟨neg,eP⟩:∃b,b=yu s:=⟨_,rfl⟩;have T:t.length≤s.length:=by
  rw[i];unfold hG;split
  ·rw[gF];omega
  ·omega
 have I:mA s=if neg then-(dv ((hG s).takeWhile ns):Int)else(dv ((hG s).takeWhile ns):Int):=by rw[eP];rfl
 have h:lH s=if jN ((hG s).takeWhile ns)then(if(hG s).dropWhile ns=[]then((mA s:Rat),decide (bS (mA s:Rat)=s))
  else if jN (((hG s).dropWhile ns).drop 1)∧dv (((hG s).dropWhile ns).drop 1)≠0 then
   (mkRat (mA s) (dv (((hG s).dropWhile ns).drop 1)),decide (bS (mkRat (mA s) (dv (((hG s).dropWhile ns).drop 1)))=s))
  else(0,false))else(0,false):=rfl
 have C:∀(F:Fr) (H:ag),rd 0 F=.str s→rd 2 F=.ptr 5 0→rd 4 F=.str t→rd 5 F=.bool neg→H.get 5=.cells [aq,.ak,aq,.ak] 0→H.next=6→
  bT HE (gl [.cell 2 true 4,.tmp 3] fun v1 J=>∃v,cr J (ag.zero J.next) v1 v∧bZ v∧v=uH (lH s)) F H:=by
  intro F H P Q w R L E;rw[←i]at g A m I h;generalize t.takeWhile ns=a at*
  generalize t.dropWhile ns=b at*
  generalize lH s=r at*
  generalize mA s=z at*
  have ac:a.length≤t.length:=by rw[g,bt];omega
  simp only[go_sem,HE,V7,w];refine aqq t a b aa g A m _ _ _ ?_ ?_ ?_ ?_
  iterate 3 simp only[go_sem,w]
  intro l p K;have Y:rd 0 l=.str s:=by rw[p 0 aj];simp only[go_sem,P]
  have N:rd 2 l=.ptr 5 0:=by rw[p 2 aj];simp only[go_sem,Q]
  have O:rd 4 l=.str t:=by rw[p 4 aj];simp only[go_sem,w]
  have Z:rd 5 l=.bool neg:=by rw[p 5 aj];simp only[go_sem,R]
  have G:slice3 kg false true false [.str t,ai ((a.length:Nat):Int)]=some (.val (.str a)):=by
   rw[CF aa,bN,g,oD]
  obtain⟨x,U,W⟩:=Ze a;have D:=ZH a aa;rw[U]at D;unfold cB dJ at D;simp only[go_sem,V6,O,K,G];refine use D ?_;by_cases f:jN a
  ·rw[ay f]at h;have y:decide (jN a)=true:=bw f;have ad:=W f;have X:decide (x<0)=false:=bp aa;have V:x.natAbs=dv a:=aa;simp only[go_sem,HD,y,E,X,V];refine aps s t a b neg S T g m f z I r h _ _ ?_ ?_ ?_ ?_ ?_ ?_ ?_ ?_ ?_
   iterate 9 simp only[go_sem,Y,N,O,Z,K,E,L]
  ·rw[au f]at h;have y:decide (jN a)=false:=bp f;simp only[go_sem,HD,y,N,L,E];rw[h];exact I0
 clear h I g A m;by_cases q:s=[]
 ·have n:decide ((0:Int)<((s.length:Nat):Int))=false:=bp (by rw[q];decide);have d:neg=false:=by rw[eP,q];rfl
  have k:t=s:=by rw[i,q];rfl
  subst d;subst k;simp only[go_sem,AU,AX,AW,AV,n];refine C _ _ ?_ ?_ ?_ ?_ ?_ rfl
  all_goals simp only[go_sem]
 ·obtain⟨c,u,j⟩:∃c u,s=c::u:=by
   cases s with
   |nil=>exact absurd rfl q
   |cons c u=>exact⟨c,u,rfl⟩
  have n:decide ((0:Int)<((s.length:Nat):Int))=true:=bw (by rw[j,di];omega);have M:jS [.str s,ai 0]=some (.val (.int .u8 (c.toNat:Int))):=nt aj (by rw[j];rfl);by_cases o:c=45
  ·have d:neg=true:=by rw[eP,j,o];exact bw rfl
   have k:t=s.drop 1:=by rw[i];unfold hG;rw[←eP,d];rfl
   have B:decide (((c.toNat:Nat):Int)=45)=true:=by rw[o];rfl
   have G:slice3 kg true false false [.str s,ai 1]=some (.val (.str t)):=by
    rw[uP ⟨aj,by rw[j,di];omega⟩,k];rfl
   subst d;simp only[go_sem,AU,AX,AW,AV,n,M,B,G];refine C _ _ ?_ ?_ ?_ ?_ ?_ rfl
   all_goals simp only[go_sem]
  ·have d:neg=false:=by
    rw[eP,j];exact bp fun e=>o (by simpa using e)
   have k:t=s:=by rw[i];unfold hG;rw[←eP,d];rfl
   have B:decide (((c.toNat:Nat):Int)=45)=false:=bp fun e=>o (vl.1 (by show c.toNat=45;omega))
   subst d;subst k;simp only[go_sem,AU,AX,AW,AV,n,M,B];refine C _ _ ?_ ?_ ?_ ?_ ?_ rfl
   all_goals simp only[go_sem]
section
variable {α:Type} (f:α→List V) (k:Nat)
def gB:List α→List V
 |[]=>[]
 |a::l=>f a++gB l
def ej(l:List α):V:=.row l.length (gB f l)
variable{g:Nat}
theorem uJ(b:∀a,(f a).length=g):∀l,(gB f l).length=l.length*g
 |[]=>by simp[gB]
 |a::l=>by simp only[gB,bt,uJ b l,b a,di,pO];omega
theorem yL:∀(l m:List α),gB f (l++m)=gB f l++gB f m
 |[],_=>rfl
 |t::l,m=>by simp only[fm,gB,yL l m,eG]
theorem acd(b:∀c,(f c).length=a)(l:List α)(i:Nat):(gB f l).drop (i*a)=gB f (l.drop i):=by
 induction l generalizing i with
 |nil=>simp[gB]
 |cons t l d=>
  cases i with
  |zero=>simp
  |succ i=>
   rw[pO,iy];show(f t++gB f l).drop (a+i*a)=gB f (l.drop i);rw[←b t,List.drop_length_add_append,b t,d]
theorem o9{f:α→List V}{k:Nat}(c:∀b,(f b).length=k){l:List α}{b:α}(h:l[a]? =some b):cF (eA (gB f l) (a*k)) k=some (f b):=by
 obtain⟨d,rfl⟩:=fo.1 h;rw[jT,acd f c,kr d];show cF (f l[a]++gB f _) k=_;rw[eR,ay (by rw[bt,c];omega),←c l[a],oD]
theorem Zn(b:∀a,cM (f a)):∀l,cM (gB f l)
 |[]=>.nil
 |a::l=>nY (b a) (Zn b l)
theorem tW{f:α→List V}(b:∀a,cM (f a))(l:List α):bZ (ej f l):=.row _ (Zn f b l)
@[go_sem]theorem avh(l:List α):eC (ej f l)=some (.val (ai (l.length:Int))):=rfl
theorem mP{f:α→List V}{k:Nat}{l:List α}{i:Int}{ik:IntKind}(h:0≤i∧i<l.length):dY none k [ej f l,.int ik i]=some (.val (.dm (gB f l) (i.toNat*k))):=lz h
variable{b:List V}
theorem Bv{f:α→List V}(q:∀j,(f j).length=a)(i:0<a){v:V}{l:List α}(h:bu c a v b g)(p:dy c J b (gB f l))(n:∀y,g≠0→c.get y=.cells b g→J.get y=.none)(o:b.length=l.length*a):cr c J v (ej f l):=by
 obtain⟨m,d,e⟩:=h.dr (H2:=J) i n p;rw[o]at e;have:m=l.length:=Nat.eq_of_mul_eq_mul_right i e;rw[this]at d;exact d
end
abbrev dc:=List UInt8×List UInt8
def ek(s:dc):List V:=[.str s.1,.str s.2]
def hY(l:List dc):V:=.agg [ej ek l]
theorem Bq(s:dc):cM (ek s):=.cons (.str _) (.cons (.str _) .nil)
theorem qV(l:List dc):bZ (hY l):=.agg (.cons (tW Bq l) .nil)
structure fO where
 lo:Rat
 hi:Rat
 hl:Bool
 hh:Bool
def fS(s:fO):List V:=bY s.lo++(bY s.hi++[.bool s.hl,.bool s.hh])
theorem uK(s:fO):(fS s).length=10:=rfl
theorem ahD(s:fO):cM (fS s):=nY (x4 _) (nY (x4 _) (.cons (.bool _) (.cons (.bool _) .nil)))
def jW(l:List fO):V:=ej fS l
theorem r_(l:List fO):bZ (jW l):=tW ahD l
def iK(t:List UInt8):Rat×Bool:=if t=[]then(0,true)else lH t
def sL(s:dc):Option fO:=
 if(iK s.1).2=true∧(iK s.2).2=true∧¬(s.1≠[]∧s.2≠[]∧0≤ig ((iK s.1).1-(iK s.2).1))then some ⟨(iK s.1).1,(iK s.2).1, !decide (s.1=[]), !decide (s.2=[])⟩else none
def rj:List dc→Option (List fO)
 |[]=>some []
 |s::l=>match sL s with
  |some x=>(rj l).map (x:: ·)
  |none=>none
def o7(a:Nat)(l:List dc):V:=match rj l with
 |some x=>.aK [jW x,.bool (decide (x.length=a))]
 |none=>.aK [jW [],.bool false]
def j6:List V:=[aq,.ak,aq,.ak]
def qL(e:Bool)(c:List V)(x:Rat):Prop:=(e=false∧c=j6∧x=0)∨(e=true∧c=bY x)
theorem ao_:bY 0=[aq,.row 0 [],aq,.row 0 []]:=by
 unfold bY;rw[show(0:Rat).num=0 from rfl,show dd 0=0 from rfl,Int.natAbs_zero,ir];rfl
variable{m:Bool}{b:List V}{y:Rat}
theorem qL.dr{H H2:ag}(h:qL m b y):dy H H2 b (bY y):=by
 rcases h with⟨_,rfl,rfl⟩|⟨_,rfl⟩
 ·rw[ao_];exact .cons (.same _) (.cons .fQ (.cons (.same _) (.cons .fQ .nil)))
 ·exact dy.refl _
theorem qL.len(h:qL m b y):∃a c d j7,b=[a,c,d,j7]∧de [a,c,d,j7]=true:=by
 rcases h with⟨_,rfl,rfl⟩|⟨_,rfl⟩
 ·exact⟨_,_,_,_,rfl,rfl⟩
 ·exact⟨_,_,_,_,rfl,rfl⟩
def abG:ah:=(.aH [ex 17 (dX none 2 (rd 13) (rd 15)),ex 18 (ct true 2 (rd 17)),ex 8 (alloc [(.str []),(.str [])]),eP (st 2 (rd 8) (rd 18))])
def abH:ah:=(.aH [ex 19 (fa 0 (rd 8)),ex 20 (ct false 1 (rd 19)),ex 21 (bs .neq (rd 20) (kc (.str []))),ex 22 (fa 1 (rd 8)),ex 23 (ct false 1 (rd 22)),ex 24 (bs .neq (rd 23) (kc (.str []))),ex 25 (cD [(8,1),(9,1)] [aq,.ak,aq,.ak,aq,.ak,aq,.ak,aq,aq] [(rd 21),(rd 24)]),ex 9 (alloc [aq,.ak,aq,.ak,aq,.ak,aq,.ak,aq,aq]),eP (st 10 (rd 9) (rd 25))])
def abI:ah:=(.aH [ex 10 (fq (kc cC)),ex 11 (fq (kc cC))])
def Ce:ah:=(.seq (.aH [ex 26 (fa 8 (rd 9)),ex 27 (ct false 1 (rd 26))])
 (.cond (rd 27) (.aH [ex 29 (fa 0 (rd 8)),ex 30 (ct false 1 (rd 29)),ex 31 (bF 44 [(rd 30)]),ex 28 (mv (rd 31)),ex 32 (ext 0 (rd 28)),ex 33 (ext 1 (rd 28)),ex 34 (fa 0 (rd 9)),eP (st 4 (rd 34) (rd 32)),ex 10 (fq (rd 33))]) .skip))
def Cd:ah:=(.seq (.aH [ex 35 (fa 9 (rd 9)),ex 36 (ct false 1 (rd 35))])
 (.cond (rd 36) (.aH [ex 38 (fa 1 (rd 8)),ex 39 (ct false 1 (rd 38)),ex 40 (bF 44 [(rd 39)]),ex 37 (mv (rd 40)),ex 41 (ext 0 (rd 37)),ex 42 (ext 1 (rd 37)),ex 43 (fa 4 (rd 9)),eP (st 4 (rd 43) (rd 41)),ex 11 (fq (rd 42))]) .skip))
def uG:ah:=(.seq (.aH [ex 44 (mv (rd 10)),ex 45 (not (rd 44)),ex 46 (mv (rd 45)),aN 46 false 47 (mv (rd 11)),aN 46 false 48 (not (rd 47)),ex 49 (pick (rd 46) (kc cC) (rd 48)),ex 50 (mv (rd 49)),aN 50 false 51 (fa 8 (rd 9)),aN 50 false 52 (ct false 1 (rd 51)),aN 50 false 53 (mv (rd 52)),aN 53 true 54 (fa 9 (rd 9)),aN 53 true 55 (ct false 1 (rd 54)),aN 50 false 56 (pick (rd 53) (rd 55) (kc aq)),aN 50 false 57 (mv (rd 56)),aN 57 true 58 (fa 0 (rd 9)),aN 57 true 59 (ct true 4 (rd 58)),aN 57 true 60 (fa 4 (rd 9)),aN 57 true 61 (ct true 4 (rd 60)),aN 57 true 62 (bF 40 [(rd 59),(rd 61)]),aN 57 true 63 (bi .geq (rd 62) (kc (ai 0))),aN 50 false 64 (pick (rd 57) (rd 63) (kc aq)),ex 65 (pick (rd 50) (kc cC) (rd 64))])
 (.cond (rd 65) (.seq (.aH [ex 4 (fq (kc .ak)),ex 5 (fq (kc aq))])
 .ret) .skip))
def abJ:ah:=(.aH [ex 66 (mv (rd 6)),ex 67 (ct true 10 (rd 9)),ex 68 (cW 1 [(0,10)] [aq,.ak,aq,.ak,aq,.ak,aq,.ak,aq,aq] [(rd 67)]),ex 69 (ap 10 136 (rd 66) (rd 68)),ex 6 (fq (rd 69))])
theorem aeH:N3=.seq (.block 1 (.seq abG (.seq abH (.seq abI (.seq Ce (.seq Cd (.seq uG abJ))))))) Eo:=rfl
theorem apb(a p:List UInt8)(q:a.length≤500)(k b:Nat)(l:Bool)(F:Fr)(H:ag)(R:X→Fr→ag→Prop)(K:Fr→ag→Prop)(o:rd 8 F=.ptr k 0)(j:rd 9 F=.ptr b 0)(n:rd 10 F=cC)(eV:H.get k=.cells [.str a,.str p] 0)(dj:H.get b=.cells (j6++(j6++[.bool (!decide (a=[])),.bool l])) 0)
 (d:∀(i:Fr) (g:ag) (c:List V),(∀t,t<26→t≠10→rd t i=rd t F)→rd 10 i=.bool (iK a).2→qL (!decide (a=[])) c (iK a).1→g.get b=.cells (c++(j6++[.bool (!decide (a=[])),.bool l])) 0→(∀y,y≠b→g.get y=H.get y)→g.next=H.next→K i g):
 bT Ce (e_ K R) F H:=by
 unfold iK at d;by_cases h:a=[]
 ·have f:decide (a=[])=true:=bw h;rw[ay h,f]at d;rw[f]at dj;simp only[j6,fm,eM]at dj;simp only[go_sem,Ce,j,dj,dZ];refine d _ _ j6 ?_ ?_ (.inl ⟨rfl,rfl,rfl⟩) dj (fun _ _=>rfl) rfl
  ·intro t s r;simp(disch:=omega)only[go_sem,au]
  ·simp only[go_sem,n]
 ·have f:decide (a=[])=false:=bp h;rw[au h,f]at d;rw[f]at dj;have m:=abd a q;unfold uH cJ bY at m;simp only[j6,fm,eM]at dj;simp only[go_sem,Ce,o,j,eV,dj,gS];refine use m ?_;simp only[go_sem,j,dj];refine d _ _ (bY (lH a).1) ?_ ?_ (.inr ⟨rfl,rfl⟩) ?_ ?_ ?_
  ·intro t s r;simp(disch:=omega)only[go_sem,au]
  ·simp only[go_sem]
  ·simp only[go_sem];rfl
  ·intro y u;have v:¬b=y:=fun e=>u e.symm
   simp only[go_sem,au v]
  ·simp only[go_sem]
theorem ao'(z a:List UInt8)(r:a.length≤500)(m b:Nat)(k:Bool)(c:List V)(x:Rat)(q:qL k c x)(F:Fr)(H:ag)(R:X→Fr→ag→Prop)(K:Fr→ag→Prop)(p:rd 8 F=.ptr m 0)(l:rd 9 F=.ptr b 0)(o:rd 11 F=cC)(eV:H.get m=.cells [.str z,.str a] 0)(dj:H.get b=.cells (c++(j6++[.bool k,.bool (!decide (a=[]))])) 0)
 (d:∀(i:Fr) (g:ag) (j:List V),(∀t,t<35→t≠11→rd t i=rd t F)→rd 11 i=.bool (iK a).2→qL (!decide (a=[])) j (iK a).1→g.get b=.cells (c++(j++[.bool k,.bool (!decide (a=[]))])) 0→(∀y,y≠b→g.get y=H.get y)→g.next=H.next→K i g):
 bT Cd (e_ K R) F H:=by
 unfold iK at d;obtain⟨A,B,j,j7,rfl,C⟩:=q.len;by_cases h:a=[]
 ·have f:decide (a=[])=true:=bw h;rw[ay h,f]at d;rw[f]at dj;simp only[j6,fm,eM]at dj;simp only[go_sem,Cd,l,dj,dZ];refine d _ _ j6 ?_ ?_ (.inl ⟨rfl,rfl,rfl⟩) dj (fun _ _=>rfl) rfl
  ·intro t u s;simp(disch:=omega)only[go_sem,au]
  ·simp only[go_sem,o]
 ·have f:decide (a=[])=false:=bp h;rw[au h,f]at d;rw[f]at dj;have n:=abd a r;unfold uH cJ bY at n;simp only[j6,fm,eM]at dj;simp only[go_sem,Cd,p,l,eV,dj,gS];refine use n ?_;simp only[go_sem,l,dj];refine d _ _ (bY (lH a).1) ?_ ?_ (.inr ⟨rfl,rfl⟩) ?_ ?_ ?_
  ·intro t u s;simp(disch:=omega)only[go_sem,au]
  ·simp only[go_sem]
  ·simp only[go_sem];rfl
  ·intro y v;have w:¬b=y:=fun e=>v e.symm
   simp only[go_sem,au w]
  ·simp only[go_sem]
variable{g:Nat}
theorem apa(s:Nat)(k l f i:Bool)(c u:List V)(x y:Rat)(D:qL f c x)(z:qL i u y)(I:bB a x)(J:bB g y)(C:a+g+1≤30000000)(F:Fr)(H:ag)(R:X→Fr→ag→Prop)(K:Fr→ag→Prop)(m:rd 9 F=.ptr s 0)(d:rd 10 F=.bool k)(j:rd 11 F=.bool l)(dj:H.get s=.cells (c++(u++[.bool f,.bool i])) 0)
 (n:∀b:Fr,k=true∧l=true∧¬(f=true∧i=true∧0≤ig (x-y))→(∀t,t<44→rd t b=rd t F)→K b H)
 (o:∀b:Fr,¬(k=true∧l=true∧¬(f=true∧i=true∧0≤ig (x-y)))→(∀t,t<44→t≠4→t≠5→rd t b=rd t F)→rd 4 b=.ak→rd 5 b=aq→R .ret b H):
 bT uG (e_ K R) F H:=by
 have P:∀ {b:Fr}{G:Fr},(∀t,t<44→rd t b=rd t G)→(∀t,t<44→rd t b=rd t G):=fun h=>h
 cases k with
 |false=>
  simp only[go_sem,uG,d,gS];refine o _ (fun h=>rJ h.1) ?_ ?_ ?_
  ·intro t e v w;simp(disch:=omega)only[go_sem,au]
  all_goals simp only[go_sem]
 |true=>
  cases l with
  |false=>
   simp only[go_sem,uG,d,j,gS,dZ];refine o _ (fun h=>rJ h.2.1) ?_ ?_ ?_
   ·intro t e v w;simp(disch:=omega)only[go_sem,au]
   all_goals simp only[go_sem]
  |true=>
   rcases D with⟨rfl,r,_⟩|⟨rfl,A⟩
   ·obtain⟨L,M,N,O,rfl,_⟩:=z.len;subst r;simp only[j6,fm,eM]at dj;simp only[go_sem,uG,m,d,j,dj,dZ];refine n _ ⟨rfl,rfl,fun h=>rJ h.1⟩ ?_;intro t e;simp(disch:=omega)only[go_sem,au]
   ·rcases z with⟨rfl,r,_⟩|⟨rfl,E⟩
    ·subst r;subst A;simp only[j6,bY,fm,eM]at dj;simp only[go_sem,uG,m,d,j,dj,dZ];refine n _ ⟨rfl,rfl,fun h=>rJ h.2.1⟩ ?_;intro t e;simp(disch:=omega)only[go_sem,au]
    ·subst A;subst E;have q:=abK x y I J C;unfold cJ at q;simp only[bY,fm,eM]at dj q;simp only[go_sem,uG,m,d,j,dj,dZ];refine use q ?_;by_cases B:0≤ig (x-y)
     ·have p:decide (ig (x-y)<0)=false:=bp aa;simp only[go_sem,p];refine o _ (fun h=>h.2.2 ⟨rfl,rfl,B⟩) ?_ ?_ ?_
      ·intro t e v w;simp(disch:=omega)only[go_sem,au]
      all_goals simp only[go_sem]
     ·have p:decide (ig (x-y)<0)=true:=bw aa;simp only[go_sem,p];refine n _ ⟨rfl,rfl,fun h=>B h.2.2⟩ ?_;intro t e;simp(disch:=omega)only[go_sem,au]
theorem qb_of{k:Nat}{q:Rat}(a:q.num.natAbs<2^k)(b:q.den<2^k):bB k q:=⟨a,b⟩
theorem qb_int{k:Nat}{z:Int}(h:z.natAbs<2^k)(a:0<k):bB k (z:Rat):=⟨h,Nat.one_lt_two_pow aa⟩
theorem apg(m:i.length≤500):bB 2001 (lH i).1:=by
 have e:bB 2001 0:=@Go.aV.abC 2001 aa;have c:=acE (hG i);have o:(hG i).length≤i.length:=by
  unfold hG;split
  ·rw[gF];omega
  ·omega
 have g:((hG i).takeWhile ns).length≤500:=by
  have:=congrArg jD c.1;rw[bt]at this;omega
 have j:(((hG i).dropWhile ns).drop 1).length≤500:=by
  have:=congrArg jD c.1;rw[bt]at this;rw[gF];omega
 have a:∀ {n:Nat},n<2^2000→n<2^2001:=fun{n} h=>@Go.aV.B7 n 2 2000 2 1 2001 h aj aj aj
 unfold lH;split
 ·rename_i f;have d:(mA i).natAbs<2^2000:=by
   have:=Bi f.1 g;unfold mA;split
   ·rw[lO,cV];exact this
   ·rw[cV];exact this
  split
  ·exact @qb_int 2001 (mA i) (a d) aa
  ·split
   ·rename_i b;obtain⟨k,l⟩:=mk_le (mA i) b.2;exact @qb_of 2001 _ (a (eH k d)) (a (eH l (Bi b.1.1 j)))
   ·exact e
 ·exact e
theorem abN(a:i.length≤500):bB 2001 (iK i).1:=by
 unfold iK;split
 ·exact @Go.aV.abC 2001 aa
 ·exact apg a
theorem apj:rj []=some []:=rfl
theorem api(s:dc)(l:List dc):rj (s::l)=match sL s with
 |some x=>(rj l).map (x:: ·)
 |none=>none:=rfl
theorem apn(j:Nat)(l:List dc)(hl:l.length≤1000)(hs:∀s∈l,s.1.length≤500∧s.2.length≤500):bA 14 [ai (j:Int),hY l] (o7 j l):=by
 refine e3 (.cons (.int _ _) (.cons (qV l) .nil)) (bg sv ?_);have da:bZ (o7 j l):=by
  unfold o7;split
  ·exact .aK (.cons (r_ _) (.cons (.bool _) .nil))
  ·exact .aK (.cons (r_ _) (.cons (.bool _) .nil))
 simp only[go_sem,NX,N7,N6,hY];refine bW (fun k r d=>∃(i:Nat) (v:V) (g:Nat) (A:List V) (n:List fO),k=l.length-i∧i≤l.length∧rd 0 r=ai (j:Int)∧rd 6 r=v∧rd 13 r=ej ek l∧rd 14 r=ai (l.length:Int)∧rd 15 r=ai (i:Int)∧bu d 10 v A g∧(∀H m:ag,dy H m A (gB fS n))∧n.length=i∧A.length=i*10∧rj l=(rj (l.drop i)).map (n++ ·)) l.length ⟨0,.ak,0,[],[],rfl,ck _,?_,?_,?_,?_,?_,.nil,fun _ _=>.nil,rfl,rfl,?_⟩ ?_
 iterate 4 simp only[go_sem]
 ·simp only[go_sem];rfl
 ·simp
 rintro k r d ⟨i,v,g,A,n,rfl,hi,f0,f6,ae,L,M,S,w,O,Y,q⟩;unfold N4;by_cases b0:i<l.length
 ·obtain⟨s,X⟩:∃s,l[i]? =some s:=⟨l[i],cH b0⟩;obtain⟨b,a⟩:=s;obtain⟨Z,l2⟩:=hs _ (er X);simp only at Z l2;have ea:=o9 (k:=2) (fun _=>rfl) X (f:=ek);have P:decide ((i:Int)<((l.length:Nat):Int))=true:=bw aa;have be:l.drop i=(b,a)::l.drop (i+1):=by
   obtain⟨p,h2⟩:=fo.1 X;rw[kr p,h2]
  rw[be,api]at q;simp(disch:=omega)only[go_sem,Ep,aeH,abG,abH,abI,ae,L,M,P,mP,bN,ea,ek];refine apb b a Z d.next (d.next+1) (!decide (a=[])) _ _ _ _ ?_ ?_ ?_ ?_ ?_ ?_
  iterate 3 simp only[go_sem]
  ·simp(disch:=omega)only[go_sem,au]
  ·simp(disch:=omega)only[go_sem];rfl
  intro a3 m c f a5 B gc ap b1;have ch:∀y,y<d.next→m.get y=d.get y:=fun y hy=>by
   rw[ap y aa];simp(disch:=omega)only[go_sem,au]
  have df:m.next=d.next+2:=by rw[b1];simp only[go_sem]
  have eV:m.get d.next=.cells [.str b,.str a] 0:=by
   rw[ap _ aa];simp(disch:=omega)only[go_sem,au]
  simp only[go_sem];refine ao' b a l2 d.next (d.next+1) (!decide (b=[])) c _ B _ _ _ _ ?_ ?_ ?_ eV gc ?_
  ·rw[f 8 aj aj];simp only[go_sem]
  ·rw[f 9 aj aj];simp only[go_sem]
  ·rw[f 11 aj aj];simp only[go_sem]
  intro c1 H3 c2 cu a6 Q N bc dk;have ci:∀y,y<d.next→H3.get y=d.get y:=fun y hy=>by
   rw[bc y aa,ch y hy]
  simp only[go_sem];refine apa (d.next+1) (iK b).2 (iK a).2 (!decide (b=[])) (!decide (a=[])) c c2 (iK b).1 (iK a).1 B Q (abN Z) (abN l2) aj _ _ _ _ ?_ ?_ a6 N ?_ ?_
  ·rw[cu 9 aj aj,f 9 aj aj];simp only[go_sem]
  ·rw[cu 10 aj aj,a5]
  ·intro o R a0;have W:sL (b,a)=some ⟨(iK b).1,(iK a).1, !decide (b=[]), !decide (a=[])⟩:=by
    unfold sL;rw[ay];refine⟨R.1,R.2.1,fun h=>R.2.2 ⟨?_,?_,h.2.2⟩⟩
    ·rw[bp h.1];rfl
    ·rw[bp h.2.1];rfl
   rw[W]at q;have u:∀t,t<26→t≠10→t≠11→rd t o=rd t a3:=fun t p h2 h3=>by
    rw[a0 t aa,cu t aa h3]
   have ce:rd 6 o=v:=by
    rw[u 6 aj aj aj,f 6 aj aj];simp only[go_sem,f6]
   have cf:rd 9 o=.ptr (d.next+1) 0:=by
    rw[u 9 aj aj aj,f 9 aj aj];simp only[go_sem]
   have b':rd 0 o=ai (j:Int):=by
    rw[u 0 aj aj aj,f 0 aj aj];simp only[go_sem,f0]
   have ca:rd 13 o=ej ek l:=by
    rw[u 13 aj aj aj,f 13 aj aj];simp only[go_sem,ae]
   have cb:rd 14 o=ai (l.length:Int):=by
    rw[u 14 aj aj aj,f 14 aj aj];simp only[go_sem,L]
   have cd:rd 15 o=ai (i:Int):=by
    rw[u 15 aj aj aj,f 15 aj aj];simp only[go_sem,M]
   have bj:=fun H m=>B.dr (H:=H) (H2:=m)
   have bo:=fun H m=>Q.dr (H:=H) (H2:=m)
   obtain⟨E,F,vC,j7,rfl,o1⟩:=B.len;obtain⟨G,I,J,K,rfl,o2⟩:=Q.len;have co:de [E,F,vC,j7,G,I,J,K,.bool (!decide (b=[])),.bool (!decide (a=[]))]=true:=by
    rw[pV]at o1 o2⊢;intro x w;rw[show [E,F,vC,j7,G,I,J,K,V.bool (!decide (b=[])),V.bool (!decide (a=[]))]=[E,F,vC,j7]++([G,I,J,K]++[V.bool (!decide (b=[])),V.bool (!decide (a=[]))])from rfl]at w;rcases gU.1 w with h|h
    ·exact o1 x h
    ·rcases gU.1 h with h|h
     ·exact o2 x h
     ·rcases gL.1 h with h|h
      ·rw[h];rfl
      ·rw[dH.1 h];rfl
   simp only[fm,eM]at N;have bs:bu H3 10 v A g:=S.low ci aa;simp only[go_sem,abJ,ce,cf,N];refine jR (bytes:=136) bs rfl aj co ⟨aa,aj⟩ fun v2 H4 g2 q1 dl dp dq=>?_
   have w1:aG .i64 ((i:Int)+1)=((i+1:Nat):Int):=by rw[aQ _ aa];rfl
   simp only[go_sem,Eo,cd,w1];refine⟨l.length-(i+1),aa,i+1,v2,g2,_,n++[⟨(iK b).1,(iK a).1, !decide (b=[]), !decide (a=[])⟩],rfl,aa,?_,?_,?_,?_,?_,q1,?_,?_,?_,?_⟩
   iterate 5 simp only[go_sem,b',ca,cb]
   ·intro C D;rw[yL];refine x6 (w C D) ?_;simp only[gB,fA];exact x6 (bj C D) (x6 (bo C D) (dy.refl _))
   ·rw[bt,O];rfl
   ·rw[bt,Y];show _+10=_;omega
   ·rw[q,Option.map_map];congr 1;funext z;simp
  ·intro o bd a0 a7 a8;have W:sL (b,a)=none:=by
    unfold sL;rw[au];intro h;refine bd ⟨h.1,h.2.1,fun T=>h.2.2 ⟨fun e=>?_,fun e=>?_,T.2.2⟩⟩
    ·have p:=T.1;simp only at e;rw[bw e]at p;cases p
    ·have p:=T.2.1;simp only at e;rw[bw e]at p;cases p
   rw[W]at q;have U:o7 j l=.aK [jW [],aq]:=by unfold o7;rw[q];rfl
   simp only[go_sem,a7,a8];rw[U];exact⟨_,.aK (.cons .fQ (.cons (.same _) .nil)),.aK (.cons (r_ []) (.cons (.bool _) .nil)),rfl⟩
 ·have bv:i=l.length:=aa;subst bv;have P:decide (((l.length:Nat):Int)<((l.length:Nat):Int))=false:=bp aa;rw[List.drop_eq_nil_of_le (aR _),apj]at q;have U:o7 j l=.aK [jW n,.bool (decide (n.length=j))]:=by
   unfold o7;rw[q];simp
  have ar:=S.len aj;rw[Y,td _ aj]at ar;have bi:decide (((l.length:Nat):Int)=(j:Int))=decide (n.length=j):=decide_eq_decide.2 (by rw[O];omega);simp only[go_sem,Ep,N5,f0,f6,L,M,P,ar,bi];rw[U];exact⟨_,.aK (.cons (Bv uK aj S (w _ _) (fun _ _ _=>jJ) (by rw[Y,O])) (.cons (.same _) .nil)),.aK (.cons (r_ n) (.cons (.bool _) .nil)),rfl⟩
def adm:ah:=(.aH [ex 11 (dX none 10 (rd 7) (rd 9)),ex 12 (ct true 10 (rd 11)),ex 5 (alloc [aq,.ak,aq,.ak,aq,.ak,aq,.ak,aq,aq]),eP (st 10 (rd 5) (rd 12))])
def adn:ah:=(.aH [ex 6 (alloc [(.str []),(.str [])])])
def CV:ah:=(.seq (.aH [ex 13 (fa 8 (rd 5)),ex 14 (ct false 1 (rd 13))]) (.cond (rd 14) (.aH [ex 15 (fa 0 (rd 5)),ex 16 (ct true 4 (rd 15)),ex 17 (bF 22 [(rd 16)]),ex 18 (fa 0 (rd 6)),eP (st 1 (rd 18) (rd 17))]) .skip))
def CW:ah:=(.seq (.aH [ex 19 (fa 9 (rd 5)),ex 20 (ct false 1 (rd 19))]) (.cond (rd 20) (.aH [ex 21 (fa 4 (rd 5)),ex 22 (ct true 4 (rd 21)),ex 23 (bF 22 [(rd 22)]),ex 24 (fa 1 (rd 6)),eP (st 1 (rd 24) (rd 23))]) .skip))
def ado:ah:=(.aH [ex 25 (fa 0 (rd 3)),ex 26 (ct false 1 (rd 25)),ex 27 (ct true 2 (rd 6)),ex 28 (cW 1 [(0,2)] [(.str []),(.str [])] [(rd 27)]),ex 29 (ap 2 32 (rd 26) (rd 28)),ex 30 (fa 0 (rd 3)),eP (st 1 (rd 30) (rd 29))])
theorem aeG:NL=(.seq (.block 1 (.seq adm (.seq adn (.seq CV (.seq CW ado))))) Ee):=rfl
def oq(s:fO):dc:=(if s.hl then bS s.lo else [],if s.hh then bS s.hi else [])
def nN(k:Nat)(s:fO):Prop:=bB k s.lo∧bB k s.hi
theorem rB(s:dc):(ek s).length=2:=rfl
theorem arM(s:fO)(k:Nat)(o:k≤30000000)(q:nN k s)(a:List UInt8)(h b:Nat)(F:Fr)(H:ag)(R:X→Fr→ag→Prop)(K:Fr→ag→Prop)(i:rd 5 F=.ptr h 0)(n:rd 6 F=.ptr b 0)(d:H.get h=.cells (fS s) 0)(j:H.get b=.cells [.str [],.str []] 0)
 (f:∀(g:Fr) (c:ag),(∀t,t<13→rd t g=rd t F)→c.get b=.cells [.str (if s.hl then bS s.lo else []),.str []] 0→(∀y,y≠b→c.get y=H.get y)→c.next=H.next→K g c):
 bT CV (e_ K R) F H:=by
 obtain⟨w,A,p,z⟩:=s;obtain⟨l,x⟩:=q;simp only at l x f;have m:=y2 w l o;simp only[fS,bY,fm,eM]at d;unfold cJ bY at m;cases p with
 |false=>
  simp only[go_sem,CV,i,d];refine f _ _ ?_ j (fun _ _=>rfl) rfl;intro t r;simp(disch:=omega)only[go_sem,au]
 |true=>
  simp only[go_sem,CV,i,d];refine use m ?_;simp only[go_sem,n,j];refine f _ _ ?_ ?_ ?_ ?_
  ·intro t r;simp(disch:=omega)only[go_sem,au]
  ·simp only[go_sem]
  ·intro y u;have v:¬b=y:=fun e=>u e.symm
   simp only[go_sem,au v]
  ·simp only[go_sem]
theorem arN(s:fO)(k:Nat)(q:k≤30000000)(r:nN k s)(a:List UInt8)(h b:Nat)(F:Fr)(H:ag)(R:X→Fr→ag→Prop)(K:Fr→ag→Prop)(i:rd 5 F=.ptr h 0)(n:rd 6 F=.ptr b 0)(d:H.get h=.cells (fS s) 0)(j:H.get b=.cells [.str a,.str []] 0)
 (f:∀(g:Fr) (c:ag),(∀t,t<13→rd t g=rd t F)→c.get b=.cells [.str a,.str (if s.hh then bS s.hi else [])] 0→(∀y,y≠b→c.get y=H.get y)→c.next=H.next→K g c):
 bT CW (e_ K R) F H:=by
 obtain⟨A,p,z,o⟩:=s;obtain⟨x,l⟩:=r;simp only at x l f;have m:=y2 p l q;simp only[fS,bY,fm,eM]at d;unfold cJ bY at m;cases o with
 |false=>
  simp only[go_sem,CW,i,d];refine f _ _ ?_ j (fun _ _=>rfl) rfl;intro t u;simp(disch:=omega)only[go_sem,au]
 |true=>
  simp only[go_sem,CW,i,d];refine use m ?_;simp only[go_sem,n,j];refine f _ _ ?_ ?_ ?_ ?_
  ·intro t u;simp(disch:=omega)only[go_sem,au]
  ·simp only[go_sem]
  ·intro y v;have w:¬b=y:=fun e=>v e.symm
   simp only[go_sem,au w]
  ·simp only[go_sem]
theorem ar6(l:List fO)(k:Nat)(K:k≤30000000)(hl:l.length≤1000)(hq:∀s∈l,nN k s):bA 12 [jW l] (hY (l.map oq)):=by
 refine e3 (.cons (r_ l) .nil) (bg v9 ?_);simp only[go_sem,Nx,NP,NO,jW];refine bW (fun m j c=>∃(i:Nat) (v:V) (g:Nat),m=l.length-i∧i≤l.length∧rd 2 j=.ptr 5 0∧rd 3 j=.ptr 6 0∧rd 7 j=ej fS l∧rd 8 j=ai (l.length:Int)∧rd 9 j=ai (i:Int)∧c.get 5=.cells [.ak] 0∧c.get 6=.cells [v] 0∧7≤c.next∧bu c 2 v (gB ek ((l.take i).map oq)) g) l.length ⟨0,.ak,0,rfl,ck _,?_,?_,?_,?_,?_,?_,?_,?_,.nil⟩ ?_
 iterate 4 simp only[go_sem]
 ·simp only[go_sem];rfl
 iterate 2 simp only[go_sem]
 ·exact aR 7
 rintro m j c ⟨i,v,g,rfl,hi,F,G,H,q,r,u,I,bc,o⟩;unfold NM;obtain⟨be,bi,a3⟩:=o.bP;by_cases al:i<l.length
 ·obtain⟨s,A⟩:∃s,l[i]? =some s:=⟨l[i],cH al⟩;have L:=hq s (er A);have E:=o9 uK A;have x:decide ((i:Int)<((l.length:Nat):Int))=true:=bw aa;have w1:aG .i64 ((i:Int)+1)=((i+1:Nat):Int):=by rw[aQ _ aa];rfl
  have B:=uJ ek rB ((l.take i).map oq);rw[lQ,ep,oH hi]at B;have a7:∀a b:List UInt8,de [V.str a,.str b]=true:=fun _ _=>rfl
  simp only[fS,bY,fm,eM]at E;simp(disch:=omega)only[go_sem,Ef,aeG,adm,adn,H,q,r,x,mP,bN,E];refine arM s k K L [] c.next (c.next+1) _ _ _ _ ?_ ?_ ?_ ?_ ?_
  iterate 2 simp only[go_sem]
  ·simp(disch:=omega)only[go_sem,au];rfl
  ·simp(disch:=omega)only[go_sem]
  intro P p d R J am;have a2:∀y,y<c.next→p.get y=c.get y:=fun y M=>by
   rw[J y aa];simp(disch:=omega)only[go_sem,au]
  have ap:p.next=c.next+2:=by rw[am];simp only[go_sem]
  have T:p.get c.next=.cells (fS s) 0:=by
   rw[J _ aa];simp(disch:=omega)only[go_sem,au];rfl
  simp only[go_sem];refine arN s k K L _ c.next (c.next+1) _ _ _ _ ?_ ?_ T R ?_
  ·rw[d 5 aj];simp only[go_sem]
  ·rw[d 6 aj];simp only[go_sem]
  intro f n cu S ab ar;have C:∀y,y<c.next→n.get y=c.get y:=fun y M=>by rw[ab y aa,a2 y M]
  have kk:∀t,t<13→rd t f=rd t P:=cu;have U:rd 2 f=.ptr 5 0:=by rw[cu 2 aj,d 2 aj];simp only[go_sem,F]
  have w:rd 3 f=.ptr 6 0:=by rw[cu 3 aj,d 3 aj];simp only[go_sem,G]
  have W:rd 6 f=.ptr (c.next+1) 0:=by rw[cu 6 aj,d 6 aj];simp only[go_sem]
  have X:rd 7 f=ej fS l:=by rw[cu 7 aj,d 7 aj];simp only[go_sem,H]
  have Y:rd 8 f=ai (l.length:Int):=by rw[cu 8 aj,d 8 aj];simp only[go_sem,q]
  have Z:rd 9 f=ai (i:Int):=by rw[cu 9 aj,d 9 aj];simp only[go_sem,r]
  have I4:n.get 6=.cells [v] 0:=by rw[C 6 aa,I]
  have ZO:n.get 5=.cells [.ak] 0:=by rw[C 5 aa,u]
  have z:=o.low C aa;simp only[go_sem,ado,w,W,S,I4];refine jR (bytes:=32) z rfl aj (a7 _ _) ⟨aa,aj⟩ fun v2 D Q N bj O bo=>?_
  have aw:g≠6:=by
   rcases z.ne I4 with h|h
   ·omega
   ·exact fun e=>h e.symm
  have a0:g≠5:=by
   rcases z.ne ZO with h|h
   ·omega
   ·exact fun e=>h e.symm
  have ZP:D.get 6=.cells [v] 0:=by rw[O 6 aa (.inr (fun e=>aw e.symm)),I4]
  have aie:D.get 5=.cells [.ak] 0:=by rw[O 5 aa (.inr (fun e=>a0 e.symm)),ZO]
  obtain⟨a4,a5,a6⟩:=N.bP;have bb:n.next=c.next+2:=by rw[ar,ap]
  have a':¬(6=5):=aj;simp only[go_sem,Ee,w,ZP,a4,a5,a6,Z,w1];refine⟨l.length-(i+1),aa,i+1,v2,Q,rfl,aa,?_,?_,?_,?_,?_,?_,?_,?_,?_⟩
  iterate 7 simp only[go_sem,U,w,X,Y,aie]
  ·simp only[go_sem];omega
  ·refine bu.set ?_ ZP _;obtain⟨ad,e⟩:=fo.1 A;rw[jZ ad,e,List.map_append,yL];simpa [gB,ek,oq]using N
 ·have ae:i=l.length:=aa;subst ae;have x:decide (((l.length:Nat):Int)<((l.length:Nat):Int))=false:=bp aa;rw[cq (aR _)]at o;have B:=uJ ek rB (l.map oq);simp only[go_sem,Ef,NN,F,G,q,r,x,u,I,a3];refine⟨_,.agg (.cons (Bv rB aj (o.set u _) (dy.refl _) (fun _ _ _=>jJ) B) .nil),qV _,rfl⟩
abbrev mD:=Rat×Rat
def jv(s:mD):List V:=bY s.1++bY s.2
theorem v8(s:mD):(jv s).length=8:=rfl
theorem IN(s:mD):cM (jv s):=nY (x4 _) (x4 _)
def wI(s:fO):mD:=(s.lo,s.hi)
def Ct(s:fO):Bool:=s.hl&&s.hh
def vq(l:List fO):V:=if l.all Ct then .aK [ej jv (l.map wI),cC]else .aK [ej jv [],aq]
theorem aes(l:List fO)(S:l.length≤1000):bA 20 [jW l] (vq l):=by
 refine e3 (.cons (r_ l) .nil) (bg ak2 ?_);simp only[go_sem,vC,QT,QS,jW];refine bW (fun m a k=>∃(i:Nat) (v:V) (g:Nat),m=l.length-i∧i≤l.length∧rd 4 a=v∧rd 7 a=ej fS l∧rd 8 a=ai (l.length:Int)∧rd 9 a=ai (i:Int)∧(l.take i).all Ct=true∧bu k 8 v (gB jv ((l.take i).map wI)) g) l.length ⟨0,.ak,0,rfl,ck _,?_,?_,?_,?_,rfl,.nil⟩ ?_
 iterate 3 simp only[go_sem]
 ·simp only[go_sem];rfl
 rintro m a k ⟨i,v,g,rfl,G,x,j,b,c,n,o⟩;unfold QN;by_cases K:i<l.length
 ·obtain⟨s,q⟩:∃s,l[i]? =some s:=⟨l[i],cH K⟩;have f:=o9 uK q;have d:decide ((i:Int)<((l.length:Nat):Int))=true:=bw aa;have Q:aG .i64 ((i:Int)+1)=((i+1:Nat):Int):=by rw[aQ _ aa];rfl
  have r:=uJ jv v8 ((l.take i).map wI);rw[lQ,ep,oH G]at r;obtain⟨I,e⟩:=fo.1 q;have A:l.take (i+1)=l.take i++[s]:=by rw[jZ I,e]
  have L:s∈l:=er q;have w:Ct s=false→vq l=.aK [ej jv [],aq]:=fun h=>by
   unfold vq;rw[au];intro F;have:=List.all_eq_true.1 F s L;rw[h]at this;cases this
  have z:∀ {H B:ag},∃u,cr H B (.aK [.ak,aq]) u∧bZ u∧u=.aK [ej jv [],aq]:=⟨_,.aK (.cons .fQ (.cons (.same _) .nil)),.aK (.cons (tW IN []) (.cons (.bool _) .nil)),rfl⟩;obtain⟨t,p,C,D⟩:=s;simp only[fS,bY,fm,eM]at f;have N:de [V.bool (decide (t.num<0)),mag (aU t.num.natAbs),aq,mag (aU (dd t)),.bool (decide (p.num<0)),mag (aU p.num.natAbs),aq,mag (aU (dd p))]=true:=rfl;cases C with
  |false=>
   rw[w rfl];simp(disch:=omega)only[go_sem,xO,zV,j,b,c,d,mP,bN,f,gS];exact z
  |true=>
   cases D with
   |false=>
    rw[w rfl];simp(disch:=omega)only[go_sem,xO,zV,j,b,c,d,mP,bN,f,gS,dZ];exact z
   |true=>
    simp(disch:=omega)only[go_sem,xO,zV,x,j,b,c,d,mP,bN,f,dZ];refine jR (H:=(k.push _).set _ _) (bytes:=128) (bu.low o ?_ ?_) rfl aj N ⟨aa,aj⟩ fun P R E O U W X=>?_
    ·intro y T;simp(disch:=omega)only[go_sem,au]
    ·simp only[go_sem];omega
    simp only[go_sem,QM,c,Q];refine⟨l.length-(i+1),aa,i+1,P,E,rfl,aa,?_,?_,?_,?_,?_,?_⟩
    iterate 4 simp only[go_sem,j,b]
    ·rw[A,List.all_append,n];rfl
    ·rw[A,List.map_append,yL];simpa [gB,jv,bY,wI]using O
 ·have J:i=l.length:=aa;subst J;have d:decide (((l.length:Nat):Int)<((l.length:Nat):Int))=false:=bp aa;rw[cq (aR _)]at o n;have r:=uJ jv v8 (l.map wI);have M:vq l=.aK [ej jv (l.map wI),cC]:=ay n;simp only[go_sem,xO,QO,x,b,c,d];rw[M];exact⟨_,.aK (.cons (Bv v8 aj o (dy.refl _) (fun _ _ _=>jJ) r) (.cons (.same _) .nil)),.aK (.cons (tW IN _) (.cons (.bool _) .nil)),rfl⟩
variable{h:Type}
theorem ace{f:h→List V}(c:∀b,(f b).length=a){l:List h}{b:h}(d:l[g]? =some b)(o n:Nat)(j:o+n≤a):cF (eA (gB f l) (g*a+o)) n=some (((f b).drop o).take n):=by
 obtain⟨e,rfl⟩:=fo.1 d;rw[jT,←List.drop_drop,acd f c,kr e];show cF ((f l[g]++gB f _).drop o) n=_;have i:=c l[g];rw[eR,ay (by rw[gF,bt];omega),List.drop_append_of_le_length aa,xh (by rw[gF];omega)]
def ee(l:List mD)(i:Nat):mD:=l.getD i (0,0)
def oo(s:mD):Rat:=s.2-s.1
def w9(l:List mD)(a i:Nat):Nat:=if 0<ig (oo (ee l i)-oo (ee l a))then i else a
def gD(l:List mD)(n:Nat):Nat:=(lS n).foldl (w9 l) 0
theorem KS(l:List mD)(n:Nat):gD l (n+1)=w9 l (gD l n) n:=by
 unfold gD;rw[List.range_succ,List.foldl_append];rfl
theorem zd(l:List mD):∀n,gD l n<n∨gD l n=0
 |0=>.inr rfl
 |n+1=>by
  rw[KS];unfold w9;split
  ·exact .inl (lU _)
  ·rcases zd l n with h|h
   ·exact .inl aa
   ·exact .inr h
def half:Rat:=mkRat 1 2
def KV(l:List mD):V:=.aK [ai ((gD l l.length:Nat):Int),cJ (half*((ee l (gD l l.length)).1+(ee l (gD l l.length)).2))]
theorem aiW:Rat.divInt 1 2=half:=tj 1 2
theorem so:half.num=1∧half.den=2:=mk_one aj aj
theorem arU(l:List mD)(k:Nat)(hk:k≤1000000)(h0:l≠[])(hl:l.length≤1000)(hq:∀s∈l,bB k s.1∧bB k s.2):bA 21 [ej jv l] (KV l):=by
 refine cT (.cons (tW IN l) .nil) (.aK (.cons (.int _ _) (.cons (iu _) .nil))) (bg ak4 ?_);have bc:0<l.length:=vb.2 h0;have O:∀i,i<l.length→l[i]? =some (ee l i)∧bB k (ee l i).1∧bB k (ee l i).2:=fun i P=>by
  have N:l[i]? =some (ee l i):=by
   unfold ee;rw[c_,cH P];rfl
  exact⟨N,hq _ (er N)⟩
 simp only[go_sem,QU,Q2,Q1];refine bW (fun m e A=>∃i:Nat,m=l.length-i∧i≤l.length∧rd 0 e=ej jv l∧rd 3 e=.ptr 5 0∧rd 4 e=ai ((gD l i:Nat):Int)∧rd 7 e=ej jv l∧rd 8 e=ai (l.length:Int)∧rd 9 e=ai (i:Int)∧A.get 5=.cells [aq,.ak,aq,.ak] 0∧6≤A.next) l.length ⟨0,rfl,ck _,?_,?_,?_,?_,?_,?_,?_,?_⟩ ?_
 iterate 2 simp only[go_sem]
 ·simp only[go_sem];rfl
 iterate 2 simp only[go_sem]
 ·simp only[go_sem];rfl
 ·simp only[go_sem]
 ·exact aR 6
 rintro m e A ⟨i,rfl,P,q,B,r,C,t,u,D,bb⟩;unfold QZ;obtain⟨b,p⟩:∃b,b=gD l i:=⟨_,rfl⟩;have hb:b<l.length:=by
  rw[p];rcases zd l i with h|h<;>omega
 rw[←p]at r;obtain⟨M,n,o⟩:=O b hb;have c:=ace v8 M 0 4 aj;have d:=ace v8 M 4 4 aj;by_cases aw:i<l.length
 ·have F:decide ((i:Int)<((l.length:Nat):Int))=true:=bw aa;have W:aG .i64 ((i:Int)+1)=((i+1:Nat):Int):=by rw[aQ _ aa];rfl
  obtain⟨i1,Q,R⟩:=O i aw;have S:=o9 v8 i1;have I:=Kg (ee l i).2 (ee l i).1 R Q aa;have J:=Kg (ee l b).2 (ee l b).1 o n aa;have V:=abK ((ee l i).2-(ee l i).1) ((ee l b).2-(ee l b).1) (R.sub Q) (o.sub n) aa;have g:gD l (i+1)=if 0<ig (((ee l i).2-(ee l i).1)-((ee l b).2-(ee l b).1))then i else b:=by rw[KS,←p];rfl
  generalize ee l i=x at*
  generalize ee l b=y at*
  obtain⟨K,L⟩:=x;obtain⟨w,z⟩:=y;simp only at I J V g;simp only[jv,bY,fm,eM,List.drop_zero,nK,List.take_succ_cons,List.drop_succ_cons,cO]at S c d;unfold cJ bY at I J;simp(disch:=omega)only[go_sem,Fp,QY,q,r,C,t,u,F,mP,bN,S,c,d,cO];refine use I ?_;simp(disch:=omega)only[go_sem,c,d,true_and];refine use J ?_;simp only[go_sem];refine use V ?_;have done:∀(a:Fr) (f:ag),rd 0 a=ej jv l→rd 3 a=.ptr 5 0→rd 4 a=ai ((gD l (i+1):Nat):Int)→rd 7 a=ej jv l→rd 8 a=ai (l.length:Int)→rd 9 a=ai ((i+1:Nat):Int)→f.get 5=.cells [aq,.ak,aq,.ak] 0→6≤f.next→∃T,T<l.length-i∧∃j:Nat,T=l.length-j∧j≤l.length∧rd 0 a=ej jv l∧rd 3 a=.ptr 5 0∧rd 4 a=ai ((gD l j:Nat):Int)∧rd 7 a=ej jv l∧rd 8 a=ai (l.length:Int)∧rd 9 a=ai (j:Int)∧f.get 5=.cells [aq,.ak,aq,.ak] 0∧6≤f.next:=
   fun a f X Y Z a7 a8 a9 a5 al=>⟨l.length-(i+1),aa,i+1,rfl,aa,X,Y,Z,a7,a8,a9,a5,al⟩
  by_cases v:0<ig ((L-K)-(z-w))
  ·have E:decide (0<ig ((L-K)-(z-w)))=true:=bw v;rw[ay v]at g;simp only[go_sem,Fo,E,u,W];refine done _ _ ?_ ?_ ?_ ?_ ?_ ?_ ?_ ?_
   iterate 6 simp only[go_sem,q,B,g,C,t]
   ·simp(disch:=omega)only[go_sem,au];exact D
   ·simp only[go_sem];omega
  ·have E:decide (0<ig ((L-K)-(z-w)))=false:=bp v;rw[au v]at g;simp only[go_sem,Fo,E,u,W];refine done _ _ ?_ ?_ ?_ ?_ ?_ ?_ ?_ ?_
   iterate 6 simp only[go_sem,q,B,g,r,C,t]
   ·simp(disch:=omega)only[go_sem,au];exact D
   ·simp only[go_sem];omega
 ·have ar:i=l.length:=aa;subst ar;have F:decide (((l.length:Nat):Int)<((l.length:Nat):Int))=false:=bp aa;have n1:=sj 1 aj;have n2:=sj 2 aj;have U:=vW 1 2 aj (dI.of (k:=2) aj aj) (dI.of (k:=2) aj aj);rw[aiW]at U;have a4:bB 2 half:=⟨by rw[so.1];decide,by rw[so.2];decide⟩;have G:=Cc (ee l b).1 (ee l b).2 n o aa;have H:=ab_ half ((ee l b).1+(ee l b).2) a4 (n.add o) aa;unfold KV;rw[←p];generalize ee l b=y at*
  obtain⟨w,z⟩:=y;generalize half=hf at*
  simp only at G H⊢;simp only[jv,bY,fm,eM,List.drop_zero,nK,List.take_succ_cons,List.drop_succ_cons,cO]at c d;unfold cJ bY at G H;simp(disch:=omega)only[go_sem,Fp,Q0,q,r,t,u,F,mP,bN,c,d,cO];refine use n1 ?_;simp(disch:=omega)only[go_sem,c,d,true_and];refine use n2 ?_;simp(disch:=omega)only[go_sem,c,d,true_and];refine use U ?_;simp(disch:=omega)only[go_sem,c,d,true_and];refine use G ?_;unfold cJ bY;simp only[go_sem];refine use H ?_;simp only[go_sem,B,D]
def K8(l:List Int)(n:Nat)(b:Bool)(k:Nat)(F:Fr)(H:ag):Prop:=∃(j i:Nat) (v:V) (g:Nat) (a:List fO),k=n-j∧j≤n∧i≤l.length∧rd 0 F=.ptr 5 0∧rd 1 F=ai (n:Int)∧rd 2 F=.bool b∧rd 7 F=v∧rd 8 F=ai (j:Int)∧H.get 5=.cells (eS l i) 0∧6≤H.next∧bu H 10 v (gB fS a) g∧a.length=j∧∀s∈a,nN 9 s
theorem Mo(l:List Int)(W:l.length≤400)(hz:ko l)(n:Nat)(hn:n≤100)(x:Bool)(j:Nat)(hj:j<n)(v:V)(g:Nat)(a:List fO)(O:a.length=j)(P:∀s∈a,nN 9 s)(z:Int)(a6: -3≤z∧z≤3)(c d:Bool)(i:Nat)(T:i≤l.length)(F:Fr)(H:ag)(b:Nat)(hb:6≤b)(a2:b<H.next)(A:rd 0 F=.ptr 5 0)(I:rd 1 F=ai (n:Int))(J:rd 2 F=.bool x)(K:rd 7 F=v)(L:rd 8 F=ai (j:Int))(B:rd 9 F=.ptr b 0)(C:H.get 5=.cells (eS l i) 0)(S:bu H 10 v (gB fS a) g)(dj:H.get b=.cells (bY (z:Rat)++(j6++[.bool c,.bool d])) 0)(R:X→Fr→ag→Prop)(N:∀u w k,k<n-j→K8 l n x k u w→R .norm u w):
 bT (.seq (.aH [ex 30 (fa 0 (rd 9)),ex 31 (ct true 4 (rd 30)),ex 32 (mv (rd 0)),ex 33 (bF 53 [(rd 32)]),re 31 (ct true 4 (rd 30)),ex 34 (bF 37 [(rd 31),(rd 33)]),ex 35 (fa 4 (rd 9)),eP (st 4 (rd 35) (rd 34))]) (.aH [ex 36 (mv (rd 7)),ex 37 (ct true 10 (rd 9)),ex 38 (cW 1 [(0,10)] [aq,.ak,aq,.ak,aq,.ak,aq,.ak,aq,aq] [(rd 37)]),ex 39 (ap 10 136 (rd 36) (rd 38)),ex 7 (fq (rd 39))])) (lX 1 (e_ (bT zG R) R)) F H:=by
 have f:¬5=b:=aa;have Q:¬b=5:=aa;simp only[bY,j6,fm,eM]at dj;simp only[go_sem,A,B,dj];refine iX (aoE l W hz) aj T C ?_;rintro _ e ⟨q,E,-,rfl⟩ U;have t:bB 4 (z:Rat):=bB.ofInt aa aj;have D:=Cc (z:Rat) q t E aj;have w1:aG .i64 ((j:Int)+1)=((j+1:Nat):Int):=by rw[aQ _ aa];rfl
 have a5:=uJ fS uK a;generalize Y:(z:Rat)+q=r at*
 have Z:bB 9 r:=by rw[←Y];exact t.add E
 unfold cJ bY at D⊢;simp only[go_sem,f,dj,true_and];refine use D ?_;have ad:∀p q:Rat,de [V.bool (decide (p.num<0)),mag (aU p.num.natAbs),aq,mag (aU (dd p)),.bool (decide (q.num<0)),mag (aU q.num.natAbs),aq,mag (aU (dd q)),.bool c,.bool d]=true:=fun _ _=>rfl
 have m:=(S.set C (.cells (eS l e) 0)).set (y:=b) (by rw[ag.a_,au f];exact dj) (.cells (fS ⟨(z:Rat),r,c,d⟩) 0);simp only[fS,bY,fm,eM]at m;simp only[go_sem,K,B,f,dj];refine jR (bytes:=136) m rfl aj (ad _ _) ⟨aa,aj⟩ fun v2 H4 M q1 a7 G al=>?_
 simp only[iI]at G al;have y:∀o:eg,((H.set 5 (.cells (eS l e) 0)).set b o).get 5=.cells (eS l e) 0:=fun o=>by
  rw[ag.a_,au Q,ag.a_,ay rfl]
 have am:=(G 5 aa (m.ne (y _))).trans (y _);simp only[go_sem,zG,L,w1];refine N _ _ (n-(j+1)) aa ⟨j+1,e,v2,M,a++[⟨(z:Rat),r,c,d⟩],rfl,aa,U,?_,?_,?_,?_,?_,am,aa,?_,?_,?_⟩
 iterate 5 simp only[go_sem,A,I,J]
 ·rw[yL];simpa [gB,fS,bY]using q1
 ·rw[bt,O];rfl
 ·intro s hs;rcases gU.1 hs with h|h
  ·exact P s h
  ·rw[dH.1 h];exact⟨t.mono aj,Z⟩
def DJ:ah:=(.aH [ex 15 (mv (rd 0)),ex 16 (bF 52 [(rd 15),(kc (ai 3))]),ex 17 (mv (rd 2)),ex 18 (mv (rd 17)),aN 18 false 19 (mv (rd 0)),aN 18 false 20 (bF 11 [(rd 19),(kc (ai 4))]),aN 18 false 21 (bi .gtr (rd 20) (kc (ai 0))),ex 22 (pick (rd 18) (kc cC) (rd 21)),ex 23 (mv (rd 2)),ex 24 (mv (rd 23)),aN 24 false 25 (mv (rd 0)),aN 24 false 26 (bF 11 [(rd 25),(kc (ai 4))]),aN 24 false 27 (bi .gtr (rd 26) (kc (ai 0))),ex 28 (pick (rd 24) (kc cC) (rd 27)),ex 29 (cD [(0,4),(8,1),(9,1)] [aq,.ak,aq,.ak,aq,.ak,aq,.ak,aq,aq] [(rd 16),(rd 22),(rd 28)]),ex 9 (alloc [aq,.ak,aq,.ak,aq,.ak,aq,.ak,aq,aq]),eP (st 10 (rd 9) (rd 29))])
def aeD:ah:=(.aH [ex 30 (fa 0 (rd 9)),ex 31 (ct true 4 (rd 30)),ex 32 (mv (rd 0)),ex 33 (bF 53 [(rd 32)]),re 31 (ct true 4 (rd 30)),ex 34 (bF 37 [(rd 31),(rd 33)]),ex 35 (fa 4 (rd 9)),eP (st 4 (rd 35) (rd 34))])
def aeE:ah:=(.aH [ex 36 (mv (rd 7)),ex 37 (ct true 10 (rd 9)),ex 38 (cW 1 [(0,10)] [aq,.ak,aq,.ak,aq,.ak,aq,.ak,aq,aq] [(rd 37)]),ex 39 (ap 10 136 (rd 36) (rd 38)),ex 7 (fq (rd 39))])
theorem NS:NR=(.seq (.block 1 (.seq DJ (.seq aeD aeE))) zG):=rfl
theorem ah8{v:V}{l:List fO}(h:bu c 10 v (gB fS l) a)(b:∀y,a≠0→c.get y=.cells (gB fS l) a→J.get y=.none):cr c J v (jW l):=
 Bv uK aj h (dy.refl _) b (uJ fS uK l)
theorem aev(l:List Int)(c:l.length≤400)(d:ko l)(n:Nat)(K:n≤100)(t:Bool):pT l 13 [ai (n:Int),.bool t] fun v=>∃s:List fO,s.length=n∧(∀x∈s,nN 9 x)∧v=jW s:=by
 refine sU (.cons (.int _ _) (.cons (.bool _) .nil)) fun S P=>bg yb ?_
 simp only[go_sem,NQ,NW,NV];refine bW (K8 l n t) n ⟨0,S,.ak,0,[],rfl,ck _,P,?_,?_,?_,?_,?_,?_,?_,.nil,rfl,fun _ h=>by cases h⟩ ?_
 iterate 4 simp only[go_sem]
 ·simp only[go_sem];rfl
 ·rw[qZ]
 ·exact aR 6
 rintro k Z p ⟨j,i,v,g,r,rfl,hj,C,a,f,m,u,o,b,Z6,B,I,A⟩;unfold NT;have al:¬p.next=5:=aa
 have am:¬5=p.next:=aa
 by_cases J:j<n
 ·have q:decide ((j:Int)<(n:Int))=true:=bw aa;cases t with
  |true=>
   simp only[go_sem,NS,DJ,a,f,o,q];refine iX (adq l c d 3 aj) aj C b ?_;rintro _ F ⟨z,X,Y,rfl⟩ D;unfold cJ bY;simp only[go_sem,m];refine Mo l c d n K true j J v g r I A z ⟨aa,aa⟩ true true F D _ _ p.next Z6 ?_ ?_ ?_ ?_ ?_ ?_ ?_ ?_ ?_ ?_ _ ?_
   ·simp only[go_sem];omega
   iterate 6 simp only[go_sem,a,f,m,u,o]
   ·simp(disch:=assumption)only[go_sem,au]
   ·refine bu.set ((B.set b _).push _) (cs:=j6++(j6++[aq,aq])) ?_ _;simp only[go_sem];rfl
   ·simp(disch:=assumption)only[go_sem];rfl
   ·intro L M G E w;exact⟨G,E,w⟩
  |false=>
   simp only[go_sem,NS,DJ,a,f,o,q];refine iX (adq l c d 3 aj) aj C b ?_;rintro _ F ⟨z,X,Y,rfl⟩ D;unfold cJ bY;simp only[go_sem,a,m];refine iX (mU l c d 4 aj) aj D ?_ ?_
   ·rw[ag.a_,ay rfl]
   rintro _ T ⟨V,ad,rfl⟩ Q;simp only[go_sem,a,m];refine iX (mU l c d 4 aj) aj Q ?_ ?_
   ·rw[ag.a_,ay rfl]
   rintro _ U ⟨W,ae,rfl⟩ R;simp only[go_sem];refine Mo l c d n K false j J v g r I A z ⟨aa,aa⟩ (decide (0<(V:Int))) (decide (0<(W:Int))) U R _ _ p.next Z6 ?_ ?_ ?_ ?_ ?_ ?_ ?_ ?_ ?_ ?_ _ ?_
   ·simp only[go_sem];omega
   iterate 6 simp only[go_sem,a,f,m,u,o]
   ·simp(disch:=assumption)only[go_sem,au]
   ·refine bu.set ((((B.set b _).set (cs:=eS l F) (by rw[ag.a_,ay rfl]) _).set (cs:=eS l T) (by rw[ag.a_,ay rfl]) _).push _) (cs:=j6++(j6++[aq,aq])) ?_ _;simp only[go_sem];rfl
   ·simp(disch:=assumption)only[go_sem];rfl
   ·intro L M G E w;exact⟨G,E,w⟩
 ·have ac:j=n:=aa;have q:decide ((j:Int)<(n:Int))=false:=bp aa;simp only[go_sem,NU,f,u,o,q];refine⟨i,_,C,b,ah8 B ?_,r_ _,r,aa,A,rfl⟩;intro y O H;rw[ag.kQ,au];intro e;rw[e,b]at H;injection H with _ N
  exact O N.symm
end Go.Proofs.YtddhncjmaahodaaGreatDoor
namespace Go.aE
def xw(ds:List TypeDesc)(a b:V):Option Bool:=match a with
 |.agg x=>(match b with|.agg y=>lY ds x y|_=>aW)
 |_=>aW
def aaI(ds:List TypeDesc)(z:V)(a:Bool)(x y:Fr→V):b4:=.rd [x,y] (sy (xw ds) z a)
def aa1(ds:List TypeDesc)(x y z:Fr→V):b4:=.gb [x,y,z] (w7 (xw ds))
def aaW:b4:=.gb [] Jq
def ab6(x:Fr→V):b4:=.gb [x] yI
def abe(x:Fr→V):b4:=.lF x
def Za(x:Fr→V):b4:=.rd [x] qU
section
variable {P:Program}{G:Nat}{d:Option Nat}{F:Fr}{H:ag}{K:Fr→ag→Prop}
@[go_sem↓]theorem asE(ds:List TypeDesc)(z:V)(a:Bool)(x y:Fr→V):dF P G (aaI ds z a x y) d F H K=pR d K F H (sy (xw ds) z a [x F,y F] H):=rfl
@[go_sem↓]theorem asM(ds:List TypeDesc)(x y z:Fr→V):dF P G (aa1 ds x y z) d F H K=gT d K F (w7 (xw ds) [x F,y F,z F] H):=rfl
@[go_sem↓]theorem asJ:dF P G aaW d F H K=K (put F d (.map H.next)) (H.push (.cv (.map []))):=rfl
@[go_sem↓]theorem asW(x:Fr→V):dF P G (ab6 x) d F H K=gT d K F (yI [x F] H):=rfl
@[go_sem↓]theorem asT(x:Fr→V):dF P G (abe x) d F H K=zk (x F) H fun v a=>K (put F d v) a:=rfl
@[go_sem↓]theorem asy(x:Fr→V):dF P G (Za x) d F H K=pR d K F H (qU [x F] H):=rfl
end
variable{M:X→Fr→ag→Prop}{f:Fr→ag→Prop}
theorem KB{c:X→Fr→ag→Prop}{b:Fr→ag→Prop}(d:∀F H,f F H→b F H)(h:∀x F H,M x F H→c x F H):∀x F H,e_ f M x F H→e_ b c x F H:=by
 intro x F H a;cases x with
 |norm=>exact d _ _ a
 |ret=>exact h _ _ _ a
 |exit i=>exact h _ _ _ a
variable{a:Nat}
theorem wp_mono{P:Program}:∀(c:ah) {F:Fr}{H:ag}{Q f:X→Fr→ag→Prop},(∀x F H,Q x F H→f x F H)→wp P a c F H Q→wp P a c F H f
 |.skip,_,_,_,_,h,d=>h _ _ _ d
 |.ret,_,_,_,_,h,d=>h _ _ _ d
 |.exit _,_,_,_,_,h,d=>h _ _ _ d
 |.aH _,_,_,_,_,h,d=>fZ.mono (fun F H=>h .norm F H) d
 |.seq j b,_,_,_,_,h,d=>wp_mono j (KB (fun _ _=>wp_mono b h) h) d
 |.cond x j b,F,H,Q,f,h,d=>by
  have d:qy (x F) (wp P a j F H Q) (wp P a b F H Q):=d;show qy (x F) (wp P a j F H f) (wp P a b F H f);unfold qy at d⊢;split
  ·rename_i e;rw[e]at d;exact wp_mono j h d
  ·rename_i e;rw[e]at d;exact wp_mono b h d
  ·split at d
   ·contradiction
   ·contradiction
   ·exact d
 |.block id b,_,_,Q,f,h,d=>wp_mono b (fun x F H g=>by
  cases x with
  |norm=>exact h _ _ _ g
  |ret=>exact h _ _ _ g
  |exit i=>
   have g:if i=id then Q .norm F H else Q (.exit i) F H:=g
   show if i=id then f .norm F H else f (.exit i) F H
   by_cases e:i=id
   ·rw[ay e]at g⊢;exact h _ _ _ g
   ·rw[au e]at g⊢;exact h _ _ _ g) d
 |.loop b,_,_,_,_,h,⟨I,k,o,s⟩=>⟨I,k,o,fun m F H t=>wp_mono b (KB (fun _ _ h=>h) h) (s m F H t)⟩
 |.cut _ _ b,_,_,_,_,h,⟨l,n,p,q,r⟩=>⟨l,n,p,q,wp_mono b h r⟩
def oE(P:Program)(G:Nat)(b:ah)(R:X→Fr→ag→Prop):Nat→Fr→ag→Prop
 |0,_,_=>False
 |n+1,F,H=>iA P G b (e_ (oE P G b R n) R) F H
variable{O:ah}{o:Fr}{c:ag}
theorem s0{P:Program}(n:Nat)(h:oE P a O M n o c):iA P a (.loop O) M o c:=by
 refine bW (oE P a O M) n h ?_;intro k e g b;cases k with
 |zero=>exact b.elim
 |succ k=>exact wp_mono O (KB (fun f i d=>⟨k,lU k,d⟩) (fun _ _ _ h=>h)) b
theorem kI{P:Program}(n:Nat)(F:Fr)(H:ag):oE P a O M (n+1) F H=iA P a O (e_ (oE P a O M n) M) F H:=rfl
theorem Zx{bytes:Nat}(h:a≤1073741824∧bytes≤1024):a≤1099511627776∧a*bytes≤1099511627776:=
 ⟨aa,cI (jO h.1 h.2) aj⟩
theorem aqk{s b n c:Nat}{k:IntKind}{h:Int}(a:0≤h∧h≤c):slice3 (jA s) false true false [.slice b 0 n (.least c),.int k h]=some (.val (.slice b 0 h.toNat (.least c))):=by
 show yR b 0 n c none (some (.int k h))=_;unfold yR;rw[qQ (l:=0) (h:=h.toNat) rfl (k8 k a.1) (ck _) aa];rfl
theorem aee{bytes n:Nat}{zs:List V}{k:IntKind}(h:1≤n∧n≤1073741824∧bytes≤1024):xA bytes zs [.ak,.int k (n:Int)]=some (.new (rep zs n) (.least n)):=by
 show av (fU (.int k (n:Int))) (fun n=>bq (and (b8 1 n) (ju n bytes)) (some (bx.new (rep zs n) (.least n))))=_;rw[k8 k aa,bN];show bq (and (b8 1 n) (ju n bytes)) _=_;rw[show b8 1 n=true from Nat.ble_eq_true_of_le h.1,p0 (Zx h.2)];rfl
variable{j:Option Nat}{g:Nat}{z:Nat}{I:Nat}{s:V}{b:List V}
theorem Y3{bytes d:Nat}{xs ys rest:List V}(m:c.get g=.cells (xs++(ys++rest)) 0)(w:xs.length=z*a)(x:ys.length=I*a)(k:j_ s=some I)(l:ec c a I s=some b)(r:b.length=I*a)(q:z+I≤d)(n:z+I≤1073741824∧bytes≤1024)(t:de b=true)
 (p:f (put o j (.slice g 0 (z+I) (.least d))) (c.set g (.cells (xs++(b++rest)) 0))) (y:0<I):gT j f o (ga a bytes [.slice g 0 z (.least d),s] c):=by
 have v:c.e5 g (0+z*a) b=some (c.set g (.cells (xs++(b++rest)) 0)):=by
  unfold ag.e5;rw[m];show bq (de b) (av (dx b (xs++(ys++rest)) (0+z*a)) fun h=>some (c.set g (.cells h 0)))=_;rw[t];have u:dx b (xs++(ys++rest)) (0+z*a)=some (xs++(b++rest)):=by
   rw[nu,ay (by simp only[bt];omega)];congr 1;rw[fB,←w,oD];have e:xs.length+b.length=(xs++ys).length:=by rw[bt,r,x]
   rw[e,←eG xs ys rest,List.drop_left,eG]
  rw[u];rfl
 have i:ga a bytes [.slice g 0 z (.least d),s] c=some (.slice g 0 (z+I) (.least d),c.set g (.cells (xs++(b++rest)) 0)):=by
  show av (j_ s) (fun I=>av (ec c a I s) fun b=>kL a bytes (.slice g 0 z (.least d)) I b c)=_;rw[k];show av (ec c a I s) _=_;rw[l];show Bool.casesOn (motive:=fun _=>Option (V×ag)) (fy I) (bq (ju (z+I) bytes) (bq (b8 (z+I) d) (av (c.e5 g (0+z*a) b) fun c=>some (V.slice g 0 (z+I) (.least d),c)))) (some (.slice g 0 z (.least d),c))=_;rw[su aa,p0 (Zx n),show b8 (z+I) d=true from Nat.ble_eq_true_of_le q,v];rfl
 rw[i];exact p
end Go.aE
namespace Go.Proofs.YtddhncjmaahodaaGreatDoor
open Go.aE
def E_:ah:=.aH [b9 56 16 1,af 16 56]
def Qr:ah:=.seq (.block 1 (an [af 18 16,aX 19 10 14 16,aL 20 10 19,ex 7 (alloc [aq,.ak,aq,.ak,aq,.ak,aq,.ak,aq,aq]),ao 6 18,aF 10 7 20] (an [aA 21 0 2,aC 22 21,af 23 6,bf 24 51 22 23,ex 8 (alloc [(ai 0),.ak]),aF 2 8 24] (bm [aA 25 8 7,aC 26 25] 26 (.aH [aA 27 3 2,aC 28 27,aL 29 2 8,aA 30 0 7,aL 31 4 30,aA 33 0 2,aC 34 33,bk 32 63 31,ey 28 27,cQ 29 2 8,ey 34 33,ex 35 (bF 65 [(kc (ai 1))]),ey 28 27,cQ 29 2 8,ey 34 33,bf 36 64 34 35,ey 28 27,cQ 29 2 8,kG 37 62 29 32 36,ey 28 27,ex 38 (cW 1 [(0,2)] [(ai 0),.ak] [(rd 37)]),eo 39 2 32 28 38,aA 40 3 2,aF 1 40 39]) (an [aA 41 9 7,aC 42 41] (bl 42 (.aH [aA 43 3 2,aC 44 43,aA 45 0 2,aC 46 45,aA 47 4 7,aL 48 4 47,aL 51 2 8,bf 49 64 46 48,ey 44 43,cQ 51 2 8,ex 50 (bF 65 [(kc (ai (-1)))]),ey 44 43,cQ 51 2 8,kG 52 62 49 50 51,ey 44 43,ex 53 (cW 1 [(0,2)] [(ai 0),.ak] [(rd 52)]),eo 54 2 32 44 53,aA 55 3 2,aF 1 55 54]) .skip)))))) E_
def Fa:ah:=.seq (bl 17 .skip (.exit 0)) Qr
def Fb:ah:=an [cw 17 16 15] Fa
def Qs:ah:=aB [aL 57 5 2,aA 58 3 2,aC 59 58,aY 60 59,bH 61 .leq 60 16,aF 5 4 57,ey 59 58,ao 5 61]
def Fc:ah:=.seq (an [af 14 1,aY 15 14,eL 16 (ai 0)] (.block 0 (.loop Fb))) Qs
def Qt:ah:=an [ex 9 (cW 0 [] [(ai 0),.ak] []),aA 10 3 2,aC 11 10,eo 12 2 32 9 11,aA 13 3 2,aF 1 13 12] Fc
def PC:ah:=an [b7 2 0,ex 4 (alloc [(ai 0),(ai 0),.ak,.ak,.ak]),aP 5 aq] Qt
theorem BG:aZ Tryz.f18 18 PC [.cell 4 true 5,.tmp 5]:=bh
def Fs:ah:=.aH [b9 34 20 1,af 20 34]
def Ft:ah:=.seq (.block 3 (an [aX 22 10 18 20,aL 23 10 22,ex 7 (alloc [(ai 0),(ai 0),(ai 0),(ai 0),(ai 0),(ai 0),aq,.ak,aq,.ak]),aF 10 7 23] (.aH [af 24 3,aA 25 0 7,aL 26 6 25,af 27 3,aA 28 0 7,aL 29 6 28,ex 30 (aaI [(.int .i64),(.int .i64),(.int .i64),(.int .i64),(.int .i64),(.int .i64)] (.agg [aq,.ak,aq,.ak]) false (rd 27) (rd 29)),aA 31 6 7,aL 32 4 31,bf 33 112 30 32,cQ 26 6 25,eP (aa1 [(.int .i64),(.int .i64),(.int .i64),(.int .i64),(.int .i64),(.int .i64)] (rd 24) (rd 26) (rd 33))]))) Fs
def zZ:ah:=.seq (bl 21 .skip (.exit 2)) Ft
def tD:ah:=an [cw 21 20 19] zZ
def Ra:ah:=.aH [b9 35 14 1,af 14 35]
def Rb:ah:=.seq (.block 1 (an [aX 16 1 12 14,aC 17 16,ao 5 17] (an [af 18 5,aY 19 18,eL 20 (ai 0)] (.block 2 (.loop tD))))) Ra
def Fw:ah:=.seq (bl 15 .skip (.exit 0)) Rb
def z0:ah:=an [cw 15 14 13] Fw
def Fx:ah:=bl 48 (.aH [af 49 8,aL 50 6 9,aL 51 4 10,ex 52 (cD [(0,6),(6,4)] [(ai 0),(ai 0),(ai 0),(ai 0),(ai 0),(ai 0),aq,.ak,aq,.ak] [(rd 50),(rd 51)]),ex 53 (cW 1 [(0,10)] [(ai 0),(ai 0),(ai 0),(ai 0),(ai 0),(ai 0),aq,.ak,aq,.ak] [(rd 52)]),eo 54 10 112 49 53,ao 8 54]) .skip
def Rc:ah:=an [aL 46 4 10,bk 47 277 46,fL 48 47] Fx
def Q6:ah:=.block 5 (an [ex 43 (Za (rd 40)),bn 44 0 43,bn 45 1 43,ex 9 (alloc [(ai 0),(ai 0),(ai 0),(ai 0),(ai 0),(ai 0)]),ex 10 (alloc [aq,.ak,aq,.ak]),aF 6 9 44,aF 4 10 45] Rc)
def Fu:ah:=.seq (bl 42 .skip (.exit 4)) Q6
def zY:ah:=an [ex 41 (abe (rd 40)),bn 42 0 41] Fu
def Q7:ah:=aB [af 55 8,ao 2 55]
def Q8:ah:=.seq (an [af 39 3,ex 40 (ab6 (rd 39))] (.block 4 (.loop zY))) Q7
def Fv:ah:=an [af 36 3,ex 37 (aaJ (rd 36)),ex 38 (ms 112 [(ai 0),(ai 0),(ai 0),(ai 0),(ai 0),(ai 0),aq,.ak,aq,.ak] (kc (ai 0)) (rd 37)),ao 8 38] Q8
def Q9:ah:=.seq (an [af 12 0,aY 13 12,eL 14 (ai 0)] (.block 0 (.loop z0))) Fv
def Q_:ah:=an [ex 11 aaW,ao 3 11] Q9
def Q5:ah:=an [aP 2 .ak] Q_
theorem ak8:aZ Tryz.f225 225 Q5 [.tmp 2]:=bh
def Fz:ah:=aB [af 26 0,ao 4 26]
def FA:ah:=.seq (an [af 8 1,af 9 0,ex 10 (Il (rd 9)),af 11 0,aY 12 11,bD 13 .sub 10 12,bD 14 .sub 8 13,ao 1 14] (an [af 15 1,bH 16 .gtr 15 0] (bl 16 (.aH [af 17 0,af 18 0,ex 19 (Il (rd 18)),ex 20 (jk 2 false true false [(rd 17),(rd 19)]),af 21 1,ex 22 (LI 32 [(ai 0),.ak] (rd 20) (rd 21)),af 23 0,aY 24 23,ex 25 (jk 2 false true false [(rd 22),(rd 24)]),ao 0 25]) .skip))) Fz
def FB:ah:=bm [af 5 1,bH 6 .lss 5 0] 6 (.aH [ex 7 b4.bad,eP b4.bad]) FA
def Fy:ah:=an [aP 4 .ak] FB
theorem ak9:aZ Tryz.f226 226 Fy [.tmp 4]:=bh
open Go.aV
def zf:List V:=[ai 0,.ak]
theorem ait(n:Nat)(k:n≤1073741824)(H:ag):dN 226 [.ak,ai (n:Int)] H fun v c=>n=0∧v=.ak∧c=H∨0<n∧v=.slice H.next 0 0 (.least n)∧c=H.push (.cells (rep zf n) 0):=by
 refine bg ak9 ?_;have d:decide ((n:Int)<0)=false:=bp aa;have e:xY V.ak=some (.val (ai 0)):=rfl;have f:eC V.ak=some (.val (ai 0)):=rfl;have h:aG .i64 ((0:Int)-0)=0:=rfl;have g:aG .i64 ((n:Int)-0)=(n:Int):=by rw[aQ _ aa];omega
 by_cases j:n=0
 ·subst j;have a:decide ((0:Int)<((0:Nat):Int))=false:=rfl;simp only[go_sem,Fy,FB,FA,Fz,d,e,f,h,g,a];exact .inl (by refine⟨?_,?_,?_⟩<;>first|trivial|rfl)
 ·have a:decide ((0:Int)<(n:Int))=true:=bw aa;have l:slice3 (jA 2) false true false [.ak,ai 0]=some (.val .ak):=rfl;have i:=aee (bytes:=32) (zs:=zf) (k:=.i64) (n:=n) ⟨aa,k,aj⟩;have m:=fun b=>aqk (s:=2) (b:=b) (n:=n) (c:=n) (k:=.i64) (h:=0) ⟨aj,aa⟩
  unfold zf at i;simp only[go_sem,Fy,FB,FA,Fz,d,e,f,h,g,a,l,i,m];exact .inr (by refine⟨aa,?_,?_⟩<;>first|trivial|rfl)
variable{o:Fr}{c:ag}{j:Option Nat}{f:Fr→ag→Prop}{a:Nat}{s:V}
theorem Bl{bytes:Nat}{v:V}(m:∃d,s=.row 0 d)(l:v=.ak∨∃b n h,v=.slice b 0 n (.least h))(k:f (put o j v) c):gT j f o (ga a bytes [v,s] c):=by
 obtain⟨d,rfl⟩:=m;have i:ec c a 0 (.row 0 d)=some []:=by
  show cF d (0*a)=_;rw[jE,eR];simp
 have e:ga a bytes [v,.row 0 d] c=some (v,c):=by
  show av (some 0) (fun n=>av (ec c a n (.row 0 d)) fun g=>kL a bytes v n g c)=_;show av (ec c a 0 (.row 0 d)) (fun g=>kL a bytes v 0 g c)=_;rw[i];rcases l with rfl|⟨b,n,h,rfl⟩<;>rfl
 rw[e];exact k
variable{b:List V}
theorem Zv(h:b.length=a*2):ec c 2 a (.row a b)=some b:=by
 show cF b (a*2)=_;rw[eR,ay aa,cq aa]
theorem afL(a c j d:List V)(n m N:Nat)(t:N=n+m)(q:a.length=n*2)(u:c.length=m*2)(Q:j.length=n*2)(S:d.length=m*2)(ad:de a=true)(ae:de c=true)(am:n≤1000∧m≤1000)(F:Fr)(H:ag)(R:X→Fr→ag→Prop)
 (K:rd 25 F=.row 2 [.row n a,.row m c]) (L:rd 26 F=ai 2) (M:rd 27 F=ai 0) (O:rd 6 F=.slice 5 0 0 (.least N)) (P:H.get 5=.cells (j++d) 0)
 (T:∀(r:Fr) (s:ag),rd 6 r=.slice 5 0 N (.least N)→s.get 5=.cells (a++c) 0→R (.exit 2) r s):bT (.loop rZ) R F H:=by
 have Y:dY none 1 [.row 2 [.row n a,.row m c],ai 0]=some (.val (.dm [.row n a,.row m c] 0)):=lz ⟨aj,aj⟩;have Z:dY none 1 [.row 2 [.row n a,.row m c],ai 1]=some (.val (.dm [.row n a,.row m c] 1)):=lz ⟨aj,aj⟩;have ab:eu [V.row n a,.row m c] 0=some (.row n a):=rfl;have ac:eu [V.row n a,.row m c] 1=some (.row m c):=rfl;have C:decide ((0:Int)<2)=true:=rfl;have D:decide ((1:Int)<2)=true:=rfl;have E:decide ((2:Int)<2)=false:=rfl;have al:aG .i64 ((0:Int)+1)=1:=rfl;have v:aG .i64 ((1:Int)+1)=2:=rfl;refine bW (fun k b f=>rd 25 b=.row 2 [.row n a,.row m c]∧rd 26 b=ai 2∧((k=2∧rd 27 b=ai 0∧rd 6 b=.slice 5 0 0 (.least N)∧f.get 5=.cells (j++d) 0)∨(k=1∧rd 27 b=ai 1∧rd 6 b=.slice 5 0 n (.least N)∧f.get 5=.cells (a++d) 0)∨(k=0∧rd 27 b=ai 2∧rd 6 b=.slice 5 0 N (.least N)∧f.get 5=.cells (a++c) 0))) 2 ⟨K,L,.inl ⟨rfl,M,O,P⟩⟩ ?_;rintro k b f ⟨l,g,⟨rfl,e,o,h⟩|⟨rfl,e,o,h⟩|⟨rfl,e,o,h⟩⟩
 ·have done:∀(i:Fr) (p:ag),rd 25 i=.row 2 [.row n a,.row m c]→rd 26 i=ai 2→rd 27 i=ai 0→rd 6 i=.slice 5 0 n (.least N)→p.get 5=.cells (a++d) 0→bT tw (fun x F H=>e_ (nO (fun k b f=>rd 25 b=.row 2 [.row n a,.row m c]∧rd 26 b=ai 2∧((k=2∧rd 27 b=ai 0∧rd 6 b=.slice 5 0 0 (.least N)∧f.get 5=.cells (j++d) 0)∨(k=1∧rd 27 b=ai 1∧rd 6 b=.slice 5 0 n (.least N)∧f.get 5=.cells (a++d) 0)∨(k=0∧rd 27 b=ai 2∧rd 6 b=.slice 5 0 N (.least N)∧f.get 5=.cells (a++c) 0))) 2) R x F H) i p:=by
   intro i p w y z B A;simp only[go_sem,tw,z,al];refine⟨1,aj,?_,?_,.inr (.inl ⟨rfl,?_,?_,A⟩)⟩
   all_goals simp only[go_sem,w,y,B]
  simp only[go_sem,rZ,tA,xK,l,g,e,Y,ab,C,o];by_cases W:n=0
  ·subst W;have ex:a=[]:=nI aa;have G:j=[]:=nI aa;refine Bl ⟨_,rfl⟩ (.inr ⟨_,_,_,rfl⟩) ?_;simp only[go_sem];refine done _ _ ?_ ?_ ?_ ?_ (by rw[h,ex,G])
   all_goals simp only[go_sem,l,g,e]
  ·refine Y3 (xs:=[]) (ys:=j) (rest:=d) (by rw[h];rfl) rfl Q rfl (Zv q) q aa ⟨aa,aj⟩ ad ?_ aa;simp only[go_sem];refine done _ _ ?_ ?_ ?_ ?_ (by rw[ag.a_];exact ay rfl)
   all_goals simp only[go_sem,l,g,e]
 ·simp only[go_sem,rZ,tA,xK,l,g,e,Z,ac,D,o];by_cases U:m=0
  ·subst U;have J:c=[]:=nI aa;have I:d=[]:=nI aa;refine Bl ⟨_,rfl⟩ (.inr ⟨_,_,_,rfl⟩) ?_;simp only[go_sem,tw,e,v];refine⟨0,aj,?_,?_,.inr (.inr ⟨rfl,?_,?_,by rw[h,J,I]⟩)⟩
   all_goals simp only[go_sem,l,g,t,cO]
  ·refine Y3 (rest:=[]) (by rw[fA];exact h) q S rfl (Zv u) u aa ⟨aa,aj⟩ ae ?_ aa;simp only[go_sem,tw,e,v];refine⟨0,aj,?_,?_,.inr (.inr ⟨rfl,?_,?_,by rw[ag.a_,ay rfl,fA]⟩)⟩
   all_goals simp only[go_sem,l,g,t]
 ·simp only[go_sem,rZ,tA,g,e,E];refine T _ _ ?_ h;simp only[go_sem,o]
theorem aqi(a b:List V)(n m N:Nat)(K:N=n+m)(L:n≤1000∧m≤1000)(F:Fr)(H:ag)(R:X→Fr→ag→Prop)
 (s:rd 0 F=.row 2 [.row n a,.row m b]) (w:rd 9 F=.row 2 [.row n a,.row m b]) (t:rd 10 F=ai 2) (u:rd 11 F=ai 0) (v:rd 3 F=ai 0)
 (x:∀h:Fr,rd 0 h=.row 2 [.row n a,.row m b]→rd 3 h=ai (N:Int)→R (.exit 0) h H):bT (.loop xJ) R F H:=by
 have y:dY none 1 [.row 2 [.row n a,.row m b],ai 0]=some (.val (.dm [.row n a,.row m b] 0)):=lz ⟨aj,aj⟩;have z:dY none 1 [.row 2 [.row n a,.row m b],ai 1]=some (.val (.dm [.row n a,.row m b] 1)):=lz ⟨aj,aj⟩;have C:eu [V.row n a,.row m b] 0=some (.row n a):=rfl;have D:eu [V.row n a,.row m b] 1=some (.row m b):=rfl;have A:eC (V.row n a)=some (.val (ai (n:Int))):=rfl;have B:eC (V.row m b)=some (.val (ai (m:Int))):=rfl;have l:decide ((0:Int)<2)=true:=rfl;have o:decide ((1:Int)<2)=true:=rfl;have p:decide ((2:Int)<2)=false:=rfl;have E:aG .i64 ((0:Int)+1)=1:=rfl;have G:aG .i64 ((1:Int)+1)=2:=rfl;have I:aG .i64 ((0:Int)+(n:Int))=(n:Int):=by rw[aQ _ aa];omega
 have J:aG .i64 ((n:Int)+(m:Int))=(N:Int):=by rw[aQ _ aa];omega
 have r:decide ((n:Int)<0)=false:=bp aa;have q:decide ((N:Int)<0)=false:=bp aa;refine bW (fun k c j=>j=H∧rd 0 c=.row 2 [.row n a,.row m b]∧rd 9 c=.row 2 [.row n a,.row m b]∧rd 10 c=ai 2∧((k=2∧rd 11 c=ai 0∧rd 3 c=ai 0)∨(k=1∧rd 11 c=ai 1∧rd 3 c=ai (n:Int))∨(k=0∧rd 11 c=ai 2∧rd 3 c=ai (N:Int)))) 2 ⟨rfl,s,w,t,.inl ⟨rfl,u,v⟩⟩ ?_;rintro k c j ⟨rfl,i,g,d,⟨rfl,e,f⟩|⟨rfl,e,f⟩|⟨rfl,e,f⟩⟩
 ·simp only[go_sem,xJ,zH,Ew,Ev,f,g,d,e,y,C,A,l,I,r,E];refine⟨1,aj,rfl,?_,?_,?_,.inr (.inl ⟨rfl,?_,?_⟩)⟩
  all_goals simp only[go_sem,i,g,d]
 ·simp only[go_sem,xJ,zH,Ew,Ev,f,g,d,e,z,D,B,o,J,q,G];refine⟨0,aj,rfl,?_,?_,?_,.inr (.inr ⟨rfl,?_,?_⟩)⟩
  all_goals simp only[go_sem,i,g,d]
 ·simp only[go_sem,xJ,zH,d,e,p];refine x _ ?_ ?_
  all_goals simp only[go_sem,i,f]
theorem agd(a b:List V)(n m:Nat)(D:a.length=n*2)(E:b.length=m*2)(p:cM a)(q:cM b)(J:de a=true)(K:de b=true)(s:n≤1000∧m≤1000):
 bA 155 [.row 2 [.row n a,.row m b]] (.row (n+m) (a++b)):=by
 refine e3 (.cons (.row 2 (.cons (.row n p) (.cons (.row m q) .nil))) .nil) (bg akA ?_);obtain⟨N,cA⟩:∃N,N=n+m:=⟨_,rfl⟩;rw[←cA];have j:eC (.row 2 [V.row n a,.row m b])=some (.val (ai 2)):=rfl;simp only[go_sem,Of,Oi,Oh,j];refine aqi a b n m N cA s _ _ _ ?_ ?_ ?_ ?_ ?_ ?_
 iterate 5 simp only[go_sem]
 intro O o x;simp only[go_sem,Og,x];refine(ait N aa _).mono ?_;rintro R P (⟨z,rfl,rfl⟩|⟨z,rfl,rfl⟩)
 ·obtain⟨rfl,rfl⟩:n=0∧m=0:=aa;have ex:a=[]:=nI aa;have w:b=[]:=nI aa;subst ex;subst w;have F:dY none 1 [.row 2 [.row 0 [],.row 0 []],ai 0]=some (.val (.dm [.row 0 [],.row 0 []] 0)):=lz ⟨aj,aj⟩;have G:dY none 1 [.row 2 [.row 0 [],.row 0 []],ai 1]=some (.val (.dm [.row 0 [],.row 0 []] 1)):=lz ⟨aj,aj⟩;have H:eu [V.row 0 [],.row 0 []] 0=some (.row 0 []):=rfl;have I:eu [V.row 0 [],.row 0 []] 1=some (.row 0 []):=rfl;have t:decide ((0:Int)<2)=true:=rfl;have u:decide ((1:Int)<2)=true:=rfl;have v:decide ((2:Int)<2)=false:=rfl;have L:aG .i64 ((0:Int)+1)=1:=rfl;have M:aG .i64 ((1:Int)+1)=2:=rfl;simp only[go_sem,Ey,o,j];refine bW (fun k c l=>rd 25 c=.row 2 [.row 0 [],.row 0 []]∧rd 26 c=ai 2∧rd 6 c=.ak∧((k=2∧rd 27 c=ai 0)∨(k=1∧rd 27 c=ai 1)∨(k=0∧rd 27 c=ai 2))) 2 ⟨?_,?_,?_,.inl ⟨rfl,?_⟩⟩ ?_
  iterate 4 simp only[go_sem]
  rintro k c l ⟨h,e,i,⟨rfl,d⟩|⟨rfl,d⟩|⟨rfl,d⟩⟩
  ·simp only[go_sem,rZ,tA,xK,h,e,d,F,H,t,i];refine Bl ⟨_,rfl⟩ (.inl rfl) ?_;simp only[go_sem,tw,d,L];refine⟨1,aj,?_,?_,?_,.inr (.inl ⟨rfl,?_⟩)⟩
   all_goals simp only[go_sem,h,e]
  ·simp only[go_sem,rZ,tA,xK,h,e,d,G,I,u,i];refine Bl ⟨_,rfl⟩ (.inl rfl) ?_;simp only[go_sem,tw,d,M];refine⟨0,aj,?_,?_,?_,.inr (.inr ⟨rfl,?_⟩)⟩
   all_goals simp only[go_sem,h,e]
  ·simp only[go_sem,rZ,tA,Ex,e,d,v,i];rw[cA];exact⟨_,.fQ,.row 0 .nil,rfl⟩
 ·have Q:(rep zf N).length=n*2+m*2:=by rw[yK];show N*2=_;omega
  obtain⟨f,g,r,B⟩:∃f g,rep zf N=f++g∧f.length=n*2:=⟨_,_,(oC (n*2) _).symm,gK aa⟩;have C:g.length=m*2:=by
   have:=congrArg jD r;rw[bt]at this;omega
  rw[r];simp only[go_sem,Ey,o,j];refine afL a b f g n m N cA D E B C J K s _ _ _ ?_ ?_ ?_ ?_ ?_ ?_
  iterate 5 simp only[go_sem]
  ·intro c l y A;simp only[go_sem,Ex,y];refine⟨_,.row (m:=N*2) (cs:=a++b) ?_ aa jJ (dy.refl _),.row _ (nY p q),rfl⟩;rw[gj A,eY,jH (by rw[bt];omega)]
variable{J:ag}{g:Nat}
theorem ZJ{v:V}(h:bu c 1 v b g)(i:b.length=a)(e:∀y,g≠0→c.get y=.cells b g→J.get y=.none):cr c J v (.row a b):=by
 obtain⟨m,d,f⟩:=h.dr (H2:=J) aj e (dy.refl _);have:m=a:=aa;rw[this]at d;exact d
theorem Yu(f:Nat)(a:List V)(n:Nat)(g:0<n∧n≤1000)(e:a.length=n)(b:cM a)(k:f=227∨f=228):bA f [.row n a] (.row n a):=by
 have d:∀t,nX false (.slice t) [.row n a,.ak]=some (.val aq):=by
  intro t;obtain⟨m,l⟩:∃m,n=m+1:=⟨n-1,aa⟩;rw[l];rfl
 rcases k with rfl|rfl
 ·refine e3 (.cons (.row n b) .nil) (bg ak_ ?_);simp only[go_sem,Rd,Rf,Re,d];refine tS (n:=n) (cs:=a) (by simp only[go_sem]) g.1 aa aj ⟨aa,aj⟩ fun w h c i j=>?_
  simp only[go_sem];exact⟨_,ZJ c e (fun _ _ _=>jJ),.row n b,rfl⟩
 ·refine e3 (.cons (.row n b) .nil) (bg ak' ?_);simp only[go_sem,Rg,Ri,Rh,d];refine tS (n:=n) (cs:=a) (by simp only[go_sem]) g.1 aa aj ⟨aa,aj⟩ fun w h c i j=>?_
  simp only[go_sem];exact⟨_,ZJ c e (fun _ _ _=>jJ),.row n b,rfl⟩
theorem ac6{q:Rat}(a:bB 100 q):(bS q).length≤204:=by
 have d:=tN a.num;have e:=tN a.den;unfold bS;rw[bt,bt];have b:(if q.num<0 then [(45:UInt8)]else []).length≤1:=by split<;>simp
 have c:(if q.den=1 then []else(47:UInt8)::dec q.den).length≤102:=by
  split
  ·simp
  ·rw[di];omega
 omega
theorem apq(q:Rat)(a:bB 100 q):ff 163 [.str (bS q)] (.aK [cN q,cC]):=by
 have h:=J8 (bS q) (by have:=ac6 a;omega);rwa[B2 (uD q)]at h
structure Lm (n:Nat) (t:aI):Prop where
 q:bB 100 t.1
 nz:t.1.num≠0
 len:t.2.length=n
 sum:t.2.sum≤24
theorem apr(n:Nat)(E:n≤6)(t:aI)(b:Lm n t):ff 305 [ai (n:Int),.agg [.str (bS t.1),cG t.2]] (.aK [mO t,cC]):=by
 have r:=b.len;have o:bZ (.aK [mO t,cC]):=.aK (.cons (IM t) (.cons (.bool _) .nil));refine fK (.cons (.int _ _) (.cons (.agg (.cons (.str _) (.cons (oQ _) .nil))) .nil)) (bg alI ?_);have p:GT (dG.push (.cells [.str (bS t.1),cG t.2] 0)):=gv.push aj _;have e:GT ((dG.push (.cells [.str (bS t.1),cG t.2] 0)).push (.cells [ai 0,ai 0,ai 0,ai 0,ai 0,ai 0,aq,.ak,aq,.ak] 0)):=p.push (by show 5≤6;decide) _;simp only[go_sem,TO,TR];refine cy (apq t.1 b.q) e ?_;have f:bP (cN t.1)=true:=rfl;have g:cellsOf (cN t.1)=cm t.1:=rfl;have cu:cP (cm t.1)=4:=rfl;have h:de (cm t.1)=true:=rfl;have w:dx (cm t.1) [aq,.ak,aq,.ak] 0=some (cm t.1):=rfl;have i:cF (cm t.1) 4=some (cm t.1):=rfl;have fD:V.agg (cm t.1)=cN t.1:=rfl;simp only[go_sem,f,g,cu,h,w];simp only[go_sem,TX,i,fD];refine use (aaa t.1) ?_;have v:decide (t.1.num=0)=false:=bp b.nz;have F:((t.2.length:Nat):Int)=(n:Int):=by rw[r]
 simp(disch:=assumption)only[go_sem,TW,v,dt];refine ahp t.2 (fun x u=>by have:=amK u;have:=b.sum;omega) aa _ _ _ ?_ ?_ ?_ ?_
 iterate 3 simp only[go_sem]
 intro c a;have j:rd 3 c=.ptr 5 0:=by rw[a 3 aj];simp only[go_sem]
 have k:rd 4 c=.ptr 6 0:=by rw[a 4 aj];simp only[go_sem]
 have l:rd 6 c=.ptr 7 0:=by rw[a 6 aj];simp only[go_sem]
 clear a;have lB:dx (cm t.1) [ai 0,ai 0,ai 0,ai 0,ai 0,ai 0,aq,.ak,aq,.ak] 6=some ([ai 0,ai 0,ai 0,ai 0,ai 0,ai 0]++cm t.1):=rfl;have s:slice3 (lK 6 1) false false false [.ptr 8 0]=some (.val (.slice 8 0 6 (.known 6))):=rfl;rw[fu];simp only[go_sem,TV,TU,TT,j,l,f,g,cu,h,i,fD,lB,s];refine ag3 (b:=8) (cs:=[ai 0,ai 0,ai 0,ai 0,ai 0,ai 0]++cm t.1) (by simp only[go_sem]) aJ aa ?_;have m:cY t.2++(([V.int .i64 0,ai 0,ai 0,ai 0,ai 0,ai 0]:List V)++cm t.1).drop t.2.length=bX t:=by
  unfold bX dg;rw[eG];congr 1;rw[show([V.int .i64 0,ai 0,ai 0,ai 0,ai 0,ai 0]:List V)=br 6 (ai 0)from rfl,List.drop_append_of_le_length (by simp;omega),List.drop_replicate]
 rw[m];have d:=kO (t:=t) aa;have y:cF (bX t) 10=some (bX t):=jH d;have z:V.agg (bX t)=mO t:=rfl;have A:bP (mO t)=true:=rfl;have B:cellsOf (mO t)=bX t:=rfl;have C:cP (bX t)=10:=by rw[gx,d]
 have D:dx (bX t) [ai 0,ai 0,ai 0,ai 0,ai 0,ai 0,aq,.ak,aq,.ak] 0=some (bX t):=uw d;simp only[go_sem,TS,k,y,z,A,B,C,D,qO];refine cX ?_ rfl o
 repeat' first|exact e|exact Nat.le_add_left 5 _|exact aj|refine GT.set ?_ ?_ _|refine GT.push ?_ ?_ _
def fP:List aI→List V
 |[]=>[]
 |t::l=>bX t++fP l
def x1(l:List aI):V:=.row l.length (fP l)
theorem Bn:∀(l m:List aI),fP (l++m)=fP l++fP m
 |[],_=>rfl
 |t::l,m=>by simp[fP,Bn l m]
theorem Zj:∀l,cM (fP l)
 |[]=>.nil
 |t::l=>nY (Zh t) (Zj l)
theorem Zi(l:List aI):bZ (x1 l):=.row _ (Zj l)
theorem IF:∀l:List aI,(∀t∈l,t.2.length≤6)→(fP l).length=l.length*10
 |[],_=>rfl
 |t::l,h=>by
  rw[fP,bt,kO (h t aJ),IF l fun u a=>h u (by simp[a]),di];omega
variable{h:Type}
theorem Cf(a:List h)(n:Nat):(rep a n).length=n*a.length:=by
 induction n with
 |zero=>rw[jE];rfl
 |succ n b=>
  show(ez a (rep a n)).length=_;rw[iV,bt,b,cZ];omega
theorem K0(l:List aI)(i:Nat):(jC l).drop (i*2)=jC (l.drop i):=by
 induction l generalizing i with
 |nil=>simp[jC]
 |cons t l a=>
  cases i with
  |zero=>simp
  |succ i=>
   rw[List.drop_succ_cons,←a,(aa:(i+1)*2=i*2+1+1)];rfl
variable{l:List aI}
theorem ads{t:aI}(h:l[a]? =some t):cF (eA (jC l) (a*2)) 2=some (uV t):=by
 rw[jT,K0,drop_cons h,eR];rfl
theorem K2{t:aI}(h:l[a]? =some t):eu (jC l) (a*2+1)=some (cG t.2):=by
 rw[iW,←pJ,K0,drop_cons h];rfl
@[go_sem]theorem avn(l:List aI):eC (eE l)=some (.val (ai (l.length:Int))):=rfl
theorem x_{l:List aI}{i:Int}{k:IntKind}(h:0≤i∧i<l.length):dY none 2 [eE l,.int k i]=some (.val (.dm (jC l) (i.toNat*2))):=lz h
variable{p:IntKind}
theorem aaY{bytes n:Nat}{l:IntKind}(h:n*bytes≤1099511627776∧n≤1099511627776):mS bytes b [.int p 0,.int l (n:Int)]=some (.new (rep b n) (.slice 0 n)):=by
 show bq (and (b8 0 n) (b8 (dW n bytes) 1099511627776)) (bq (b8 n 1099511627776) (some (bx.new (rep b n) (.slice 0 n))))=_;rw[jf (ck n),jf (show dW n bytes≤_ from h.1),jf h.2];rfl
theorem IE{bytes b n:Nat}{L new:List V}(p:c.get b=.cells L 0)(v:L.length=n*a)(h:new.length=a)(d:g<n)(r:n≤1073741824∧bytes≤1024)(t:de new=true)(q:b≠c.next)
 (s:f (put o j (.slice b 0 (g+1) (.known n))) ((c.push (.cells new 0)).set b (.cells (L.take (g*a)++new++L.drop (g*a+a)) 0))):
 gT j f o (ga a bytes [.slice b 0 g (.known n),.slice c.next 0 1 (.known 1)] (c.push (.cells new 0))):=by
 have k:(c.push (.cells new 0)).dw c.next 0 (1*a)=some new:=by
  rw[gj (cs:=new) (by rw[ag.bE,ay rfl]),eY,fM,jH h]
 have w:g*a+a≤n*a:=by rw[←pO];exact dz a d
 have l:dx new L (0+g*a)=some (L.take (g*a)++new++L.drop (g*a+a)):=by
  rw[nu,fB,ay aa,h]
 have m:(c.push (.cells new 0)).e5 b (0+g*a) new=some ((c.push (.cells new 0)).set b (.cells (L.take (g*a)++new++L.drop (g*a+a)) 0)):=by
  unfold ag.e5;rw[ag.bE,au (Ne.symm q),p];show bq (de new) (av (dx new L (0+g*a)) fun i=>some ((c.push (.cells new 0)).set b (.cells i 0)))=_;rw[t,l];rfl
 have e:ga a bytes [.slice b 0 g (.known n),.slice c.next 0 1 (.known 1)] (c.push (.cells new 0))=some (.slice b 0 (g+1) (.known n),(c.push (.cells new 0)).set b (.cells (L.take (g*a)++new++L.drop (g*a+a)) 0)):=by
  show av ((c.push (.cells new 0)).dw c.next 0 (1*a)) (fun u=>kL a bytes (.slice b 0 g (.known n)) 1 u (c.push (.cells new 0)))=_
  rw[k];show bq (ju (g+1) bytes) (Bool.casesOn (motive:=fun _=>Option (V×ag)) (b8 (g+1) n) _ (av ((c.push (.cells new 0)).e5 b (0+g*a) new) fun c=>some (V.slice b 0 (g+1) (.known n),c)))=_;rw[p0 ⟨aa,cI (jO (aa:g+1≤1073741824) r.2) aj⟩,jf (show g+1≤n from d),m];rfl
 rw[e];exact s
structure pQ (n:Nat) (p:List aI):Prop where
 t:∀t∈p,Lm n t
 ord:p.Pairwise fun a b=>ord a.2 b.2=1
 len:p.length≤4096
theorem aoZ(h:l.Pairwise fun c b=>ord c.2 b.2=1){s t:aI}(f:l[a]? =some s)(g:l[a+1]? =some t):ord s.2 t.2=1:=by
 obtain⟨d,rfl⟩:=fo.1 f;obtain⟨e,rfl⟩:=fo.1 g;exact List.pairwise_iff_getElem.1 h a (a+1) d e (lU a)
def adJ(n:Nat)(p:List aI)(k:Nat)(F:Fr)(H:ag):Prop:=∃(i:Nat) (L:List V),k=p.length-i∧i≤p.length∧rd 1 F=.ptr 5 0∧rd 4 F=.slice 6 0 i (.known p.length)∧rd 22 F=eE p∧rd 23 F=ai (p.length:Int)∧rd 24 F=ai (i:Int)∧
 H.get 5=.cells (eJ n p) 0∧H.get 6=.cells L 0∧L.length=p.length*10∧L.take (i*10)=fP (p.take i)∧GT H∧7≤H.next
theorem ah4{b:Cap}(h:c.get a=.cells (fP l) 0)(f:J.get a=.none)(k:l.length=g)(j:∀t∈l,t.2.length≤6):cr c J (.slice a 0 g b) (x1 l):=by
 subst k;cases e:l with
 |nil=>exact .e4 a 0 b
 |cons d m=>
  rw[←e];have i:=IF l j;refine .row (m:=(fP l).length) (cs:=fP l) ?_ ?_ f (dy.refl _)
  ·rw[gj h,eY,jH rfl]
  ·rw[i,e,di];omega
theorem arO(n:Nat)(G:n≤6)(p:List aI)(d:pQ n p):ff 245 [g6 n p] (.aK [x1 p,cC]):=by
 have ae:=d.len;have R:∀a∈p,a.2.length≤6:=fun a c=>by rw[(d.t a c).len];exact G
 refine fK (.cons (.agg (.cons (.int _ _) (.cons (sg _) .nil))) .nil) (bg alk ?_);have d1:¬((n:Nat):Int)<0:=aa;have d2:¬((6:Int)<((n:Nat):Int)):=aa;simp(disch:=first|assumption|omega)only[RK,RQ,RP,RO,g6,eJ,go_sem,↓reduceIte,kz,df,aaY]
 refine bW (adJ n p) p.length ⟨0,rep [ai 0,ai 0,ai 0,ai 0,ai 0,ai 0,aq,.ak,aq,.ak] p.length,rfl,ck _,?_,?_,?_,?_,?_,?_,?_,?_,?_,?_,?_⟩ ?_
 iterate 4 simp only[go_sem]
 ·simp only[go_sem];rfl
 ·simp only[go_sem];rfl
 ·simp only[go_sem]
 ·rw[Cf];rfl
 ·simp[fP]
 ·exact(gv.push aj _).push (by show 5≤6;decide) _
 ·show 7≤7;decide
 rintro k F H ⟨i,L,rfl,hi,e,u,r,f,g,h,v,E,l,m,al⟩;unfold RM;by_cases U:i<p.length
 ·obtain⟨a,c⟩:∃a,p[i]? =some a:=⟨p[i],cH U⟩;have X:=er c;have o:=d.t a X;have O:=ads c;have b:=kO (t:=a) (by have:=o.len;omega);have I:cF (bX a) 10=some (bX a):=jH b;have J:V.agg (bX a)=mO a:=rfl;have z:bP (mO a)=true:=rfl;have A:cellsOf (mO a)=bX a:=rfl;have B:cP (bX a)=10:=by rw[gx,b]
  have C:dx (bX a) [ai 0,ai 0,ai 0,ai 0,ai 0,ai 0,aq,.ak,aq,.ak] 0=some (bX a):=uw b;have q:¬H.next=5:=aa
  have M:¬H.next=6:=aa
  have D:¬H.next+1=5:=aa
  have N:¬H.next+1=6:=aa
  have Z:¬H.next+1=H.next:=aa
  have K:¬H.next=3:=aa
  have am:¬H.next=4:=aa
  have S:GT ((H.push (.cells [.str [],.ak] 0)).set H.next (.cells (uV a) 0)):=(m.push aa _).set aa _
  simp(disch:=omega)only[go_sem,FU,RL,e,r,f,g,dt,x_,bN,O,h,uV];simp(disch:=omega)only[go_sem,q,eJ];refine cy (apr n G a o) S ?_;simp(disch:=omega)only[go_sem,z,A,B,C,qO];obtain rfl|⟨j,rfl⟩:i=0∨∃j,i=j+1:=by
   cases i with
   |zero=>exact .inl rfl
   |succ j=>exact .inr ⟨j,rfl⟩
  ·have ap:¬((0:Nat):Int)>0:=aa;simp(disch:=omega)only[go_sem,u,I,J,z,A,B,C,df];refine IE (L:=L) ?_ E b aa ⟨aa,aj⟩ (qO a) (by show 6≠H.next+1+1;omega) ?_
   ·simp(disch:=omega)only[go_sem,v,M,N]
   simp(disch:=omega)only[go_sem,FT,g,aQ];refine⟨p.length-(0+1),aa,0+1,L.take (0*10)++bX a++L.drop (0*10+10),rfl,aa,?_,?_,?_,?_,?_,?_,?_,?_,?_,?_,?_⟩
   iterate 4 simp only[go_sem,e,r,f]
   ·simp only[go_sem];rfl
   ·simp(disch:=omega)only[go_sem,h,q,D,K,eJ]
   ·simp(disch:=omega)only[go_sem]
   ·simp only[bt,ep,gF,b];omega
   ·rw[CK c,Bn,←l];have w:(L.take (0*10)++bX a).length=(0+1)*10:=by rw[bt,ep,b];omega
    rw[←w,oD];simp[fP]
   ·repeat' first|exact m|omega|(simp only[go_sem];omega)|refine GT.set ?_ ?_ _|refine GT.push ?_ ?_ _
   ·show 7≤H.next+1+1+1;omega
  ·obtain⟨s,x⟩:∃s,p[j]? =some s:=⟨p[j],cH aa⟩;have y:=d.t s (er x);have P:=K2 x;have W:=aoZ d.ord x c;have Q:((j+1:Nat):Int)-1=(j:Int):=aa;simp(disch:=omega)only[go_sem,e,h,q,D,Z,eJ,dt,x_,bN,aQ,Q,P];refine use (abv s.2 a.2 (by rw[y.len,o.len]) (by rw[y.len];omega) (by have:=y.sum;omega) (by have:=o.sum;omega)) ?_;simp(disch:=omega)only[go_sem,u,I,J,z,A,B,C,dt,W];refine IE (L:=L) ?_ E b aa ⟨aa,aj⟩ (qO a) (by show 6≠H.next+1+1;omega) ?_
   ·simp(disch:=omega)only[go_sem,v,M,N]
   simp(disch:=omega)only[go_sem,FT,g,aQ];refine⟨p.length-((j+1)+1),aa,(j+1)+1,L.take ((j+1)*10)++bX a++L.drop ((j+1)*10+10),rfl,aa,?_,?_,?_,?_,?_,?_,?_,?_,?_,?_,?_⟩
   iterate 4 simp only[go_sem,e,r,f]
   ·simp only[go_sem];rfl
   ·simp(disch:=omega)only[go_sem,h,q,D,K,eJ]
   ·simp(disch:=omega)only[go_sem]
   ·simp only[bt,ep,gF,b];omega
   ·rw[CK c,Bn,←l];have w:(L.take ((j+1)*10)++bX a).length=((j+1)+1)*10:=by rw[bt,ep,b];omega
    rw[←w,oD];simp[fP]
   ·repeat' first|exact m|omega|(simp only[go_sem];omega)|refine GT.set ?_ ?_ _|refine GT.push ?_ ?_ _
   ·show 7≤H.next+1+1+1;omega
 ·have T:i=p.length:=aa;subst T;simp(disch:=omega)only[go_sem,FU,RN,u,f,g,df];rw[cq aa,cq (aR _)]at l;subst l;have Y:(dG.lW H.next).get 6=.none:=by rw[ag.ua,lq];rfl
  exact⟨m,_,.aK (.cons (ah4 v Y rfl R) (.cons (.same _) .nil)),.aK (.cons (Zi p) (.cons (.bool _) .nil)),rfl⟩
theorem arE:oa 5 ov 113 [fk 1] cC=true:=by kernel_rfl
theorem arF:oa 5 ov 113 [fk 2] cC=true:=by kernel_rfl
theorem arG(n:Nat)(a:n=1∨n=2):bA 113 [fk n] cC:=by
 rcases a with rfl|rfl
 ·exact qk pF arE
 ·exact qk pF arF
theorem apo(n:Nat)(f:n≤6)(p:List aI)(d:pQ n p):ff 181 [g6 n p] (.aK [x1 p,cC]):=by
 have j:=d.len;refine fK (.cons (.agg (.cons (.int _ _) (.cons (sg _) .nil))) .nil) (bg akU ?_);have c:GT (dG.push (.cells (eJ n p) 0)):=gv.push aj _;have e:bZ (.aK [x1 p,cC]):=.aK (.cons (Zi p) (.cons (.bool _) .nil));simp(disch:=first|assumption|omega)only[PD,PF,PE,g6,eJ,go_sem,↓reduceIte,kz,df]
 refine cy (arO n f p d) c ?_;cases a:p with
 |nil=>
  subst a;have l:¬((0:Nat):Int)>0:=aa;simp(disch:=omega)only[go_sem,E2,E1,df,lR];exact cX c rfl e
 |cons b m=>
  rw[←a];have g:p[0]? =some b:=by rw[a];rfl
  have h:=d.t b (er g);have i:eu (jC p) (Int.toNat 0*2+1)=some (cG b.2):=K2 g;have k:0<p.length:=by rw[a];exact nh _
  simp(disch:=omega)only[go_sem,E2,E1,dt,x_,i];refine use (Ju b.2 (by rw[h.len];exact f) h.sum) ?_;simp(disch:=omega)only[go_sem];exact cX c rfl e
theorem abA(n:Nat)(b:n≤6)(p:List aI)(c:pQ n p):ff 115 [g6 n p] cC:=by
 refine fK (.cons (.agg (.cons (.int _ _) (.cons (sg _) .nil))) .nil) (bg akl ?_);have a:GT (dG.push (.cells (eJ n p) 0)):=gv.push aj _;simp(disch:=first|assumption|omega)only[M7,M9,M8,g6,eJ,go_sem,↓reduceIte,kz]
 refine cy (apo n b p c) a ?_;simp(disch:=first|assumption|omega)only[go_sem,↓reduceIte,kz]
 exact cX a rfl (.bool _)
def oL(p:iO):List V:=[fk p.n,ai (p.n:Int),eE p.obj,cK p.n p.is,cK p.n p.es]
theorem JK(p:iO)(k:p.n=1∨p.n=2)(q:List aI)(h:pQ p.n q)(H:ag)(b:Nat)(i:5≤b)(j:b<H.next)(c:H.get b=.cells (oL p) 0)(d:GT H):
 dN 114 [g6 p.n q,.ptr b 0] H fun v a=>v=cC∧a=H.push (.cells (eJ p.n q) 0):=by
 refine bg akk ?_;have e:GT (H.push (.cells (eJ p.n q) 0)):=d.push aa _;have f:¬H.next=b:=aa
 have g:eC (fk p.n)=some (.val (ai (p.n:Int))):=rfl;simp(disch:=first|assumption|omega)only[M5,M6,g6,eJ,go_sem,↓reduceIte,kz]
 refine cy (abA p.n aa q h) e ?_;simp(disch:=first|assumption|omega)only[go_sem,↓reduceIte,kz,c,oL,f,g]
 exact⟨aJ,trivial⟩
theorem wC(c:a=1∨a=2)(d:g≤3)(h:qD a g l):pQ a l:=
 ⟨fun t b=>⟨(h.2.1 t b).2.mono aa,h.1.2 t b,(BU c t.2 (h.2.1 t b).1).1,by have:=(BU c t.2 (h.2.1 t b).1).2;omega⟩,h.1.1,by have:=h.2.2;omega⟩
theorem ar2(n:Nat)(l:List (List aI))(i:Nat):(fG n l).drop (i*2)=fG n (l.drop i):=by
 induction l generalizing i with
 |nil=>simp[fG]
 |cons t l a=>
  cases i with
  |zero=>simp
  |succ i=>
   rw[List.drop_succ_cons,←a,(aa:(i+1)*2=i*2+1+1)];rfl
variable{P:List (List aI)}
theorem s4{n:Nat}(h:P[a]? =some l):cF (eA (fG n P) (a*2)) 2=some (eJ n l):=by
 obtain⟨b,rfl⟩:=fo.1 h;rw[jT,ar2,kr b,eR];rfl
@[go_sem]theorem avm(n:Nat)(l:List (List aI)):eC (cK n l)=some (.val (ai (l.length:Int))):=rfl
theorem sr{n:Nat}{l:List (List aI)}{i:Int}{k:IntKind}(h:0≤i∧i<l.length):dY none 2 [cK n l,.int k i]=some (.val (.dm (fG n l) (i.toNat*2))):=lz h
@[go_sem]theorem au4(l:List aI):bP (eE l)=true:=rfl
@[go_sem]theorem aur(l:List aI):cellsOf (eE l)=[eE l]:=rfl
@[go_sem]theorem avU(l:List aI):V.one (eE l)=true:=rfl
def Ln(p:iO)(l:List (List aI))(a b c:Nat)(k:Nat)(F:Fr)(H:ag):Prop:=∃i:Nat,k=l.length-i∧i≤l.length∧rd 1 F=.ptr 5 0∧rd 3 F=.func 114 [] [.ptr 5 0]∧rd a F=cK p.n l∧rd b F=ai (l.length:Int)∧rd c F=ai (i:Int)∧
 H.get 5=.cells (oL p) 0∧GT H∧6≤H.next
theorem adh(p:iO)(h:p.aM):ff 60 [je p] cC:=by
 have e:=h.n;have J:=h.li;have I:=h.le;have G:=wC e aj h.obj;refine fK (.cons (r8 _ e) .nil) (bg ame ?_);simp(disch:=first|assumption|omega)only[WX,W2,W1,W0,je,go_sem,↓reduceIte,kz]
 have E:Js 114 0 [.ptr 5 0]=some (.val (.func 114 [] [.ptr 5 0])):=rfl;have w:∀x:V,r0 [.func 114 [] [.ptr 5 0],x]=some (.fn 114,[x,.ptr 5 0]):=fun _=>rfl
 refine use (arG p.n e) ?_;simp(disch:=first|assumption|omega)only[go_sem,↓reduceIte,kz,df,E]
 refine bW (Ln p p.is 26 27 28) p.is.length ⟨0,rfl,ck _,?_,?_,?_,?_,?_,?_,?_,?_⟩ ?_
 iterate 4 simp only[go_sem]
 ·simp only[go_sem];rfl
 ·simp only[go_sem];rfl
 ·exact gv.push aj _
 ·show 6≤6;decide
 rintro k F H ⟨i,rfl,C,f,d,j,b,c,a,g,y⟩;unfold W3;have l:¬H.next=5:=aa
 by_cases t:i<p.is.length
 ·obtain⟨q,r⟩:∃q,p.is[i]? =some q:=⟨p.is[i],cH t⟩;have A:=wC e aj (h.is q (er r));have u:=s4 (n:=p.n) r;have K:¬H.next=3:=aa
  have z:¬H.next=4:=aa
  have o:GT ((H.push (.cells [ai 0,.ak] 0)).set H.next (.cells (eJ p.n q) 0)):=(g.push aa _).set aa _
  simp(disch:=omega)only[go_sem,HK,WZ,d,j,b,c,dt,sr,bN,u,eJ,w];refine(JK p e q A _ 5 aj (by show 5<H.next+1;omega) (by simp(disch:=omega)only[go_sem,l,a]) o).mono fun v B ⟨s,m⟩=>?_
  subst s m;simp(disch:=omega)only[go_sem,WY,c,aQ];refine⟨p.is.length-(i+1),aa,i+1,rfl,aa,?_,?_,?_,?_,?_,?_,?_,?_⟩
  iterate 4 simp only[go_sem,f,d,j,b]
  ·simp only[go_sem];rfl
  ·simp(disch:=omega)only[go_sem,a,l,z]
  ·exact o.push (by show 5≤H.next+1;omega) _
  ·show 6≤H.next+1+1;omega
 ·simp(disch:=omega)only[go_sem,HK,W8,f,b,c,a,oL,df];refine bW (Ln p p.es 38 39 40) p.es.length ⟨0,rfl,ck _,?_,?_,?_,?_,?_,?_,?_,?_⟩ ?_
  iterate 4 simp only[go_sem,f,d]
  ·simp only[go_sem];rfl
  ·exact a
  ·exact g
  ·exact y
  clear t f d j b c a g y l C i;rintro k F H ⟨i,rfl,C,f,d,j,b,c,a,g,y⟩;unfold W6;have l:¬H.next=5:=aa
  by_cases t:i<p.es.length
  ·obtain⟨q,r⟩:∃q,p.es[i]? =some q:=⟨p.es[i],cH t⟩;have A:=wC e aj (h.es q (er r));have u:=s4 (n:=p.n) r;have z:¬H.next=4:=aa
   have o:GT ((H.push (.cells [ai 0,.ak] 0)).set H.next (.cells (eJ p.n q) 0)):=(g.push aa _).set aa _
   simp(disch:=omega)only[go_sem,HL,W5,d,j,b,c,dt,sr,bN,u,eJ,w];refine(JK p e q A _ 5 aj (by show 5<H.next+1;omega) (by simp(disch:=omega)only[go_sem,l,a]) o).mono fun v B ⟨s,m⟩=>?_
   subst s m;simp(disch:=omega)only[go_sem,W4,c,aQ];refine⟨p.es.length-(i+1),aa,i+1,rfl,aa,?_,?_,?_,?_,?_,?_,?_,?_⟩
   iterate 4 simp only[go_sem,f,d,j,b]
   ·simp only[go_sem];rfl
   ·simp(disch:=omega)only[go_sem,a,l,z]
   ·exact o.push (by show 5≤H.next+1;omega) _
   ·show 6≤H.next+1+1;omega
  ·have D:cF (eA (oL p) 1) 2=some (eJ p.n p.obj):=rfl;simp(disch:=omega)only[go_sem,HL,W7,f,d,b,c,a,df,D,w];refine(JK p e p.obj G H 5 aj aa a g).mono fun v B ⟨s,m⟩=>?_
   subst s m;simp(disch:=omega)only[go_sem];exact cX (g.push aa _) rfl (.bool _)
theorem af3(e:List Nat)(h:0<e.length∧e.length≤1000):bA 228 [cG e] (cG e):=Yu 228 (cY e) e.length h (jG e) (IP e) (.inr rfl)
theorem tY(n:Nat)(p:List aI):bZ (g6 n p):=.agg (.cons (.int _ _) (.cons (sg _) .nil))
theorem agl(n:Nat)(p:List aI)(hn:0<n∧n≤6)(I:∀t∈p,t.2.length=n)(hl:p.length≤4096):bA 158 [g6 n p] (g6 n p):=by
 refine e3 (.cons (tY n p) .nil) (bg akD ?_);simp only[go_sem,OA,OG,OF,g6,eJ];refine bW (fun m b a=>∃(i:Nat) (v:V) (g:Nat),m=p.length-i∧i≤p.length∧rd 2 b=.ptr 6 0∧rd 3 b=.ptr 7 0∧rd 10 b=eE p∧rd 11 b=ai (p.length:Int)∧rd 12 b=ai (i:Int)∧a.get 6=.cells [ai 0,.ak] 0∧a.get 7=.cells [ai (n:Int),v] 0∧8≤a.next∧bu a 2 v (jC (p.take i)) g) p.length ⟨0,.ak,0,rfl,ck _,?_,?_,?_,?_,?_,?_,?_,?_,.nil⟩ ?_
 iterate 4 simp only[go_sem]
 ·simp only[go_sem];rfl
 iterate 2 simp only[go_sem]
 ·exact aR 8
 rintro m b a ⟨i,v,g,rfl,K,A,f,z,o,q,j,bO,ad,l⟩;unfold OD;obtain⟨am,ap,P⟩:=l.bP;by_cases N:i<p.length
 ·obtain⟨t,u⟩:∃t,p[i]? =some t:=⟨p[i],cH N⟩;have ae:=I t (er u);have x:=ads u;have r:decide ((i:Int)<((p.length:Nat):Int))=true:=bw aa;have Y:aG .i64 ((i:Int)+1)=((i+1:Nat):Int):=by rw[aQ _ aa];rfl
  have O:=K1 (p.take i);rw[ep,oH K]at O;have H:=af3 t.2 aa;have T:de [V.str (bS t.1),cG t.2]=true:=rfl;have C:¬a.next=7:=aa
  simp only[uV]at x;simp(disch:=omega)only[go_sem,ED,OC,f,z,o,q,r,x_,bN,x,C,bO];refine use H ?_;simp only[go_sem,C,bO,true_and];have d:∀y,y<a.next→((a.push (.cells [.str [],.ak] 0)).set a.next (.cells [.str (bS t.1),cG t.2] 0)).get y=a.get y:=fun y hy=>by
   rw[ag.a_,au aa,ag.bE,au aa]
  have s:=l.low d (by simp only[go_sem];omega);refine jR (bytes:=40) s rfl aj T ⟨aa,aj⟩ fun X Z F D ar w U=>?_
  simp only[iI,JA]at w U;have W:=(w 6 aa (s.ne (cs:=[ai 0,.ak]) (k:=0) (by rw[d 6 aa,j]))).trans (by rw[d 6 aa,j]);have E:=(w 7 aa (s.ne (cs:=[ai (n:Int),v]) (k:=0) (by rw[d 7 aa,bO]))).trans (by rw[d 7 aa,bO]);obtain⟨Q,R,S⟩:=D.bP;simp only[go_sem,OB,f,E,Q,R,S,q,Y];refine⟨p.length-(i+1),aa,i+1,X,F,rfl,aa,?_,?_,?_,?_,?_,?_,?_,?_,?_⟩
  iterate 7 simp only[go_sem,A,f,z,o,W]
  ·simp only[go_sem];omega
  ·refine bu.set ?_ E _;obtain⟨L,e⟩:=fo.1 u;rw[jZ L,e,C0];simpa [jC,uV]using D
 ·have M:i=p.length:=aa;subst M;have r:decide (((p.length:Nat):Int)<((p.length:Nat):Int))=false:=bp aa;rw[cq (aR _)]at l;simp only[go_sem,ED,OE,A,f,o,q,r,j,bO,P];have J:∀c:ag,bu c 2 v (jC p) g→cr c (ag.zero c.next) v (eE p):=fun c h=>by
   obtain⟨k,B,G⟩:=h.dr (H2:=ag.zero c.next) aj (fun _ _ _=>jJ) (dy.refl _)
   rw[K1]at G;have:k=p.length:=aa;rw[this]at B;exact B
  exact⟨_,.agg (.cons (.same _) (.cons (J _ (l.set j _)) .nil)),tY n p,rfl⟩
theorem Ik(n:Nat)(p:List aI)(c:0<n∧n≤6)(a:∀t∈p,t.2.length=n)(b:p.length≤4096):bA 157 [g6 n p] (.aK [g6 n p,ai 0]):=by
 refine cT (.cons (tY n p) .nil) (.aK (.cons (tY n p) (.cons (.int _ _) .nil))) (bg akC ?_);have h:=agl n p c a b;unfold g6 eJ at h;simp only[go_sem,Oy,Oz,g6,eJ];refine use h ?_;simp only[go_sem]
def iB(n:Nat)(o:List aI)(b a:List (List aI)):List V:=[fk n,ai (n:Int),eE o,cK n b,cK n a]
def kM(n:Nat)(o:List aI)(b a:List (List aI)):V:=.agg (iB n o b a)
theorem tV(n:Nat)(b:n=1∨n=2)(o:List aI)(c a:List (List aI)):bZ (kM n o c a):=.agg (.cons (IQ _ b) (.cons (.int _ _) (.cons (sg _) (.cons (vT _ _) (.cons (vT _ _) .nil)))))
def rT(n:Nat)(q:List aI):Prop:=(∀t∈q,t.2.length=n)∧q.length≤4096
@[go_sem]theorem auu(x:V):r0 [.func 157 [] [],x]=some (.fn 157,[x]):=rfl
theorem arb(n:Nat)(hn:n=1∨n=2)(o:List aI)(a es:List (List aI))(Y:∀q∈a,rT n q)(li:a.length≤1000)(F:Fr)(H:ag)(R:X→Fr→ag→Prop)
 (O:rd 1 F=.func 157 [] []) (T:rd 6 F=.ptr 7 0) (P:rd 35 F=cK n a) (Q:rd 36 F=ai (a.length:Int)) (S:rd 37 F=ai 0) (bO:H.get 7=.cells [fk n,ai (n:Int),eE o,.ak,.ak] 0) (am:8≤H.next)
 (W:∀C j v g,(∀t,t<10→rd t C=rd t F)→(∀y c,y<7→H.get y=.cells c 0→j.get y=.cells c 0)→j.get 7=.cells [fk n,ai (n:Int),eE o,v,.ak] 0→bu j 2 v (fG n a) g→8≤j.next→R (.exit 0) C j):bT (.loop EA) R F H:=by
 refine bW (fun m d b=>∃(i:Nat) (v:V) (g:Nat),m=a.length-i∧i≤a.length∧(∀t,t<10→rd t d=rd t F)∧rd 35 d=cK n a∧rd 36 d=ai (a.length:Int)∧rd 37 d=ai (i:Int)∧(∀y c,y<7→H.get y=.cells c 0→b.get y=.cells c 0)∧b.get 7=.cells [fk n,ai (n:Int),eE o,v,.ak] 0∧8≤b.next∧bu b 2 v (fG n (a.take i)) g) a.length ⟨0,.ak,0,rfl,ck _,fun _ _=>rfl,P,Q,S,fun _ _ _ h=>h,bO,am,.nil⟩ ?_
 rintro m d b ⟨i,v,g,rfl,ad,l,D,s,u,J,fD,ap,k⟩;have N:rd 1 d=.func 157 [] []:=by rw[l 1 aj];exact O
 have E:rd 6 d=.ptr 7 0:=by rw[l 6 aj];exact T
 unfold EA;obtain⟨ba,bb,bc⟩:=k.bP;by_cases ac:i<a.length
 ·obtain⟨q,z⟩:∃q,a[i]? =some q:=⟨a[i],cH ac⟩;obtain⟨ar,aw⟩:=Y q (er z);have G:=s4 (n:=n) z;have w:decide ((i:Int)<((a.length:Nat):Int))=true:=bw aa;have w1:aG .i64 ((i:Int)+1)=((i+1:Nat):Int):=by rw[aQ _ aa];rfl
  have a0:=qv n (a.take i);rw[ep,oH ad]at a0;have f:=Ik n q aa ar aw;have a4:de [V.int .i64 (n:Int),eE q]=true:=rfl;have al:¬b.next=7:=aa
  have ae:¬b.next+1=7:=aa
  unfold g6 eJ at f;simp only[eJ]at G;simp(disch:=omega)only[go_sem,Ez,Ol,N,D,s,u,w,sr,bN,G];refine use f ?_;simp only[go_sem,decide_true,dZ,E,al,ae,fD];have p:∀y,y<b.next→((((b.push (.cells [ai 0,.ak] 0)).set b.next (.cells [ai (n:Int),eE q] 0)).push (.cells [ai 0,.ak] 0)).set (b.next+1) (.cells [ai (n:Int),eE q] 0)).get y=b.get y:=fun y r=>by
   rw[ag.a_,au aa,ag.bE,au (by simp only[go_sem];omega),ag.a_,au aa,ag.bE,au aa]
  have x:=k.low p (by simp only[go_sem];omega);refine jR (bytes:=32) x rfl aj a4 ⟨aa,aj⟩ fun v2 M U K be B a5=>?_
  simp only[iI,JA]at B a5;have L:=(B 7 aa (x.ne (cs:=[fk n,ai (n:Int),eE o,v,.ak]) (k:=0) (by rw[p 7 aa,fD]))).trans (by rw[p 7 aa,fD]);have a6:∀y c,y<7→H.get y=.cells c 0→M.get y=.cells c 0:=fun y c r f=>by
   have I:=(p y aa).trans (J y c r f);exact(B y aa (x.ne I)).trans I
  obtain⟨a1,a2,a3⟩:=K.bP;simp only[go_sem,Ok,E,L,a1,a2,a3,u,w1];refine⟨a.length-(i+1),aa,i+1,v2,U,rfl,aa,fun t A=>?_,?_,?_,?_,fun y c r f=>?_,?_,?_,?_⟩
  ·simp(disch:=omega)only[cc];exact l t A
  iterate 3 simp only[go_sem,D,s]
  ·rw[ag.a_,au aa];exact a6 y c r f
  ·simp only[go_sem]
  ·simp only[go_sem];omega
  ·refine bu.set ?_ L _;obtain⟨Z,e⟩:=fo.1 z;rw[jZ Z,e,uU];simpa [fG,eJ]using K
 ·have ab:i=a.length:=aa;subst ab;have w:decide (((a.length:Nat):Int)<((a.length:Nat):Int))=false:=bp aa;rw[cq (aR _)]at k;simp only[go_sem,Ez,s,u,w];exact W _ _ v g (fun t A=>by simp(disch:=omega)only[cc];exact l t A) J fD k ap
end Go.Proofs.YtddhncjmaahodaaGreatDoor
namespace Go.aE
variable{c:ag}{a:Nat}{b:List V}{g:Nat}
theorem bu.gn{v:V}(h:bu c a v b g):g=0∨g<c.next:=by
 cases h with
 |nil=>exact .inl rfl
 |cells _ _ _ _ _ h _=>exact .inr h
end Go.aE
namespace Go.Proofs.YtddhncjmaahodaaGreatDoor
open Go.aE Go.aV
theorem arc(n:Nat)(hn:n=1∨n=2)(o:List aI)(J a:List (List aI))(hi:∀q∈a,rT n q)(le:a.length≤1000)(j:V)(f:Nat)(F:Fr)(H:ag)(R:X→Fr→ag→Prop)
 (Y:rd 1 F=.func 157 [] []) (f6:rd 6 F=.ptr 7 0) (Z:rd 59 F=cK n a) (ac:rd 60 F=ai (a.length:Int)) (ad:rd 61 F=ai 0) (bO:H.get 7=.cells [fk n,ai (n:Int),eE o,j,.ak] 0) (al:bu H 2 j (fG n J) f) (a6:8≤H.next)
 (hR:∀L l v g,(∀t,t<10→rd t L=rd t F)→(∀y c,y<7→H.get y=.cells c 0→l.get y=.cells c 0)→l.get 7=.cells [fk n,ai (n:Int),eE o,j,v] 0→bu l 2 j (fG n J) f→bu l 2 v (fG n a) g→R (.exit 2) L l):bT (.loop EC) R F H:=by
 refine bW (fun m d b=>∃(i:Nat) (v:V) (g:Nat),m=a.length-i∧i≤a.length∧(∀t,t<10→rd t d=rd t F)∧rd 59 d=cK n a∧rd 60 d=ai (a.length:Int)∧rd 61 d=ai (i:Int)∧(∀y c,y<7→H.get y=.cells c 0→b.get y=.cells c 0)∧b.get 7=.cells [fk n,ai (n:Int),eE o,j,v] 0∧8≤b.next∧bu b 2 j (fG n J) f∧(g=0∨g≠f)∧bu b 2 v (fG n (a.take i)) g) a.length ⟨0,.ak,0,rfl,ck _,fun _ _=>rfl,Z,ac,ad,fun _ _ _ h=>h,bO,a6,al,.inl rfl,.nil⟩ ?_
 rintro m d b ⟨i,v,g,rfl,a3,w,M,A,B,S,fD,bv,E,Q,s⟩;have W:rd 1 d=.func 157 [] []:=by rw[w 1 aj];exact Y
 have N:rd 6 d=.ptr 7 0:=by rw[w 6 aj];exact f6
 unfold EC;obtain⟨b0,b1,b2⟩:=s.bP;by_cases a2:i<a.length
 ·obtain⟨q,G⟩:∃q,a[i]? =some q:=⟨a[i],cH a2⟩;obtain⟨a7,a8⟩:=hi q (er G);have O:=s4 (n:=n) G;have D:decide ((i:Int)<((a.length:Nat):Int))=true:=bw aa;have w1:aG .i64 ((i:Int)+1)=((i+1:Nat):Int):=by rw[aQ _ aa];rfl
  have a9:=qv n (a.take i);rw[ep,oH a3]at a9;have k:=Ik n q aa a7 a8;have bc:de [V.int .i64 (n:Int),eE q]=true:=rfl;have a5:¬b.next=7:=aa
  have a4:¬b.next+1=7:=aa
  unfold g6 eJ at k;simp only[eJ]at O;simp(disch:=omega)only[go_sem,EB,Ov,W,M,A,B,D,sr,bN,O];refine use k ?_;simp only[go_sem,decide_true,dZ,N,a5,a4,fD];have p:∀y,y<b.next→((((b.push (.cells [ai 0,.ak] 0)).set b.next (.cells [ai (n:Int),eE q] 0)).push (.cells [ai 0,.ak] 0)).set (b.next+1) (.cells [ai (n:Int),eE q] 0)).get y=b.get y:=fun y x=>by
   rw[ag.a_,au aa,ag.bE,au (by simp only[go_sem];omega),ag.a_,au aa,ag.bE,au aa]
  have u:=s.low p (by simp only[go_sem];omega);refine jR (bytes:=32) u rfl aj bc ⟨aa,aj⟩ fun v2 U C T r z bd=>?_
  simp only[iI,JA]at z bd;have ap:=E.low p (by simp only[go_sem];omega);have ar:=ap.other u (by simp only[go_sem];omega) z Q;have bo:f=0∨f<b.next:=E.gn
  have am:C=0∨C≠f:=by
   rcases r with⟨_,r⟩|⟨q0,r⟩
   ·simp only[go_sem]at r;omega
   ·rw[r];exact Q
  have K:=(z 7 aa (u.ne (cs:=[fk n,ai (n:Int),eE o,j,v]) (k:=0) (by rw[p 7 aa,fD]))).trans (by rw[p 7 aa,fD]);have be:∀y c,y<7→H.get y=.cells c 0→U.get y=.cells c 0:=fun y c x k=>by
   have P:=(p y aa).trans (S y c x k);exact(z y aa (u.ne P)).trans P
  obtain⟨a',ba,bb⟩:=T.bP;simp only[go_sem,Ou,N,K,a',ba,bb,B,w1];refine⟨a.length-(i+1),aa,i+1,v2,C,rfl,aa,fun t I=>?_,?_,?_,?_,fun y c x k=>?_,?_,?_,?_,?_,?_⟩
  ·simp(disch:=omega)only[cc];exact w t I
  iterate 3 simp only[go_sem,M,A]
  ·rw[ag.a_,au aa];exact be y c x k
  ·simp only[go_sem]
  ·simp only[go_sem];omega
  ·exact ar.set K _
  ·exact am
  ·refine bu.set ?_ K _;obtain⟨a0,e⟩:=fo.1 G;rw[jZ a0,e,uU];simpa [fG,eJ]using T
 ·have a1:i=a.length:=aa;subst a1;have D:decide (((a.length:Nat):Int)<((a.length:Nat):Int))=false:=bp aa;rw[cq (aR _)]at s;simp only[go_sem,EB,A,B,D];exact hR _ _ v g (fun t I=>by simp(disch:=omega)only[cc];exact w t I) S fD E s
theorem ard(n:Nat)(c:n=1∨n=2)(o:List aI)(b a:List (List aI))(t:rT n o)(L:∀q∈b,rT n q)(I:∀q∈a,rT n q)(R:b.length≤1000)(Q:a.length≤1000):
 bA 156 [kM n o b a,.func 157 [] []] (.aK [kM n o b a,ai 0]):=by
 refine e3 (.cons (tV n c o b a) (.cons (.func 157 .nil .nil) .nil)) (bg akB ?_);have M:(sC n).length=n:=by rcases c with e|e<;>rw[e]<;>rfl
 have J:cM (sC n):=by
  have:=IQ n c;cases this with
  |row _ h=>exact h
 have H:bA 227 [fk n] (fk n):=Yu 227 (sC n) n aa M J (.inl rfl);have u:=Ik n o aa t.1 t.2;unfold g6 eJ at u;have O:bP (fk n)=true:=rfl;have P:cellsOf (fk n)=[fk n]:=rfl;have cu:V.one (fk n)=true:=rfl;simp only[go_sem,Oj,Ot,kM,iB];refine use H ?_;simp only[go_sem,Oq,O,P,cu];refine use u ?_;simp only[go_sem,Oo,On,Om,decide_true,dZ];refine arb n c o b a L R _ _ _ ?_ ?_ ?_ ?_ ?_ ?_ ?_ ?_
 iterate 6 simp only[go_sem]
 ·simp only[go_sem];decide
 intro f W U D d j bO K N;have A:rd 1 f=.func 157 [] []:=by rw[d 1 aj];simp only[go_sem]
 have B:rd 2 f=.ptr 5 0:=by rw[d 2 aj];simp only[go_sem]
 have C:rd 4 f=.ptr 6 0:=by rw[d 4 aj];simp only[go_sem]
 have p:rd 6 f=.ptr 7 0:=by rw[d 6 aj];simp only[go_sem]
 have E:=j 5 (iB n o b a) aj (by simp only[go_sem];rfl);have F:=j 6 [.ak,ai 0,.ak,.ak,.ak] aj (by simp only[go_sem]);clear d j;simp only[go_sem,Ox,B,E,iB];refine arc n c o b a I Q U D _ _ _ ?_ ?_ ?_ ?_ ?_ bO K N ?_
 iterate 5 simp only[go_sem,A,p]
 intro m X v2 Y r G fD w x;have y:rd 4 m=.ptr 6 0:=by rw[r 4 aj];simp only[go_sem,C]
 have z:rd 6 m=.ptr 7 0:=by rw[r 6 aj];simp only[go_sem,p]
 have k:=G 6 _ aj F;obtain⟨Z,p2,S⟩:=w.bP;obtain⟨q1,ad,T⟩:=x.bP;simp only[go_sem,Ow,y,z,k,fD,S,T,cu];have s:∀(i:ag) v g l,bu i 2 v (fG n l) g→cr i (ag.zero i.next) v (cK n l):=fun i v g l h=>ZN h (fun _ _ _=>jJ)
 exact⟨_,.aK (.cons (.agg (.cons (.same _) (.cons (.same _) (.cons (.same _) (.cons (s _ _ _ _ (w.set k _)) (.cons (s _ _ _ _ (x.set k _)) .nil)))))) (.cons (.same _) .nil)),.aK (.cons (tV n c o b a) (.cons (.int _ _) .nil)),rfl⟩
@[go_sem]theorem au3(n:Nat)(l:List (List aI)):bP (cK n l)=true:=rfl
@[go_sem]theorem auq(n:Nat)(l:List (List aI)):cellsOf (cK n l)=[cK n l]:=rfl
@[go_sem]theorem avT(n:Nat)(l:List (List aI)):V.one (cK n l)=true:=rfl
@[go_sem]theorem auU(n:Nat):bP (fk n)=true:=rfl
@[go_sem]theorem auh(n:Nat):cellsOf (fk n)=[fk n]:=rfl
@[go_sem]theorem avK(n:Nat):V.one (fk n)=true:=rfl
theorem Dt(n:Nat):∀l,de (fG n l)=true
 |[]=>rfl
 |p::l=>by
  rw[pV];intro v a;rw[fG]at a;rcases gU.1 a with h|h
  ·exact pV.1 (show de (eJ n p)=true from rfl) v h
  ·exact pV.1 (Dt n l) v h
theorem Ij(n:Nat)(a b:List (List aI))(c:a.length≤1000)(d:b.length≤1000):bA 155 [.row 2 [cK n a,cK n b]] (cK n (a++b)):=by
 have h:=agd (fG n a) (fG n b) a.length b.length (qv n a) (qv n b) (Br n a) (Br n b) (Dt n a) (Dt n b) ⟨c,d⟩;rw[←uU,←bt]at h;exact h
def La(n:Nat)(o:List aI)(f e s:List (List aI))(a b c:Nat)(d:Fr)(k:Nat)(F:Fr)(H:ag):Prop:=∃i:Nat,k=s.length-i∧i≤s.length∧(∀t,t<10→rd t F=rd t d)∧rd a F=cK n s∧rd b F=ai (s.length:Int)∧rd c F=ai (i:Int)∧
 H.get 5=.cells (iB n o f e) 0∧H.get 6=.cells [.ak,ai 0,.ak,.ak,.ak] 0∧GT H∧7≤H.next
theorem ahn(n:Nat)(Q:n=1∨n=2)(o:List aI)(h d s:List (List aI))(M:∀q∈s,pQ n q)(S:s.length≤1000)(F:Fr)(H:ag)(R:X→Fr→ag→Prop)
 (z:rd 21 F=cK n s) (A:rd 22 F=ai (s.length:Int)) (B:rd 23 F=ai 0) (C:H.get 5=.cells (iB n o h d) 0) (D:H.get 6=.cells [.ak,ai 0,.ak,.ak,.ak] 0) (G:GT H) (K:7≤H.next)
 (E:∀j a,(∀t,t<10→rd t j=rd t F)→a.get 5=.cells (iB n o h d) 0→a.get 6=.cells [.ak,ai 0,.ak,.ak,.ak] 0→GT a→7≤a.next→R (.exit 0) j a):bT (.loop DO) R F H:=by
 refine bW (La n o h d s 21 22 23 F) s.length ⟨0,rfl,ck _,fun _ _=>rfl,z,A,B,C,D,G,K⟩ ?_;rintro m O k ⟨i,rfl,P,v,l,b,c,x,y,r,L⟩;unfold DO;by_cases J:i<s.length
 ·obtain⟨q,w⟩:∃q,s[i]? =some q:=⟨s[i],cH J⟩;have f:=abA n aa q (M q (er w));have p:=s4 (n:=n) w;have e:decide ((i:Int)<((s.length:Nat):Int))=true:=bw aa;have N:aG .i64 ((i:Int)+1)=((i+1:Nat):Int):=by rw[aQ _ aa];rfl
  unfold g6 at f;simp only[eJ]at p f;have u:GT ((k.push (.cells [ai 0,.ak] 0)).set k.next (.cells [ai (n:Int),eE q] 0)):=(r.push aa _).set aa _
  simp(disch:=omega)only[go_sem,DN,Mu,l,b,c,e,sr,bN,p];refine cy f u ?_;simp only[go_sem,Mt,dZ,c,N];refine⟨s.length-(i+1),aa,i+1,rfl,aa,fun t g=>?_,?_,?_,?_,?_,?_,u,?_⟩
  ·simp(disch:=omega)only[cc];exact v t g
  iterate 3 simp only[go_sem,l,b]
  ·rw[ag.a_,au aa,ag.bE,au aa,x]
  ·rw[ag.a_,au aa,ag.bE,au aa,y]
  ·simp only[go_sem];omega
 ·have I:i=s.length:=aa;subst I;have e:decide (((s.length:Nat):Int)<((s.length:Nat):Int))=false:=bp aa;simp only[go_sem,DN,b,c,e];exact E _ _ (fun t g=>by simp(disch:=omega)only[cc];exact v t g) x y r L
theorem aho(n:Nat)(T:n=1∨n=2)(o:List aI)(j e s:List (List aI))(U:s.length≤1000)(F:Fr)(H:ag)(R:X→Fr→ag→Prop)
 (y:rd 3 F=.ptr 5 0) (z:rd 32 F=cK n s) (A:rd 33 F=ai (s.length:Int)) (B:rd 34 F=ai 0) (C:H.get 5=.cells (iB n o j e) 0) (D:H.get 6=.cells [.ak,ai 0,.ak,.ak,.ak] 0) (G:GT H) (M:7≤H.next)
 (E:∀l a,(∀t,t<10→rd t l=rd t F)→a.get 5=.cells (iB n o j e) 0→a.get 6=.cells [.ak,ai 0,.ak,.ak,.ak] 0→GT a→7≤a.next→R (.exit 2) l a):bT (.loop DQ) R F H:=by
 refine bW (La n o j e s 32 33 34 F) s.length ⟨0,rfl,ck _,fun _ _=>rfl,z,A,B,C,D,G,M⟩ ?_;rintro m w b ⟨i,rfl,S,g,p,c,d,k,v,u,N⟩;have x:rd 3 w=.ptr 5 0:=by rw[g 3 aj];exact y
 unfold DQ;by_cases K:i<s.length
 ·obtain⟨q,O⟩:∃q,s[i]? =some q:=⟨s[i],cH K⟩;have r:=s4 (n:=n) O;have f:decide ((i:Int)<((s.length:Nat):Int))=true:=bw aa;have Q:aG .i64 ((i:Int)+1)=((i+1:Nat):Int):=by rw[aQ _ aa];rfl
  have L:eC (fk n)=some (.val (ai (n:Int))):=rfl;have P:¬b.next=5:=aa
  have I:GT ((b.push (.cells [ai 0,.ak] 0)).set b.next (.cells [ai (n:Int),eE q] 0)):=(u.push aa _).set aa _
  simp only[eJ]at r;simp(disch:=omega)only[go_sem,DP,MC,x,p,c,d,f,sr,bN,r,k,iB,P,L,decide_true,dZ];simp only[go_sem,MB,d,Q];refine⟨s.length-(i+1),aa,i+1,rfl,aa,fun t h=>?_,?_,?_,?_,?_,?_,I,?_⟩
  ·simp(disch:=omega)only[cc];exact g t h
  iterate 3 simp only[go_sem,p,c]
  ·rw[ag.a_,au aa,ag.bE,au aa,k]
  ·rw[ag.a_,au aa,ag.bE,au aa,v]
  ·simp only[go_sem];omega
 ·have J:i=s.length:=aa;subst J;have f:decide (((s.length:Nat):Int)<((s.length:Nat):Int))=false:=bp aa;simp only[go_sem,DP,c,d,f];exact E _ _ (fun t h=>by simp(disch:=omega)only[cc];exact g t h) k v u N
variable{a:Nat}{l:List aI}
theorem B6(h:pQ a l):rT a l:=⟨fun c b=>(h.t c b).len,h.len⟩
theorem ahv(p:iO)(h:p.aM)(s:List (List aI))(y:∀q∈s,pQ p.n q)(Z:s.length≤8):ff 101 [je p,cK p.n s,.ak] (.aK [kM p.n p.obj (p.is++s) p.es,ai 0]):=by
 have b:=h.n;have Y:=h.li;have X:=h.le;have j:=Ij p.n s [] aa aJ;have B:=Ij p.n p.is s aa aa;have j7:=Ij p.n p.es [] aa aJ;rw[fA]at j j7;have J:=B6 (wC b aj h.obj);have I:∀q∈p.is++s,rT p.n q:=fun q hq=>by
  rcases gU.1 hq with hq|hq
  ·exact B6 (wC b aj (h.is q hq))
  ·exact B6 (y q hq)
 have H:∀q∈p.es,rT p.n q:=fun q hq=>B6 (wC b aj (h.es q hq))
 have z:=ard p.n b p.obj (p.is++s) p.es J I H (by rw[bt];omega) aa;have A:=adh p h;unfold je at A;unfold kM iB at z;refine fK (.cons (r8 p b) (.cons (vT _ _) (.cons .ak .nil))) (bg aj_ ?_);simp only[go_sem,Ms,MA,je];refine cy A cl ?_;simp only[go_sem,Mz,dZ];refine iL (b:=7) (cs:=[cK p.n s,.ak]) (args2:=[.row 2 [cK p.n s,cK p.n []]]) j ?_ ⟨0,2,.known 2,dH.2 rfl⟩ (.cons (.row (m:=2) (cs:=[cK p.n s,.ak]) ?_ aj ?_ (.cons (.same _) (.cons .fQ .nil))) .nil) ?_
 ·simp only[go_sem]
 ·rw[gj (cs:=[cK p.n s,.ak]) (by simp only[go_sem])];rfl
 ·simp only[go_sem]
 have W:eC (cK p.n s)=some (.val (ai (s.length:Int))):=rfl;have U:bP (cK p.n s)=true:=rfl;simp only[go_sem,My];refine ahn p.n b p.obj p.is p.es s y aa _ _ _ ?_ ?_ ?_ ?_ ?_ cl ?_ ?_
 iterate 3 simp only[go_sem]
 ·simp only[go_sem];rfl
 ·simp only[go_sem]
 ·simp only[go_sem];decide
 intro d S a u v w x;have m:rd 1 d=cK p.n s:=by rw[a 1 aj];simp only[go_sem]
 have o:rd 2 d=.ak:=by rw[a 2 aj];simp only[go_sem]
 have g:rd 3 d=.ptr 5 0:=by rw[a 3 aj];simp only[go_sem]
 have r:rd 6 d=.ptr 6 0:=by rw[a 6 aj];simp only[go_sem]
 have t:rd 8 d=cK p.n s:=by rw[a 8 aj];simp only[go_sem]
 clear a;simp only[go_sem,Mx,t];refine aho p.n b p.obj p.is p.es s aa _ _ _ ?_ ?_ ?_ ?_ u v w x ?_
 iterate 4 simp only[go_sem,g]
 intro e c a i K G T;have k:rd 1 e=cK p.n s:=by rw[a 1 aj];simp only[go_sem,m]
 have l:rd 2 e=.ak:=by rw[a 2 aj];simp only[go_sem,o]
 have f:rd 3 e=.ptr 5 0:=by rw[a 3 aj];simp only[go_sem,g]
 have E:rd 6 e=.ptr 6 0:=by rw[a 6 aj];simp only[go_sem,r]
 clear a m o g r t u v w x;have L:eC V.ak=some (.val (ai 0)):=rfl;have Q:aG .i64 ((p.is.length:Int)+(s.length:Int))=((p.is.length+s.length:Nat):Int):=by rw[aQ _ aa];rfl
 have R:aG .i64 ((p.es.length:Int)+0)=(p.es.length:Int):=by rw[aQ _ aa];omega
 have C:decide (((p.is.length+s.length:Nat):Int)>16)=false:=bp aa;have D:decide ((p.es.length:Int)>16)=false:=bp aa;have O:¬c.next=5:=aa
 simp only[go_sem,Mw,k,l,f,i,iB,L,Q,R,C,D];simp only[go_sem,Mv,k,f,i,iB];refine iL (b:=c.next) (cs:=[cK p.n p.is,cK p.n s]) (args2:=[.row 2 [cK p.n p.is,cK p.n s]]) B ?_ ⟨0,2,.known 2,dH.2 rfl⟩ (.cons (.row (m:=2) (cs:=[cK p.n p.is,cK p.n s]) ?_ aj ?_ (.cons (.same _) (.cons (.same _) .nil))) .nil) ?_
 ·simp only[go_sem]
 ·rw[gj (cs:=[cK p.n p.is,cK p.n s]) (by simp only[go_sem])];rfl
 ·simp only[go_sem]
 have P:¬c.next=6:=aa
 have M:¬c.next+1=5:=aa
 have N:¬c.next+1=6:=aa
 simp only[go_sem,ME,l,f,i,iB,O];refine iL (b:=c.next+1) (cs:=[cK p.n p.es,.ak]) (args2:=[.row 2 [cK p.n p.es,cK p.n []]]) j7 ?_ ⟨0,2,.known 2,dH.2 rfl⟩ (.cons (.row (m:=2) (cs:=[cK p.n p.es,.ak]) ?_ aj ?_ (.cons (.same _) (.cons .fQ .nil))) .nil) ?_
 ·simp only[go_sem]
 ·rw[gj (cs:=[cK p.n p.es,.ak]) (by simp only[go_sem])];rfl
 ·simp only[go_sem]
 have F:bZ (.aK [kM p.n p.obj (p.is++s) p.es,ai 0]):=.aK (.cons (tV _ b _ _ _) (.cons (.int _ _) .nil));simp only[go_sem,MD,f,M];refine use z ?_;simp only[go_sem,E,K,P,N];refine cX ?_ rfl F
 repeat' first|exact G|omega|(simp only[go_sem];omega)|refine GT.set ?_ ?_ _|refine GT.push ?_ ?_ _
def VH:ah:=.aH [af 35 9,cL 36 35 1,ao 9 36]
def VI:ah:=.seq (.block 3 (.aH [af 37 0,af 38 9,af 39 0,af 40 9,cL 41 40 1,af 42 0,af 43 9,cL 44 43 1,aX 45 10 42 44,aL 46 10 45,af 47 0,af 48 9,aX 49 10 47 48,aL 50 10 49,aX 51 10 37 38,aF 10 51 46,aX 52 10 39 41,aF 10 52 50])) VH
def VJ:ah:=.seq (an [af 18 9,af 19 1,bD 20 .gtr 18 19,af 21 20,bG 21 true 22 3,bG 21 true 23 0,bG 21 true 24 9,aN 21 true 25 (dX none 10 (rd 23) (rd 24)),jY 21 true 26 10 25,bG 21 true 27 0,bG 21 true 28 9,ef 21 true 29 .sub 28 1,aN 21 true 30 (dX none 10 (rd 27) (rd 29)),jY 21 true 31 10 30,aN 21 true 32 (pY [(rd 22),(rd 26),(rd 31)]),ef 21 true 33 .lss 32 0,dM 34 21 33] (bl 34 .skip (.exit 2))) VI
def Hj:ah:=.aH [af 15 8,b9 16 15 1,ao 8 16]
def VK:ah:=.seq (.block 1 (an [af 17 8,ao 9 17] (.block 2 (.loop VJ)))) Hj
def Hl:ah:=.seq (an [af 12 8,af 13 2,cw 14 12 13] (bl 14 .skip (.exit 0))) VK
def Ho:ah:=.block 0 (.loop Hl)
def Hi:ah:=an [af 10 1,b9 11 10 1,ao 8 11] Ho
theorem aaq:aZ Tryz.f372 372 Hi []:=bh
def e9(e:List Nat):List Nat:=e++br (6-e.length) 0
variable{d:List Nat}
theorem sI(h:d.length≤6):(e9 d).length=6:=by simp[e9];omega
theorem JQ(e:List Nat):(e9 e).sum=e.sum:=by simp[e9]
theorem JR(e:List Nat):dg e=cY (e9 e):=by simp[dg,e9,cY]
theorem amz(t:aI):bP (mO t)=true:=rfl
theorem af_(t:aI):cellsOf (mO t)=bX t:=rfl
theorem af6(s t:aI)(d:s.2.length≤6)(e:t.2.length≤6)(j:s.2.sum≤24)(st:t.2.sum≤24):bA 275 [mO s,mO t] (ai (ord (e9 t.2) (e9 s.2))):=by
 refine cT (.cons (IM s) (.cons (IM t) .nil)) (.int _ _) (bg alv ?_);have g:∀b,slice3 (lK 6 1) false false false [.ptr b 0]=some (.val (.slice b 0 6 (.known 6))):=fun b=>rfl
 have h:=sI d;have i:=sI e;simp only[go_sem,Sz,SA,amz,af_,g];have c:∀(H:ag) (b:Nat) (u:aI),u.2.length≤6→H.get b=.cells (bX u) 0→cr H (ag.zero H.next) (.slice b 0 6 (.known 6)) (cG (e9 u.2)):=fun H b u a f=>by
  unfold cG;rw[sI a];refine .row (m:=6) (cs:=cY (e9 u.2)) ?_ aj (ag.gf _ _) (dy.refl _);rw[gj f,eY,eR,bX,JR,ay (by rw[bt,jG,sI a];omega),qG (by rw[jG,sI a])]
 refine(vG (R:=fun v=>v=ai (ord (e9 t.2) (e9 s.2))) (.cons (c _ _ t e ?_) (.cons (c _ _ s d ?_) .nil)) ((abv (e9 t.2) (e9 s.2) aa aa (by rw[JQ];omega) (by rw[JQ];omega) _).mono ?_)).mono ?_
 iterate 2 simp only[go_sem]
 ·rintro _ _ ⟨rfl,rfl⟩;exact⟨_,fun b=>.int _ _,rfl⟩
 ·rintro _ _ ⟨rfl,rfl⟩;simp only[go_sem]
@[go_sem]theorem auv(x y:V):r0 [.func 275 [] [],x,y]=some (.fn 275,[x,y]):=rfl
variable{b:List V}
theorem aaP{d c:List V}(h:b.length=a)(e:c.length=d.length):dx c (b++d) a=some (b++c):=by
 rw[nu,ay (by rw[bt];omega),qG h,List.drop_eq_nil_of_le (by rw[bt];omega),fA]
theorem ane{c a:List V}(h:a.length=b.length):dx a (b++c) 0=some (a++c):=by
 rw[nu,ay (by rw[bt];omega),nK,eM,fB,List.drop_left' h.symm]
theorem BS{ys:List V}(h:b.length=a):cF (eA (b++ys) 0) a=some b:=by
 rw[eY,eR,ay (by rw[bt];omega),qG h]
variable{g:Nat}
theorem yl{c:List V}(h:b.length=g)(d:c.length=a):cF (eA (b++c) g) a=some c:=by
 rw[jT,List.drop_left' h,eR,ay aa,cq aa]
theorem acL(s t:aI)(j:s.2.length≤6)(k:t.2.length≤6)(E:s.2.sum≤24)(st:t.2.sum≤24)(H:ag)(b:Nat)(c:Cap)(h:H.get b=.cells (bX s++bX t) 0):
 dN 372 [.slice b 0 2 c,ai 0,ai 2,.func 275 [] []] H fun _ r=>r=if ord (e9 s.2) (e9 t.2)<0 then(H.set b (.cells (bX s++bX s) 0)).set b (.cells (bX t++bX s) 0)else H:=by
 have i:=af6 t s k j st E;unfold mO at i;have d:=kO j;have o:=kO k;have l:dY none 10 [.slice b 0 2 c,ai 0]=some (.val (.ptr b 0)):=cR aj;have m:dY none 10 [.slice b 0 2 c,ai 1]=some (.val (.ptr b 10)):=cR aj;have f:=BS (ys:=bX t) d;rw[eY]at f;have n:=yl d o;have x:bP (.agg (bX s))=true:=rfl;have y:cellsOf (.agg (bX s))=bX s:=rfl;have cu:bP (.agg (bX t))=true:=rfl;have z:cellsOf (.agg (bX t))=bX t:=rfl;have A:cP (bX s)=10:=by rw[gx,d]
 have B:cP (bX t)=10:=by rw[gx,o]
 have C:dx (bX s) (bX s++bX t) 10=some (bX s++bX s):=aaP d aa;have D:dx (bX t) (bX s++bX s) 0=some (bX t++bX s):=ane aa;have F:aG .i64 ((0:Int)+1)=1:=rfl;have q:aG .i64 ((1:Int)+1)=2:=rfl;have p:aG .i64 ((1:Int)-1)=0:=rfl;have w:decide ((1:Int)<2)=true:=rfl;have g:decide ((2:Int)<2)=false:=rfl;have v:decide ((1:Int)>0)=true:=rfl;have u:decide ((0:Int)>0)=false:=rfl;refine bg aaq ?_;simp only[go_sem,Hi,Ho,F];refine s0 3 ?_;rw[kI];simp only[go_sem,Hl,VK,w];refine s0 3 ?_;rw[kI];simp only[go_sem,VJ,v,p,l,m,h,f,n];refine use i ?_;by_cases a:ord (e9 s.2) (e9 t.2)<0
 ·rw[ay a];have e:decide (ord (e9 s.2) (e9 t.2)<0)=true:=bw a;simp only[go_sem,VI,VH,e,p,l,m,h,f,n,x,y,cu,z,A,B,C,D,qO];rw[kI];simp only[go_sem,u];simp only[go_sem,Hj,q];rw[kI];simp only[go_sem,g]
 ·rw[au a];have e:decide (ord (e9 s.2) (e9 t.2)<0)=false:=bp a;simp only[go_sem,Hj,e,q];rw[kI];simp only[go_sem,g]
theorem aqz(v:V)(d:eC v=some (.val (ai 1)))(H:ag):dN 372 [v,ai 0,ai 1,.func 275 [] []] H fun _ a=>a=H:=by
 have c:aG .i64 ((0:Int)+1)=1:=rfl;have b:decide ((1:Int)<1)=false:=rfl;refine bg aaq ?_;simp only[go_sem,Hi,Ho,c];refine s0 1 ?_;rw[kI];simp only[go_sem,Hl,b]
theorem aem:oa 5 ov 145 [az 1] (ai 1)=true:=by kernel_rfl
theorem aen:oa 5 ov 145 [az 2] (ai 2)=true:=by kernel_rfl
theorem aeo(m:Int)(a:m=1∨m=2):bA 145 [az m] (ai m):=by
 rcases a with rfl|rfl
 ·exact qk pF aem
 ·exact qk pF aen
theorem acM(v:V)(m:Int)(b:m=1∨m=2)(h:eC v=some (.val (ai m)))(H:ag)(Q:ag→Prop)(e:dN 372 [v,ai 0,ai m,.func 275 [] []] H fun _ a=>Q a):
 dN 274 [v,.func 275 [] []] H fun _ a=>Q a:=by
 have f:aG .u64 m=m:=by rcases b with rfl|rfl<;>rfl
 have g:aG .i64 (m-0)=m:=by rcases b with rfl|rfl<;>rfl
 have i:decide (12<m)=false:=by rcases b with rfl|rfl<;>rfl
 refine bg alu ?_;simp only[go_sem,Sx,Sy,h,f];refine use (aeo m b) ?_;simp only[go_sem];have d:dN 334 [v,ai 0,ai m,ai m,.func 275 [] []] H fun _ a=>Q a:=by
  refine bg alO ?_;simp only[go_sem,UD,UH,UG];refine s0 1 ?_;rw[kI];simp only[go_sem,UF,UE,g,i];refine e.mono fun j a c=>?_
  simp only[go_sem];exact c
 refine d.mono fun j a c=>?_
 simp only[go_sem];exact c
def gP(t:aI):List aI:=if t.1.num=0 then []else [t]
def vQ(s t:aI)(i:Nat):aI:=if i=0 then s else t
def nv(t:aI):V×V:=(.agg (dg t.2),cN t.1)
def u0(l d:List Nat):Prop:=(l=[1,0]∧d=[])∨(l=[1]∧d=[0])∨(l=[0]∧d=[1])∨(l=[]∧(d=[0,1]∨d=[1,0]))
theorem u0.next{c:List Nat}(h:u0 d c)(b:a∈d):u0 (nF a d) (c++[a])∧a<2∧(nF a d).length+1=d.length:=by
 rcases h with⟨rfl,rfl⟩|⟨rfl,rfl⟩|⟨rfl,rfl⟩|⟨rfl,_⟩
 ·simp only[gL,List.not_mem_nil,or_false]at b;rcases b with rfl|rfl
  ·exact⟨.inr (.inr (.inl ⟨rfl,rfl⟩)),aj,rfl⟩
  ·exact⟨.inr (.inl ⟨rfl,rfl⟩),aj,rfl⟩
 ·simp only[gL,List.not_mem_nil,or_false]at b;subst b;exact⟨.inr (.inr (.inr ⟨rfl,.inl rfl⟩)),aj,rfl⟩
 ·simp only[gL,List.not_mem_nil,or_false]at b;subst b;exact⟨.inr (.inr (.inr ⟨rfl,.inr rfl⟩)),aj,rfl⟩
 ·cases b
theorem u0.room{a:List Nat}(h:u0 d a):d.length+a.length=2:=by
 rcases h with⟨rfl,rfl⟩|⟨rfl,rfl⟩|⟨rfl,rfl⟩|⟨rfl,rfl|rfl⟩<;>rfl
def fI(s t:aI)(d:List Nat):List aI:=d.flatMap fun i=>gP (vQ s t i)
theorem JE(t:aI):(gP t).length≤1:=by unfold gP;split<;>simp
theorem LG(s t:aI):∀d,(fI s t d).length≤d.length
 |[]=>aR 0
 |i::d=>by
  have:=LG s t d;have a:=JE (vQ s t i);unfold fI at this⊢;rw[List.flatMap_cons,bt,di];omega
theorem LH(s t:aI)(d:List Nat)(i:Nat):fI s t (d++[i])=fI s t d++gP (vQ s t i):=by simp[fI]
theorem ad_{s t:aI}(c:s.2.length≤6)(e:t.2.length≤6)(d:List Nat):∀x∈fI s t d,x.2.length≤6:=by
 intro x b;unfold fI at b;obtain⟨i,_,a⟩:=List.mem_flatMap.1 b;unfold gP at a;split at a
 ·cases a
 ·rw[dH.1 a];unfold vQ;split<;>assumption
theorem aaM{a:List V}(h:b.length≤a.length):mc b a=some (b++a.drop b.length):=by
 have:=Jp (xs:=b) (l:=a) h;cases a with
 |nil=>exact this
 |cons y a=>exact this
theorem ad5(e:List Nat):de (dg e)=true:=by rw[JR];exact xy _
variable{c:ag}
theorem ag7{m since last:Nat}{left:List Nat}{es:List (V×V)}{e:V×V}(f:c.get a=.cv (.iter m since left (some g) last))(i:c.get m=.cv (.map es))(h:es.length=last)(d:es[g]? =some e):qU [.ptr a 0] c=some (.aK [e.1,e.2]):=by
 unfold qU;simp only[f];have b:c.iG m=some es:=by unfold ag.iG;rw[i]
 rw[b];show bq (bK (cP es) last) (av (eu es g) fun e=>some (V.aK [e.1,e.2]))=_;rw[gx,h,Nat.beq_refl,iW,d];rfl
def qw:List V:=[ai 0,ai 0,ai 0,ai 0,ai 0,ai 0,aq,.ak,aq,.ak]
def C4(s t:aI)(N m a b:Nat)(c:ag)(k:Nat)(F:Fr)(H:ag):Prop:=∃(l d:List Nat) (e:Option Nat) (L:List V),k=l.length∧u0 l d∧rd 40 F=.ptr a 0∧rd 8 F=.slice b 0 (fI s t d).length (.known 2)∧
 H.get m=.cv (.map [nv s,nv t])∧H.get a=.cv (.iter m 2 l e 2)∧H.get b=.cells L 0∧L.length=20∧L.take ((fI s t d).length*10)=fP (fI s t d)∧(∀y,y<N→H.get y=c.get y)∧a<H.next
theorem agb(s t:aI)(hs:s.2.length≤6)(ht:t.2.length≤6)(N m a b:Nat)(cA:N≤m)(cb:m<b)(b1:b<a)(z:ag)(R:X→Fr→ag→Prop)(k:Nat)(F:Fr)(H:ag)(h:C4 s t N m a b z k F H)
 (hR:∀M o d L,(d=[0,1]∨d=[1,0])→rd 8 M=.slice b 0 (fI s t d).length (.known 2)→o.get b=.cells L 0→L.length=20→L.take ((fI s t d).length*10)=fP (fI s t d)→(∀y,y<N→o.get y=z.get y)→a<o.next→R (.exit 4) M o):
 bT zY (e_ (nO (C4 s t N m a b z) k) R) F H:=by
 obtain⟨l,d,a0,L,rfl,I,p,D,r,a1,E,O,G,J,a9⟩:=h;unfold zY;simp only[go_sem,p];refine⟨a,m,2,l,a0,2,[nv s,nv t],rfl,a1,r,?_,?_⟩
 ·intro i V vx v j;have hil:i∈l:=by
   rcases j with h|h
   ·exact h
   ·obtain⟨h1,_⟩:=fo.1 v;have:i<2:=h1;omega
  obtain⟨P,b',ca⟩:=I.next hil
  obtain⟨u,n⟩:∃u,vQ s t i=u:=⟨_,rfl⟩;have x:u.2.length≤6:=by rw[←n];unfold vQ;split<;>assumption
  have S:(V,vx)=nv u:=by
   have a8:i=0∨i=1:=aa;rcases a8 with rfl|rfl
   ·rw[←n];exact(Option.some.inj v).symm
   ·rw[←n];exact(Option.some.inj v).symm
  obtain⟨rfl,rfl⟩:V=.agg (dg u.2)∧vx=.agg (cm u.1):=⟨congrArg Prod.fst S,congrArg Prod.snd S⟩;have a7:qU [.ptr a 0] (H.set a (.cv (.iter m 2 (nF i l) (some i) 2)))=some (.aK [.agg (dg u.2),.agg (cm u.1)]):=ag7 (m:=m) (since:=2) (last:=2) (left:=nF i l) (es:=[nv s,nv t]) (e:=(.agg (dg u.2),.agg (cm u.1))) (by rw[ag.a_,ay rfl]) (by rw[ag.a_,au aa];exact r) rfl v;have k1:∀e,bP (.agg (dg e))=true:=fun _=>rfl
  have k2:∀e,cellsOf (.agg (dg e))=dg e:=fun _=>rfl
  have c:=yB x;have cu:cP (dg u.2)=6:=by rw[gx,c]
  have bd:dx (dg u.2) [ai 0,ai 0,ai 0,ai 0,ai 0,ai 0] 0=some (dg u.2):=uw c;have be:∀q,bP (.agg (cm q))=true:=fun _=>rfl
  have bi:∀q,cellsOf (.agg (cm q))=cm q:=fun _=>rfl
  have fD:∀q,cP (cm q)=4:=fun _=>rfl
  have lB:∀q,dx (cm q) [aq,.ak,aq,.ak] 0=some (cm q):=fun _=>rfl
  have mb:∀q,de (cm q)=true:=fun _=>rfl
  have U:∀q,cF (cm q) 4=some (cm q):=fun _=>rfl
  have oX:cF (dg u.2) 6=some (dg u.2):=jH c;have g:=kO x;have v9:mc (dg u.2) qw=some (dg u.2++[aq,.ak,aq,.ak]):=by
   rw[aaM (by rw[c];decide),c];rfl
  have yb:dx (cm u.1) (dg u.2++[aq,.ak,aq,.ak]) 6=some (bX u):=aaP c rfl;have sv:bP (.agg (bX u))=true:=rfl;have Je:cellsOf (.agg (bX u))=bX u:=rfl;have v_:cP (bX u)=10:=by rw[gx,g]
  have BF:mc (bX u) qw=some (bX u):=by
   rw[aaM (by rw[g];decide),g];show some (bX u++[])=_;rw[fA]
  unfold qw at v9 BF;have W:¬H.next+1=H.next:=aa
  have Y:¬H.next=b:=aa
  have Z:¬H.next+1=b:=aa
  have ab:¬H.next=a:=aa
  have ac:¬H.next+1=a:=aa
  have ad:¬H.next=m:=aa
  have ae:¬H.next+1=m:=aa
  have al:¬a=b:=aa;have am:¬a=m:=aa;have b0:¬H.next=H.next+1:=aa
  have T:=aaa u.1;unfold cN at T;simp only[go_sem,Fu,Q6,p,di,lR,Nat.reduceAdd,a7,k1,k2,cu,bd,be,bi,fD,lB,mb,ad5,W,b0];simp only[go_sem,Rc,U];refine use T ?_;have cd:=I.room;have b2:=LG s t d;by_cases w:u.1.num=0
  ·have f:fI s t (d++[i])=fI s t d:=by rw[LH,n,gP,ay w,fA]
   simp only[go_sem,Fx,bw w,dZ];refine⟨(nF i l).length,aa,nF i l,d++[i],some i,L,rfl,P,?_,?_,?_,?_,?_,O,?_,?_,?_⟩
   iterate 5 simp only[go_sem,p,D,f,ad,ae,am,r,ab,ac,Y,Z,al,E]
   ·rw[f];exact G
   ·intro y K;have A:¬H.next=y:=aa
    have B:¬H.next+1=y:=aa
    have C:¬a=y:=aa;simp only[go_sem,A,B,C];exact J y K
   ·simp only[go_sem];omega
  ·have f:fI s t (d++[i])=fI s t d++[u]:=by rw[LH,n,gP,au w]
   simp only[go_sem,Fx,bp w,gS,W,cu,fD,U,oX,v9,yb,sv,Je,v_,BF,D];refine IE (b:=b) (n:=2) (L:=L) (new:=bX u) ?_ aa (kO x) aa ⟨aj,aj⟩ (qO u) ?_ ?_
   ·simp only[go_sem,Y,Z,al,E]
   ·simp only[go_sem];omega
   have ce:¬H.next+1+1=b:=aa
   have bj:¬b=m:=aa;have bo:¬b=a:=aa;have bs:¬H.next+1+1=m:=aa
   have bv:¬H.next+1+1=a:=aa
   simp only[go_sem];refine⟨(nF i l).length,aa,nF i l,d++[i],some i,L.take ((fI s t d).length*10)++bX u++L.drop ((fI s t d).length*10+10),rfl,P,?_,?_,?_,?_,?_,?_,?_,?_,?_⟩
   iterate 5 simp only[go_sem,p,f,bt,di,lR,ad,ae,am,bj,bs,r,ab,ac,bo,bv]
   ·simp only[bt,ep,gF,kO x];omega
   ·have Q:=IF (fI s t d) (ad_ hs ht d);rw[f,Bn,G,bt,gm,cZ,fM,xh (by rw[bt,Q,g];omega),cq (by rw[bt,Q,g];omega)];simp[fP]
   ·intro y K;have A:¬H.next=y:=aa
    have B:¬H.next+1=y:=aa
    have C:¬a=y:=aa;have a4:¬H.next+1+1=y:=aa
    have a5:¬b=y:=aa;simp only[go_sem,A,B,C,a4,a5];exact J y K
   ·simp only[go_sem];omega
 ·intro j;have hd:l=[]∧(d=[0,1]∨d=[1,0]):=by
   rcases I with⟨rfl,rfl⟩|⟨rfl,rfl⟩|⟨rfl,rfl⟩|⟨rfl,h⟩
   ·exact absurd (j 0 aJ) aJ
   ·exact absurd (j 1 aJ) aJ
   ·exact absurd (j 0 aJ) aJ
   ·exact⟨rfl,h⟩
  simp only[go_sem,Fu];exact hR _ _ d L hd.2 (by simp only[go_sem,D]) E O G J a9
theorem aga(s t:aI)(w:s.2.length≤6)(x:t.2.length≤6)(N m a b:Nat)(cA:N≤m)(u:m<b)(r:b<a)(R:X→Fr→ag→Prop)(F:Fr)(H:ag)(L:List V)(i:rd 40 F=.ptr a 0)(j:rd 8 F=.slice b 0 0 (.known 2))
 (o:H.get m=.cv (.map [nv s,nv t])) (n:H.get a=.cv (.iter m 2 [1,0] none 2)) (l:H.get b=.cells L 0) (p:L.length=20) (v:a<H.next)
 (q:∀e c d L,(d=[0,1]∨d=[1,0])→rd 8 e=.slice b 0 (fI s t d).length (.known 2)→c.get b=.cells L 0→L.length=20→L.take ((fI s t d).length*10)=fP (fI s t d)→(∀y,y<N→c.get y=H.get y)→a<c.next→R (.exit 4) e c):
 bT (.loop zY) R F H:=by
 refine bW (C4 s t N m a b H) 2 ⟨[1,0],[],none,L,rfl,.inl ⟨rfl,rfl⟩,i,j,o,n,l,p,rfl,fun _ _=>rfl,v⟩ ?_;intro k f g h;exact agb s t w x N m a b cA u r H R k f g h q
end Go.Proofs.YtddhncjmaahodaaGreatDoor
namespace Go.aE
mutual
inductive vj:V→V→Prop
 |same (v:V):vj v v
 |fQ:vj .ak (.row 0 [])
 |agg {xs ys:List V} (h:tg xs ys):vj (.agg xs) (.agg ys)
 |aK {xs ys:List V} (h:tg xs ys):vj (.aK xs) (.aK ys)
inductive tg:List V→List V→Prop
 |nil:tg [] []
 |cons {x y:V}{xs ys:List V} (h:vj x y) (h':tg xs ys):tg (x::xs) (y::ys)
end
mutual
theorem aS.nz{φ:aO}:∀ {v v2:V}{v':Value},vj v v2→aS φ v v'→aS φ v2 v'
 |_,_,_,.same _,r=>r
 |_,_,_,.fQ,.ak=>.e4 none 0 (fun _=>rfl)
 |_,_,_,.agg h,.agg g=>.agg (bC.nz h g)
 |_,_,_,.aK h,.aK g=>.aK (bC.nz h g)
theorem bC.nz{φ:aO}:∀ {v v2:List V}{v':List Value},tg v v2→bC φ v v'→bC φ v2 v'
 |_,_,_,.nil,.nil=>.nil
 |_,_,_,.cons h h',.cons g g'=>.cons (aS.nz h g) (bC.nz h' g')
end
variable{a:Nat}{A:FuncId}{b:List V}{c:ag}{K:V→ag→Prop}
theorem afy{P:Program}{d:List V}(g:tg b d)(e:e6 P a (.fn A) d c K):e6 P a (.fn A) b c K:=
 ⟨e.1,fun k w f j i h=>e.2 k w f j i (bC.nz g h)⟩
inductive rU (H:ag) (args:List V):Nat→Prop
 |arg {b o n:Nat}{c:Cap} (h:V.slice b o n c∈args):rU H args b
 |cell {b b' o n:Nat}{c:Cap}{cs:List V} (h:rU H args b') (hb:H.get b'=.cells cs 0) (hm:V.slice b o n c∈cs):rU H args b
variable{n:aO}{q:World}{D:List Value}
theorem rU.named{P:Program}(m:Rel n c q)(g:bC n b D)(h:rU c b a):∃l,n a=some l:=by
 induction h with
 |arg e=>
  obtain⟨i,d⟩:=List.getElem?_of_mem e;obtain⟨x,_,f⟩:=g.get i _ d;cases f with
  |slice h _ _=>exact⟨_,h⟩
 |cell _ j e o=>
  obtain⟨l,k⟩:=o;obtain⟨i,d⟩:=List.getElem?_of_mem e;obtain⟨x,_,f⟩:=m.cell k j (gi.2 (.inl rfl)) d;cases f with
  |slice h _ _=>exact⟨_,h⟩
theorem afx{P:Program}{o:List V}{H:ag}(bs:List Nat)(c:ag)(t:∀p∈bs,(∃q,H.get p=.cells q 0)∧rU H b p)(d:∀y,c.get y=if y∈bs then .none else H.get y)(z:c.next=H.next)(F:dy H c b o)
 (u:e6 P a (.fn A) o c K):e6 P a (.fn A) b H K:=by
 refine⟨u.1,fun n w C h J s=>?_⟩;have m:Cut 0 H c:=by
  refine⟨fun y=>?_,z,fun y W Q R g i f S j=>?_⟩
  ·rw[d];split
   ·exact .inr ⟨ck _,rfl⟩
   ·exact .inl rfl
  ·rw[d]at j⊢;split at j
   ·rename_i e;obtain⟨⟨q,G⟩,_⟩:=t y e;rw[G]at f;cases f;exact absurd rfl i
   ·rw[f]at j;cases j
 have x:=h.vR m (ck _);have I:Ext n H w (n.dr H c w) c w:=by
  refine⟨x.rel,tZ h,fun f d=>absurd (f.symm.trans d) aJ,fun{y} _ i _=>?_,by rw[z];exact aR _,fun _ _=>rfl,aR _,gW.refl w,fun{y T} r k=>⟨?_,rfl⟩,x.l6⟩
  ·rw[d,au];intro M;obtain⟨l,L⟩:=(t y M).2.named (P:=P) h s;rw[L]at i;cases i
  ·rw[d];split
   ·rfl
   ·exact k
 refine(u.2 (n.dr H c w) w C (h.cut m) J (bC.dr h m F s)).mono ?_;rintro e U ⟨v,N,B,O,r,k,D,E⟩;exact⟨v,N,B,O,r,I.trans k,D,E⟩
end Go.aE
namespace Go.Proofs.YtddhncjmaahodaaGreatDoor
open Go.aE Go.aV
def d6:V→V→Option Bool:=xw [.int .i64,.int .i64,.int .i64,.int .i64,.int .i64,.int .i64]
variable{a:Nat}{j:Option Nat}{o:Fr}{c:ag}{f:Fr→ag→Prop}
@[go_sem↓]theorem asG{P:Program}(x:Fr→V):dF P a (aaJ x) j o c f=pR j f o c (sx [x o] c):=rfl
theorem wo{es:List (V×V)}(h:c.get a=.cv (.map es)):c.iG a=some es:=by unfold ag.iG;rw[h]
variable{x:V→V→Option Bool}{s:V}
theorem amZ{z:V}(h:c.get a=.cv (.map []))(d:x s s=some true):sy x z false [.map a,s] c=some z:=by
 show av (x s s) (fun _=>av (c.iG a) fun b=>av (n4 x s b 0) fun r=>Option.casesOn (motive:=fun _=>Option V) r (some (sB false z false)) (fun q=>some (sB false q.2 true)))=_;rw[d,wo h];rfl
theorem am0{k1 v1 z:V}(h:c.get a=.cv (.map [(k1,v1)]))(d:x s s=some true)(e:x s k1=some false):sy x z false [.map a,s] c=some z:=by
 show av (x s s) (fun _=>av (c.iG a) fun b=>av (n4 x s b 0) fun r=>Option.casesOn (motive:=fun _=>Option V) r (some (sB false z false)) (fun q=>some (sB false q.2 true)))=_;rw[d,wo h];show av (av (x s k1) _) _=_;rw[e];rfl
theorem ary{v:V}(h:c.get a=.cv (.map []))(d:x s s=some true):w7 x [.map a,s,v] c=some (V.undef,c.set a (.cv (.map [(s,v)]))):=by
 show av (x s s) (fun _=>av (c.iG a) fun b=>av (n4 x s b 0) fun r=>Option.casesOn (motive:=fun _=>Option (V×ag)) r (some (V.undef,c.set a (.cv (.map (ez b [(s,v)]))))) (fun q=>some (V.undef,c.set a (.cv (.map (yh b (s,v) q.1))))))=_;rw[d,wo h];rfl
theorem arz{v k1 v1:V}(h:c.get a=.cv (.map [(k1,v1)]))(d:x s s=some true)(e:x s k1=some false):w7 x [.map a,s,v] c=some (V.undef,c.set a (.cv (.map [(k1,v1),(s,v)]))):=by
 show av (x s s) (fun _=>av (c.iG a) fun b=>av (n4 x s b 0) fun r=>Option.casesOn (motive:=fun _=>Option (V×ag)) r (some (V.undef,c.set a (.cv (.map (ez b [(s,v)]))))) (fun q=>some (V.undef,c.set a (.cv (.map (yh b (s,v) q.1))))))=_;rw[d,wo h];show av (av (x s k1) _) _=_;rw[e];rfl
theorem Lq(q:Rat)(c:bB 1000 q)(H:ag)(b:GT H):dN 112 [.agg [aq,.ak,aq,.ak],.agg (cm q)] H fun v a=>v=.agg (cm q)∧a=H:=by
 have h:=JZ 0 q (a:=1) (b:=1000) ⟨aj,aj⟩ c aj H b;rw[Rat.zero_add,←abB]at h;exact afy (.cons (.agg (.cons (.same _) (.cons .fQ (.cons (.same _) (.cons .fQ .nil))))) (.cons (.same _) .nil)) h
theorem af'(s t:aI)(v:s.2.length≤6)(w:t.2.length≤6)(i:d6 (.agg (dg s.2)) (.agg (dg s.2))=some true)(k:d6 (.agg (dg t.2)) (.agg (dg t.2))=some true)(j:d6 (.agg (dg t.2)) (.agg (dg s.2))=some false)
 (al:bB 1000 s.1) (am:bB 1000 t.1) (m be:Nat) (f:Cap) (F:Fr) (H:ag) (R:X→Fr→ag→Prop) (r:GT H) (c:H.get m=.cv (.map [])) (h:H.get be=.cells (bX s++bX t) 0) (hm:m<H.next) (N:5≤m) (a0:be<H.next)
 (q:rd 3 F=.map m) (o:rd 18 F=.slice be 0 2 f) (g:rd 19 F=ai 2) (p:rd 20 F=ai 0)
 (J:∀n b,(∀t,t<18→t≠7→rd t n=rd t F)→b.get m=.cv (.map [nv s,nv t])→(∀y,y<H.next→y≠m→b.get y=H.get y)→b.next=H.next+2→R (.exit 2) n b):
 bT (.loop tD) R F H:=by
 unfold d6 at i k j;have d:=kO v;have l:=kO w;have C:=yB v;have D:=yB w;have P:dY none 10 [.slice be 0 2 f,ai 0]=some (.val (.ptr be 0)):=cR aj;have Q:dY none 10 [.slice be 0 2 f,ai 1]=some (.val (.ptr be 10)):=cR aj;have z:=BS (ys:=bX t) d;rw[eY]at z;have Y:=yl d l;have S:bP (.agg (bX s))=true:=rfl;have T:cellsOf (.agg (bX s))=bX s:=rfl;have cu:bP (.agg (bX t))=true:=rfl;have U:cellsOf (.agg (bX t))=bX t:=rfl;have V:cP (bX s)=10:=by rw[gx,d]
 have W:cP (bX t)=10:=by rw[gx,l]
 have fD:dx (bX s) qw 0=some (bX s):=uw d;have lB:dx (bX t) qw 0=some (bX t):=uw l;unfold qw at fD lB;have mb:cF (bX s) 6=some (dg s.2):=by have:=BS (ys:=cm s.1) C;rwa[eY]at this
 have x:cF (bX t) 6=some (dg t.2):=by have:=BS (ys:=cm t.1) D;rwa[eY]at this
 have oX:cF (eA (bX s) 6) 4=some (cm s.1):=yl C rfl;have v9:cF (eA (bX t) 6) 4=some (cm t.1):=yl D rfl;have ap:aG .i64 ((0:Int)+1)=1:=rfl;have ar:aG .i64 ((1:Int)+1)=2:=rfl;have E:decide ((0:Int)<2)=true:=rfl;have G:decide ((1:Int)<2)=true:=rfl;have I:decide ((2:Int)<2)=false:=rfl;have A:¬H.next=m:=aa
 have Z:¬H.next=be:=aa
 have a4:¬H.next+1=be:=aa
 have B:¬H.next+1=m:=aa
 have a5:¬H.next=H.next+1:=aa
 have ab:¬m=be:=fun e=>by rw[e,h]at c;cases c
 have a6:¬m=H.next:=aa
 have a7:¬m=H.next+1:=aa
 refine s0 3 ?_;rw[kI];obtain⟨K,a⟩:∃K,K=oE eW 5 tD R 2:=⟨_,rfl⟩;rw[←a];simp only[go_sem,tD,zZ,Ft,E,P,h,z,S,T,V,fD,mb,q,o,g,p,qO];rw[amZ (by simp only[go_sem,A,c]) i];simp only[go_sem,oX];refine(Lq s.1 al _ ((r.push aa _).set aa _)).mono ?_;rintro _ _ ⟨rfl,rfl⟩;simp only[go_sem,mb];rw[ary (by simp only[go_sem,A,c]) i];simp only[go_sem,Fs,p,ap,true_and];rw[a,kI];clear a K;obtain⟨K,a⟩:∃K,K=oE eW 5 tD R 1:=⟨_,rfl⟩;rw[←a];have L:GT ((H.push (.cells [ai 0,ai 0,ai 0,ai 0,ai 0,ai 0,aq,.ak,aq,.ak] 0)).set H.next (.cells (bX s) 0)):=(r.push aa _).set aa _
 have M:=L.set N (.cv (.map [(.agg (dg s.2),.agg (cm s.1))]));simp only[go_sem,tD,zZ,Ft,G,Q,Z,ab,h,Y,cu,U,W,lB,x,q,o,g,qO];rw[am0 (k1:=.agg (dg s.2)) (v1:=.agg (cm s.1)) (by simp only[go_sem,B]) k j];simp only[go_sem,v9];refine(Lq t.1 am _ ((M.push (by simp only[go_sem];omega) _).set aa _)).mono ?_;rintro _ _ ⟨rfl,rfl⟩;simp only[go_sem,x,true_and];rw[arz (k1:=.agg (dg s.2)) (v1:=.agg (cm s.1)) (by simp only[go_sem,B]) k j];simp only[go_sem,Fs,ar];rw[a,kI];clear a K;simp only[go_sem,tD,zZ,I,g];refine J _ _ (fun u hu h7=>?_) ?_ (fun y hy O=>?_) ?_
 ·simp(disch:=omega)only[cc]
 ·simp only[go_sem];rfl
 ·have q1:¬H.next=y:=aa
  have ad:¬H.next+1=y:=aa
  have ae:¬m=y:=fun e=>O e.symm
  simp only[go_sem,q1,ad,ae]
 ·simp only[go_sem]
theorem agc(s t:aI)(u:s.2.length≤6)(w:t.2.length≤6)(Y:d6 (.agg (dg s.2)) (.agg (dg s.2))=some true)(ab:d6 (.agg (dg t.2)) (.agg (dg t.2))=some true)(Z:d6 (.agg (dg t.2)) (.agg (dg s.2))=some false)
 (aw:bB 1000 s.1) (a0:bB 1000 t.1) (H:ag) (gr be:Nat) (c j:Cap) (S:GT H) (P:H.get gr=.cells [.slice be 0 2 j] 0) (O:H.get be=.cells (bX s++bX t) 0) (a5:gr<H.next) (a6:be<H.next) (q:5≤H.next):
 dN 225 [.slice gr 0 1 c] H fun v a=>∃d b L,(d=[0,1]∨d=[1,0])∧v=.slice b 0 (fI s t d).length (.known 2)∧a.get b=.cells L 0∧L.length=20∧L.take ((fI s t d).length*10)=fP (fI s t d)∧H.next≤b∧b<a.next∧(∀y,y<H.next→a.get y=H.get y):=by
 have ac:dY none 1 [.slice gr 0 1 c,ai 0]=some (.val (.ptr gr 0)):=cR aj;have B:eC (.slice gr 0 1 c)=some (.val (ai 1)):=rfl;have C:eC (.slice be 0 2 j)=some (.val (ai 2)):=rfl;have a1:aG .i64 ((0:Int)+1)=1:=rfl;have z:decide ((0:Int)<1)=true:=rfl;have A:decide ((1:Int)<1)=false:=rfl;have n1:¬H.next=gr:=aa
 have n2:¬H.next=be:=aa
 refine bg ak8 ?_;simp only[go_sem,Q5,Q_,Q9,B];refine s0 2 ?_;rw[kI];obtain⟨R,o⟩:∃R:X→Fr→ag→Prop,R=lX 0 (e_ (bT Fv (gl [gV.tmp 2] fun v a=>∃d b L,(d=[0,1]∨d=[1,0])∧v=.slice b 0 (fI s t d).length (.known 2)∧a.get b=.cells L 0∧L.length=20∧L.take ((fI s t d).length*10)=fP (fI s t d)∧H.next≤b∧b<a.next∧(∀y,y<H.next→a.get y=H.get y))) (gl [gV.tmp 2] fun v a=>∃d b L,(d=[0,1]∨d=[1,0])∧v=.slice b 0 (fI s t d).length (.known 2)∧a.get b=.cells L 0∧L.length=20∧L.take ((fI s t d).length*10)=fP (fI s t d)∧H.next≤b∧b<a.next∧(∀y,y<H.next→a.get y=H.get y))):=⟨_,rfl⟩
 rw[←o];obtain⟨K,l⟩:∃K,K=oE eW 5 z0 R 1:=⟨_,rfl⟩;rw[←l];simp only[go_sem,z0,Fw,Rb,z,ac,n1,P,C];refine af' s t u w Y ab Z aw a0 H.next be j _ _ _ (S.push q _) ?_ ?_ ?_ q ?_ ?_ ?_ ?_ ?_ ?_
 iterate 2 simp only[go_sem,n2,O]
 ·simp only[go_sem];omega
 ·simp only[go_sem];omega
 iterate 4 simp only[go_sem]
 intro h a g k i r;have F:rd 3 h=.map H.next:=by rw[g 3 aj aj];simp only[go_sem]
 have a4:rd 12 h=.slice gr 0 1 c:=by rw[g 12 aj aj];simp only[go_sem]
 have D:rd 13 h=ai 1:=by rw[g 13 aj aj];simp only[go_sem]
 have E:rd 14 h=ai 0:=by rw[g 14 aj aj];simp only[go_sem]
 have U:∀y,y<H.next→a.get y=H.get y:=fun y m=>by
  rw[i y (by simp only[go_sem];omega) aa,ag.bE,au aa]
 have a7:a.next=H.next+3:=by rw[r];simp only[go_sem]
 clear g i r;simp only[go_sem,Ra,E,a1];rw[l,kI];clear l K;simp only[go_sem,z0,Fw,D,A,o];have T:sx [.map H.next] a=some (ai 2):=by
  show av (a.iG H.next) (fun f=>some (V.int .i64 (.ofNat (cP f))))=_
  rw[wo k];rfl
 have p:mS 112 [ai 0,ai 0,ai 0,ai 0,ai 0,ai 0,aq,.ak,aq,.ak] [ai 0,ai 2]=some (.new (rep [ai 0,ai 0,ai 0,ai 0,ai 0,ai 0,aq,.ak,aq,.ak] 2) (.slice 0 2)):=aaY (n:=2) aj;obtain⟨e,n⟩:∃e:List V,e=rep [ai 0,ai 0,ai 0,ai 0,ai 0,ai 0,aq,.ak,aq,.ak] 2:=⟨_,rfl⟩;have M:e.length=20:=by rw[n,Cf];rfl
 rw[←n]at p;have x:¬a.next=H.next:=aa
 have W:yI [.map H.next] (a.push (.cells e 0))=some (.ptr (a.next+1) 0,(a.push (.cells e 0)).push (.cv (.iter H.next 2 [1,0] aW 2))):=by
  show av ((a.push (.cells e 0)).iG H.next) (fun f=>some (V.ptr (a.push (.cells e 0)).next 0,(a.push (.cells e 0)).push (.cv (.iter H.next (cP f) (upto (cP f)) aW (cP f)))))=_
  rw[wo (es:=[nv s,nv t]) (by rw[ag.bE,au x,k])];rfl
 simp only[go_sem,Fv,Q8,F,T,p,W];refine aga s t u w H.next H.next (a.next+1) a.next (aR _) aa aa _ _ _ e ?_ ?_ ?_ ?_ ?_ M ?_ ?_
 iterate 2 simp only[go_sem]
 ·have m2:¬a.next+1=H.next:=aa
  simp only[go_sem,x,m2,k]
 ·simp only[go_sem]
 ·have ae:¬a.next+1=a.next:=aa
  simp only[go_sem,ae]
 ·simp only[go_sem];omega
 intro a2 H2 d L Q G I J N i a8;simp only[go_sem,Q7,G];refine⟨d,a.next,L,Q,rfl,I,J,N,aa,aa,fun y m=>?_⟩
 have al:¬a.next=y:=aa
 have am:¬a.next+1=y:=aa
 rw[i y m];simp only[go_sem,al,am];exact U y m
def zm(b:Nat)(d:List aI)(H a:ag):Prop:=∃c,a.get b=.cells c 0∧c.length=20∧c.take (d.length*10)=fP d∧(∀y,y≠b→a.get y=H.get y)∧a.next=H.next
theorem aqA(s:aI)(H:ag)(b:Nat)(c:Cap)(L:List V)(f:H.get b=.cells L 0)(d:L.length=20)(e:L.take 10=fP [s]):
 dN 274 [.slice b 0 1 c,.func 275 [] []] H fun _ a=>zm b [s] H a:=
 acM _ 1 (.inl rfl) rfl H _ ((aqz _ rfl H).mono fun _ a h=>by rw[h];exact⟨L,f,d,e,fun _ _=>rfl,rfl⟩)
theorem tT(s t:aI):fP [s,t]=bX s++bX t:=by simp[fP]
theorem aqB(s t:aI)(i:s.2.length≤6)(j:t.2.length≤6)(m:s.2.sum≤24)(st:t.2.sum≤24)(o:ord (e9 s.2) (e9 t.2)=1)(p:ord (e9 t.2) (e9 s.2)= -1)(l:List aI)(n:l=[s,t]∨l=[t,s])(H:ag)(b:Nat)(c:Cap)(L:List V)(a:H.get b=.cells L 0)(q:L.length=20)(g:L.take 20=fP l):
 dN 274 [.slice b 0 2 c,.func 275 [] []] H fun _ f=>zm b [s,t] H f:=by
 rw[cq aa]at g;have d:(fP [s,t]).length=20:=by rw[tT,bt,kO i,kO j]
 refine acM _ 2 (.inr rfl) rfl H _ ?_;rcases n with rfl|rfl
 ·rw[g,tT]at a;refine(acL s t i j m st H b c a).mono fun _ f h=>?_
  rw[o,au aj]at h;rw[h];exact⟨_,a,by rw[←tT];exact d,by rw[←tT];exact cq (by rw[d];exact aR 20),fun _ _=>rfl,rfl⟩
 ·rw[g,tT]at a;refine(acL t s j i st m H b c a).mono fun _ f h=>?_
  rw[p,ay aj]at h;rw[h];refine⟨_,by rw[ag.a_,ay rfl],by rw[←tT];exact d,by rw[←tT];exact cq (by rw[d];exact aR 20),fun y k=>?_,rfl⟩;rw[ag.a_,au (fun e=>k e.symm),ag.a_,au (fun e=>k e.symm)]
inductive kK (H:ag) (N n:Nat):List aI→List V→Prop
 |nil:kK H N n [] []
 |snoc {l:List aI}{cs:List V}{t:aI}{e:Nat} (h:kK H N n l cs) (he:N≤e∧e<H.next) (hl:t.2.length=n) (hg:H.get e=.cells (cY t.2) 0):kK H N n (l++[t]) (cs++[.str (bS t.1),.slice e 0 n (.known n)])
variable{J:ag}{g:Nat}{l:List aI}{b:List V}
theorem kK.keep(h:kK c a g l b)(k:c.next≤J.next)(f:∀y b,a≤y→y<c.next→c.get y=.cells b 0→J.get y=.cells b 0):kK J a g l b:=by
 induction h with
 |nil=>exact .nil
 |snoc h d i e j=>exact .snoc j ⟨d.1,aa⟩ i (f _ _ d.1 d.2 e)
theorem kK.len(h:kK c a g l b):b.length=l.length*2:=by
 induction h with
 |nil=>rfl
 |snoc h e i f d=>simp only[bt,d,di,lR];omega
theorem kK.aia(j:0<g)(e:∀y,a≤y→J.get y=.none)(h:kK c a g l b):dy c J b (jC l):=by
 induction h with
 |nil=>exact .nil
 |snoc h f d i k=>
  rw[C0];refine x6 k (.cons (.same _) (.cons ?_ .nil));unfold cG;rw[d];refine .row (m:=g) (cs:=cY _) ?_ j (e _ f.1) (dy.refl _);rw[gj i,eY,jH (by rw[jG,d])]
theorem Y7:∀(l:List aI) (i:Nat),(∀t∈l,t.2.length≤6)→(fP l).drop (i*10)=fP (l.drop i)
 |[],i,_=>by simp[fP]
 |t::l,0,_=>aJ
 |t::l,i+1,h=>by
  rw[List.drop_succ_cons,←Y7 l i fun u a=>h u (by simp[a]),fP,pO,iy,List.drop_append,kO (h t aJ),i_ (by rw[kO (h t aJ)];omega),eM,Nat.add_sub_cancel_left]
theorem Y8{i:Nat}{u:aI}(h:b.take (l.length*10)=fP l)(g:l[i]? =some u)(f:∀t∈l,t.2.length≤6):cF (eA b (i*10)) 10=some (bX u):=by
 obtain⟨e,rfl⟩:=fo.1 g;have a:=Y7 l i f;rw[←h,kr e,fP,List.drop_take]at a;have d:=kO (f l[i] (u_ e));have c:bX l[i]=(b.drop (i*10)).take 10:=by
  have:=congrArg (List.take 10) a;rw[List.take_take,oH aa,qG d]at this;exact this.symm
 rw[jT,eR,←c,ay];have:=congrArg jD c;rw[ep,d]at this;omega
theorem ag4{n:Nat}{cs iQ:List V}{es:List Nat}(h:c.get a=.cells cs 0)(r:cs.length=n)(q:c.get g=.cells (dg es++iQ) 0)(l:es.length=n)(s:n≤6)(k:f (put o j (ai (n:Int))) (c.set a (.cells (cY es) 0))):
 gT j f o (nq 1 [.slice a 0 n (.known n),.slice g 0 6 (.known 6)] c):=by
 have p:dO 6 n=n:=by rw[B0];omega
 have e:nq 1 [.slice a 0 n (.known n),.slice g 0 6 (.known 6)] c=some (ai (n:Int),c.set a (.cells (cY es) 0)):=by
  show av (some 6) (fun m=>av (ec c 1 (dO m n) (.slice g 0 6 (.known 6))) fun b=>av (c.e5 a 0 b) fun c=>some (V.int .i64 (.ofNat (dO m n)),c))=_;show av (ec c 1 (dO 6 n) (.slice g 0 6 (.known 6))) (fun b=>av (c.e5 a 0 b) fun c=>some (V.int .i64 (.ofNat (dO 6 n)),c))=_;rw[p];have i:ec c 1 n (.slice g 0 6 (.known 6))=some (cY es):=by
   show c.dw g 0 (n*1)=_;rw[gj q,eY,eR,dQ,dg,eG,ay (by rw[bt,jG];omega),qG (by rw[jG,l])]
  rw[i];show av (c.e5 a 0 (cY es)) _=_;unfold ag.e5;rw[h];show av (bq (de (cY es)) (av (dx (cY es) cs 0) fun d=>some (c.set a (.cells d 0)))) _=_;rw[xy,uw (by rw[jG];omega)];rfl
 rw[e];exact k
def adL(n:Nat)(a:List aI)(M b T P:Nat)(c:Cap)(L:List V)(e:Fr)(f:ag)(k:Nat)(F:Fr)(H:ag):Prop:=∃(i:Nat) (C d:List V),k=a.length-i∧i≤a.length∧(∀t,t<7→rd t F=rd t e)∧rd 33 F=.slice b 0 a.length c∧rd 34 F=ai (a.length:Int)∧rd 35 F=ai (i:Int)∧
 H.get T=.cells C 0∧C.length=a.length*2∧C.take (i*2)=d∧kK H M n (a.take i) d∧(∀y,y<M→y≠T→H.get y=f.get y)∧M≤H.next
theorem ar5(n:Nat)(hn:0<n∧n≤6)(d:List aI)(J:∀t∈d,t.2.length=n)(hq:∀t∈d,bB 1000 t.1)(ls:d.length≤1000)(b T P:Nat)(c:Cap)(L:List V)(o:List V)(F:Fr)(H:ag)(R:X→Fr→ag→Prop)
 (f0:rd 0 F=ai (n:Int)) (f6:rd 6 F=.ptr P 0) (ae:rd 33 F=.slice b 0 d.length c) (al:rd 34 F=ai (d.length:Int)) (am:rd 35 F=ai 0)
 (a0:H.get b=.cells L 0) (a2:L.take (d.length*10)=fP d) (aw:H.get T=.cells o 0) (a1:o.length=d.length*2) (ar:H.get P=.cells [ai (n:Int),.slice T 0 d.length (.known d.length)] 0) (hg:GT H) (hb:b<H.next) (hT:T<H.next) (hP:P<H.next) (cs:5≤T) (a8:b≠T) (a4:P≠T)
 (hR:∀D g f,(∀t,t<7→rd t D=rd t F)→kK g H.next n d f→g.get T=.cells f 0→(∀y,y<H.next→y≠T→g.get y=H.get y)→H.next≤g.next→R (.exit 0) D g):
 bT (.loop Fj) R F H:=by
 refine bW (adL n d H.next b T P c L F H) d.length ⟨0,o,[],rfl,ck _,fun _ _=>rfl,ae,al,am,aw,a1,aJ,.nil,fun _ _ _=>rfl,aR _⟩ ?_
 rintro k E a ⟨i,C,f,rfl,hi,m,G,p,q,S,cp,r,v,j,bo⟩;have Z:rd 0 E=ai (n:Int):=by rw[m 0 aj];exact f0
 have ab:rd 6 E=.ptr P 0:=by rw[m 6 aj];exact f6
 have kb:a.get b=.cells L 0:=by rw[j b hb a8,a0]
 have Q:=(j P hP a4).trans ar;have a':GT a:=hg.keep fun y x=>j y aa aa
 unfold Fj;by_cases bc:i<d.length
 ·obtain⟨u,w⟩:∃u,d[i]? =some u:=⟨d[i],cH bc⟩;have N:=er w;have M:=J u N;have I:=kO (t:=u) aa;have bs:=yB (e:=u.2) aa;have ea:=Y8 a2 w (fun t l=>by have:=J t l;omega);have s:decide ((i:Int)<((d.length:Nat):Int))=true:=bw aa;have w1:aG .i64 ((i:Int)+1)=((i+1:Nat):Int):=by rw[aQ _ aa];rfl
  have b2:dY none 10 [.slice b 0 d.length c,ai (i:Int)]=some (.val (.ptr b (i*10))):=by
   rw[cR aa];simp
  have b':dY none 2 [.slice T 0 d.length (.known d.length),ai (i:Int)]=some (.val (.ptr T (i*2))):=by
   rw[cR aa];simp
  have k1:bP (.agg (bX u))=true:=rfl;have k2:cellsOf (.agg (bX u))=bX u:=rfl;have cd:cP (bX u)=10:=by rw[gx,I]
  have fD:dx (bX u) qw 0=some (bX u):=uw I;unfold qw at fD;have oX:cF (eA (bX u) 6) 4=some (cm u.1):=yl bs rfl;have bi:mS 8 [ai 0] [ai (n:Int),ai (n:Int)]=some (.new (rep [ai 0] n) (.slice n n)):=by rw[iH aa];simp
  have b0:slice3 (lK 6 1) false false false [.ptr a.next 0]=some (.val (.slice a.next 0 6 (.known 6))):=rfl
  have K:=Ca u.1 (hq u N) aj;unfold cN at K;have n1:¬a.next=b:=aa
  have n2:¬a.next=T:=aa
  have U:¬a.next=P:=aa
  have W:¬a.next+1=a.next:=aa
  have ch:¬a.next+1=T:=aa
  have Y:¬a.next+1=P:=aa
  have da:¬a.next=a.next+1:=aa
  simp only[go_sem,Fi,QF,Z,G,p,q,s,b2,kb,ea,k1,k2,cd,fD,bi,b0,qO];refine ag4 (n:=n) (cs:=rep [ai 0] n) (iQ:=cm u.1) (es:=u.2) ?_ ?_ ?_ M hn.2 ?_
  ·simp only[go_sem]
  ·rw[Cf];simp
  ·simp only[go_sem,W];rfl
  simp only[go_sem,ab,U,W,Y,Q,oX];have ba:GT ((((a.push (.cells [ai 0,ai 0,ai 0,ai 0,ai 0,ai 0,aq,.ak,aq,.ak] 0)).set a.next (.cells (bX u) 0)).push (.cells (rep [ai 0] n) 0)).set (a.next+1) (.cells (cY u.2) 0)):=by
   repeat' first|exact a'|omega|(simp only[go_sem];omega)|refine GT.set ?_ ?_ _|refine GT.push ?_ ?_ _
  refine cy K ba ?_;have b1:dx [.str (bS u.1),.slice (a.next+1) 0 n (.known n)] C (i*2)=some (C.take (i*2)++[.str (bS u.1),.slice (a.next+1) 0 n (.known n)]++C.drop (i*2+2)):=by
   rw[nu,ay (by rw[di,gm];omega)];rfl
  have a6:de [V.str (bS u.1),.slice (a.next+1) 0 n (.known n)]=true:=rfl
  simp only[go_sem,n2,U,ch,Y,Q,S,b',b1,a6,true_and];simp only[go_sem,QE,q,w1];have t1:¬T=a.next+1:=aa
  have bd:∀y f,H.next≤y→y<a.next→a.get y=.cells f 0→(((((a.push (.cells [ai 0,ai 0,ai 0,ai 0,ai 0,ai 0,aq,.ak,aq,.ak] 0)).set a.next (.cells (bX u) 0)).push (.cells (rep [ai 0] n) 0)).set (a.next+1) (.cells (cY u.2) 0)).set T (.cells (C.take (i*2)++[.str (bS u.1),.slice (a.next+1) 0 n (.known n)]++C.drop (i*2+2)) 0)).get y=.cells f 0:=fun y f x c1 h=>by
   have z:¬a.next=y:=aa
   have A:¬a.next+1=y:=aa
   have B:¬T=y:=aa;simp only[go_sem,z,A,B,h]
  refine⟨d.length-(i+1),aa,i+1,C.take (i*2)++[.str (bS u.1),.slice (a.next+1) 0 n (.known n)]++C.drop (i*2+2),f++[.str (bS u.1),.slice (a.next+1) 0 n (.known n)],rfl,aa,fun t l=>?_,?_,?_,?_,?_,?_,?_,?_,fun y x O=>?_,?_⟩
  ·simp(disch:=omega)only[cc];exact m t l
  iterate 4 simp only[go_sem,G,p]
  ·simp only[bt,ep,gF,di,lR];omega
  ·have be:(C.take (i*2)++[V.str (bS u.1),.slice (a.next+1) 0 n (.known n)]).length=(i+1)*2:=by
    simp only[bt,ep,di,lR];omega
   rw[←be,oD,r]
  ·rw[CK w];refine .snoc (v.keep (by simp only[go_sem];omega) bd) ⟨aa,by simp only[go_sem];omega⟩ M ?_;simp only[go_sem,t1]
  ·have z:¬a.next=y:=aa
   have A:¬a.next+1=y:=aa
   have B:¬T=y:=fun e=>O e.symm
   simp only[go_sem,z,A,B];exact j y x O
  ·simp only[go_sem];omega
 ·have bb:i=d.length:=aa;subst bb;have s:decide (((d.length:Nat):Int)<((d.length:Nat):Int))=false:=bp aa;rw[cq aa]at r;rw[cq (aR _)]at v;subst r;simp only[go_sem,Fi,p,q,s];exact hR _ _ C (fun t l=>by simp(disch:=omega)only[cc];exact m t l) v S j bo
theorem ar7(n:Nat)(Y:0<n∧n≤6)(d:List aI)(k:∀t∈d,t.2.length=n)(hs:∀t∈d,t.2.sum≤24)(hq:∀t∈d,bB 1000 t.1)(D:0<d.length∧d.length≤1000)(H:ag)(b:Nat)(c:Cap)(L:List V)(U:GT H)(Q:H.get b=.cells L 0)(ba:b<H.next)(a':5≤b)
 (al:∀i,i.get b=.cells L 0→dN 274 [.slice b 0 d.length c,.func 275 [] []] i fun _ a=>zm b d i a):
 dN 202 [ai (n:Int),.slice b 0 d.length c] H fun v a=>∃T M f,v=.aK [.agg [ai (n:Int),.slice T 0 d.length (.known d.length)],ai 0]∧kK a M n d f∧a.get T=.cells f 0∧H.next≤T∧H.next≤M∧(∀y,y<H.next→y≠b→a.get y=H.get y)∧H.next≤a.next∧T<a.next:=by
 obtain⟨u,A⟩:∃u,d[0]? =some u:=⟨d[0],cH D.1⟩;have B:=er A;have bb:=k u B;have ar:=hs u B;have g:eC (.slice b 0 d.length c)=some (.val (ai (d.length:Int))):=rfl;have I:decide ((d.length:Int)>4096)=false:=bp aa;have J:decide ((d.length:Int)>0)=true:=bw aa;have aw:dY none 10 [.slice b 0 d.length c,ai 0]=some (.val (.ptr b 0)):=cR aa;have ae:slice3 (lK 6 1) false false false [.ptr b 0]=some (.val (.slice b 0 6 (.known 6))):=rfl;have R:¬H.next=b:=aa
 refine bg ak3 ?_;simp only[go_sem,QD,QL,QK,g,I];refine(al _ (by simp only[go_sem,R,Q])).mono ?_;rintro v0 a ⟨G,C,k2,cu,o,a0⟩;have W:GT a:=(U.push aa (.cells [ai 0,.ak] 0)).keep fun y e=>o y aa
 have a2:a.get H.next=.cells [ai 0,.ak] 0:=by rw[o _ aa];simp only[go_sem]
 have a1:∀y,y<H.next→y≠b→a.get y=H.get y:=fun y e m=>by rw[o y m,ag.bE,au aa]
 have be:a.next=H.next+1:=by rw[a0];simp only[go_sem]
 simp only[go_sem,QJ,QI,g,J,aw,ae];have S:cr a (ag.zero a.next) (.slice b 0 6 (.known 6)) (cG (e9 u.2)):=by
  have j:=Y8 (i:=0) cu A (fun t ht=>by have:=k t ht;omega);have ab:(cY (e9 u.2)).length=6:=by rw[jG,sI aa]
  unfold cG;rw[sI aa];refine .row (m:=6) (cs:=cY (e9 u.2)) ?_ aj (ag.gf _ _) (dy.refl _);rw[gj C,eY];rw[jE,eY,eR]at j;rw[eR,ay aa];rw[ay aa]at j;have r:=congrArg (fun x=>x.map (List.take 6)) j;simp only[Option.map_some,List.take_take,Nat.reduceLeDiff,oH]at r;rw[r,bX,JR,qG ab]
 refine(vG (R:=fun v=>v=cC) (.cons S .nil) ((Ju (e9 u.2) (by rw[sI aa];omega) (by rw[JQ];exact ar) _).mono ?_)).mono ?_
 ·rintro _ _ ⟨rfl,rfl⟩;exact⟨_,fun b=>.bool _,rfl⟩
 rintro _ F ⟨rfl,s⟩;rw[s];clear s F;have X:mS 40 [.str [],.ak] [ai (d.length:Int),ai (d.length:Int)]=some (.new (rep [.str [],.ak] d.length) (.slice d.length d.length)):=by rw[iH aa];simp
 simp only[go_sem,g,dZ,X];have z:5≤a.next:=aa
 simp only[go_sem,QH,g];have n1:¬a.next=b:=aa
 have n2:¬a.next+1=b:=aa
 have a5:¬a.next+1=a.next:=aa
 have a6:¬a.next=H.next:=aa
 have E:¬a.next+1=H.next:=aa
 refine ar5 n Y d k hq D.2 b a.next (a.next+1) c G (rep [.str [],.ak] d.length) _ _ _ ?_ ?_ ?_ ?_ ?_ ?_ cu ?_ ?_ ?_ ?_ ?_ ?_ ?_ z aa aa ?_
 iterate 7 simp only[go_sem,n1,n2,C,a5]
 ·rw[Cf];rfl
 ·simp only[go_sem]
 ·exact((W.push z _).push (by simp only[go_sem];omega) _).set aa _
 ·simp only[go_sem];omega
 ·simp only[go_sem];omega
 ·simp only[go_sem];omega
 intro p q f w ap hT l Z;simp only[go_sem]at Z;have K:rd 4 p=.ptr H.next 0:=by rw[w 4 aj];simp only[go_sem]
 have N:rd 6 p=.ptr (a.next+1) 0:=by rw[w 6 aj];simp only[go_sem]
 have O:q.get (a.next+1)=.cells [ai (n:Int),.slice a.next 0 d.length (.known d.length)] 0:=by
  rw[l _ (by simp only[go_sem];omega) aa];simp only[go_sem]
 have P:q.get H.next=.cells [ai 0,.ak] 0:=by
  rw[l _ (by simp only[go_sem];omega) aa];simp only[go_sem,a6,E,a2]
 have m1:¬a.next+1=H.next:=E
 simp only[go_sem,QG,K,N,O,P];refine⟨a.next,_,f,rfl,ap.keep (aR _) fun y a9 e bc h=>?_,?_,aa,?_,fun y e m=>?_,?_⟩
 ·rw[ag.a_,au (by simp only[go_sem]at e;omega)];exact h
 ·rw[au aa];exact hT
 ·simp only[go_sem];omega
 ·have q1:¬a.next=y:=aa
  have a8:¬a.next+1=y:=aa
  rw[au aa,l y (by simp only[go_sem];omega) aa];simp only[go_sem,q1,a8];exact a1 y e m
 ·constructor<;>omega
def m5:List V:=[ai 0,ai 0,ai 0,ai 0,ai 0,ai 0]
variable{d:List Nat}
theorem aoq(h:d.length≤6):cY d++m5.drop d.length=dg d:=by
 unfold dg;rw[show m5=br 6 (V.int .i64 0)from rfl,List.drop_replicate]
variable{z:Nat}{I:Nat}
theorem ag5{X Y:List V}{es:List Nat}(i:c.get a=.cells (X++(m5++Y)) 0)(b:X.length=g)(k:c.get z=.cells (cY es) 0)(n:es.length=I)(q:I≤6)
 (m:f (put o j (ai (I:Int))) (c.set a (.cells (X++(dg es++Y)) 0))):gT j f o (nq 1 [.slice a g 6 (.known 6),.slice z 0 I (.known I)] c):=by
 have p:dO I 6=I:=kf q;have r:dx (cY es) (X++(m5++Y)) g=some (X++(dg es++Y)):=by
  have d:m5.length=6:=rfl;rw[nu,ay (by simp only[bt,jG,d];omega),qG b,←aoq aa];congr 1;rw[eG,eG];congr 2;rw[←b,←List.drop_drop,List.drop_left,List.drop_append_of_le_length (by rw[d,jG];omega),jG]
 have h:nq 1 [.slice a g 6 (.known 6),.slice z 0 I (.known I)] c=some (ai (I:Int),c.set a (.cells (X++(dg es++Y)) 0)):=by
  show av (ec c 1 (dO I 6) (.slice z 0 I (.known I))) (fun s=>av (c.e5 a g s) fun c=>some (V.int .i64 (.ofNat (dO I 6)),c))=_;rw[p];have l:ec c 1 I (.slice z 0 I (.known I))=some (cY es):=by
   show c.dw z 0 (I*1)=_;rw[gj k,eY,dQ,jH (by rw[jG,n])]
  rw[l];show av (c.e5 a g (cY es)) _=_;unfold ag.e5;rw[i];show av (bq (de (cY es)) (av (dx (cY es) (X++(m5++Y)) g) fun e=>some (c.set a (.cells e 0)))) _=_;rw[xy,r];rfl
 rw[h];exact m
theorem anF(a:List Nat)(n:Nat)(i:0<n∧n≤6)(d:a.length=n)(j:a.sum≤24)(H:ag)(e:Nat)(c:Cap)(g:H.get e=.cells (cY a) 0):dN 224 [.slice e 0 n c] H fun v f=>v=cC∧f=H:=by
 have h:cr H (ag.zero H.next) (.slice e 0 n c) (cG a):=by
  unfold cG;rw[d];refine .row (m:=n) (cs:=cY a) ?_ i.1 (ag.gf _ _) (dy.refl _);rw[gj g,eY,jH (by rw[jG,d])]
 refine vG (R:=fun v=>v=cC) (.cons h .nil) ((Ju a aa j _).mono ?_);rintro _ _ ⟨rfl,rfl⟩;exact⟨_,fun b=>.bool _,rfl⟩
theorem aaU(n i:Nat)(u:0<n∧n≤6)(hi:i<2)(x:List UInt8)(q:Rat)(Z:numOf x=some q)(ab:x.length≤500)(a:List Nat)(r:a.length=n)(U:a.sum≤24)(T be e:Nat)(c:Cap)(j A B:List V)(N:cF (eA j (i*2)) 2=some [.str x,.slice e 0 n (.known n)])(F:Fr)(H:ag)(R:X→Fr→ag→Prop)
 (I:rd 0 F=ai (n:Int)) (J:rd 6 F=.slice be 0 2 (.known 2)) (k:rd 21 F=.slice T 0 2 c) (l:rd 22 F=ai 2) (m:rd 23 F=ai (i:Int))
 (K:H.get T=.cells j 0) (o:H.get e=.cells (cY a) 0) (L:H.get be=.cells (A++(m5++([aq,.ak,aq,.ak]++B))) 0) (f:A.length=i*10) (P:GT H) (hT:T<H.next) (he:e<H.next) (hb:be<H.next) (a5:5≤be) (S:e≠be)
 (M:∀b d,(∀t,t<7→rd t b=rd t F)→rd 21 b=.slice T 0 2 c→rd 22 b=ai 2→rd 23 b=ai ((i+1:Nat):Int)→d.get be=.cells (A++(bX (q,a)++B)) 0→(∀y,y<H.next→y≠be→d.get y=H.get y)→H.next≤d.next→R .norm b d):
 bT vz R F H:=by
 have O:decide ((i:Int)<2)=true:=bw aa;have w1:aG .i64 ((i:Int)+1)=((i+1:Nat):Int):=by rw[aQ _ aa];rfl
 have ad:dY none 2 [.slice T 0 2 c,ai (i:Int)]=some (.val (.ptr T (i*2))):=by rw[cR aa];simp
 have ae:dY none 10 [.slice be 0 2 (.known 2),ai (i:Int)]=some (.val (.ptr be (i*10))):=by rw[cR aa];simp
 have n1:¬H.next=T:=aa
 have g:=J8 x ab;rw[B2 Z]at g;unfold cN at g;simp only[go_sem,vz,Et,Ob,k,l,m,O,ad,K,N];refine cy g ((P.push aa _).set aa _) ?_;have v:bP (.agg (cm q))=true:=rfl;have w:cellsOf (.agg (cm q))=cm q:=rfl;have fD:cP (cm q)=4:=rfl;have lB:dx (cm q) [aq,.ak,aq,.ak] 0=some (cm q):=rfl;have mb:de (cm q)=true:=rfl;have al:cF (cm q) 4=some (cm q):=rfl;have Q:eC (.slice e 0 n (.known n))=some (.val (ai (n:Int))):=rfl;have z:¬H.next=e:=aa
 have am:¬H.next=be:=aa
 have ap:¬H.next+1=be:=aa
 have C:¬H.next+1=e:=aa
 have ar:¬be=e:=fun h=>S h.symm
 have D:¬H.next+1=H.next:=aa
 have aw:¬be=H.next:=aa
 simp only[go_sem,v,w,fD,lB,mb,Q,I,D,dZ,decide_true];refine(anF a n u r U _ e (.known n) (by simp only[go_sem,z,C,o])).mono ?_;rintro _ E ⟨rfl,p⟩;rw[p];clear p E;have W:slice3 (lK 6 1) false false false [.ptr be (i*10)]=some (.val (.slice be (i*10) 6 (.known 6))):=rfl;have Y:dx (cm q) (A++(m5++([aq,.ak,aq,.ak]++B))) (i*10+6)=some (A++(m5++(cm q++B))):=by
  have G:A++(m5++([V.bool false,.ak,aq,.ak]++B))=(A++m5)++([aq,.ak,aq,.ak]++B):=aJ;have s:(A++m5).length=i*10+6:=by rw[bt,f];rfl
  rw[G,nu,ay (by simp only[bt,f];show i*10+6+4≤i*10+6+(4+B.length);omega),qG s];congr 1;rw[show i*10+6+(cm q).length=(A++m5).length+4 from by rw[s];rfl,←List.drop_drop,List.drop_left];simp
 simp only[go_sem,dZ,J,ae,W,v,w,fD,mb,al,Y,am,ap,D,aw,L];refine ag5 (X:=A) (Y:=cm q++B) (es:=a) ?_ f ?_ r u.2 ?_
 iterate 2 simp only[go_sem,z,C,ar,o]
 have ba:¬H.next=H.next+1:=aa
 simp only[go_sem,Oa,m,w1];refine M _ _ (fun t ht=>?_) ?_ ?_ ?_ ?_ (fun y hy ac=>?_) ?_
 ·simp(disch:=omega)only[cc]
 iterate 4 simp only[go_sem,k,l,bX,eG]
 ·have q1:¬H.next=y:=aa
  have a1:¬H.next+1=y:=aa
  have a2:¬be=y:=fun h=>ac h.symm
  simp only[go_sem,q1,a1,a2]
 ·simp only[go_sem];omega
theorem ank(n:Nat)(Q:0<n∧n≤6)(u w:List UInt8)(f i:Rat)(ds:numOf u=some f)(dt:numOf w=some i)(d8:u.length≤500)(d9:w.length≤500)(db:f.num≠0)(Z:bB 1000 f)(b2:bB 1000 i)(a e:List Nat)(l1:a.length=n)(l2:e.length=n)(W:a.sum≤24)(Y:e.sum≤24)
 (dk:d6 (.agg (dg a)) (.agg (dg a))=some true) (dq:d6 (.agg (dg e)) (.agg (dg e))=some true) (dp:d6 (.agg (dg e)) (.agg (dg a))=some false) (d5:ord (e9 a) (e9 e)=1) (d7:ord (e9 e) (e9 a)= -1)
 (H:ag) (T o l:Nat) (c:Cap) (N:GT H) (am:H.get T=.cells [.str u,.slice o 0 n (.known n),.str w,.slice l 0 n (.known n)] 0) (cd:H.get o=.cells (cY a) 0) (ce:H.get l=.cells (cY e) 0) (ed:T<H.next) (el:o<H.next) (em:l<H.next) (c':5≤H.next)
 (j:List aI) (s:j=(f,a)::gP (i,e)):
 dN 154 [ai (n:Int),.slice T 0 2 c] H fun v g=>∃k M m,v=.aK [.agg [ai (n:Int),.slice k 0 j.length (.known j.length)],ai 0]∧kK g M n j m∧g.get k=.cells m 0∧H.next≤k∧H.next≤M∧(∀y,y<H.next→g.get y=H.get y)∧H.next≤g.next∧k<g.next:=by
 have a5:gP (f,a)=[(f,a)]:=au db;have S:gP (i,e)=[]∨gP (i,e)=[(i,e)]:=by unfold gP;split<;>simp
 have dd:0<j.length∧j.length≤1000:=by rw[s];rcases S with h|h<;>rw[h]<;>simp
 have P:∀t∈j,t=(f,a)∨t=(i,e):=by
  intro t r;rw[s]at r;rcases gL.1 r with h|h
  ·exact .inl h
  ·rcases S with h2|h2
   ·rw[h2]at h;cases h
   ·rw[h2]at h;exact .inr (dH.1 h)
 have bv:eC (.slice T 0 2 c)=some (.val (ai 2)):=rfl;have d1:decide ((n:Int)<0)=false:=bp aa;have d2:decide ((n:Int)>6)=false:=bp aa;have cp:((1+1:Nat):Int)=2:=rfl;have bs:decide ((2:Int)<2)=false:=rfl;have c2:mS 112 [ai 0,ai 0,ai 0,ai 0,ai 0,ai 0,aq,.ak,aq,.ak] [ai 2,ai 2]=some (.new (m5++([aq,.ak,aq,.ak]++qw)) (.slice 2 2)):=rfl;refine bg akz ?_;simp only[go_sem,N_,Oe,Od,Oc,bv,d1,d2,c2];obtain⟨R,hR⟩:∃R:X→Fr→ag→Prop,R=lX 0 (e_ (bT Eu (gl [gV.cell 4 true 2,gV.tmp 5] fun v g=>∃k M m,v=.aK [.agg [ai (n:Int),.slice k 0 j.length (.known j.length)],ai 0]∧kK g M n j m∧g.get k=.cells m 0∧H.next≤k∧H.next≤M∧(∀y,y<H.next→g.get y=H.get y)∧H.next≤g.next∧k<g.next)) (gl [gV.cell 4 true 2,gV.tmp 5] fun v g=>∃k M m,v=.aK [.agg [ai (n:Int),.slice k 0 j.length (.known j.length)],ai 0]∧kK g M n j m∧g.get k=.cells m 0∧H.next≤k∧H.next≤M∧(∀y,y<H.next→g.get y=H.get y)∧H.next≤g.next∧k<g.next)):=⟨_,rfl⟩
 rw[←hR];have n1:¬H.next=T:=aa
 have n2:¬H.next+1=T:=aa
 have dE:¬H.next=o:=aa
 have dT:¬H.next+1=o:=aa
 have d0:¬H.next=l:=aa
 have d3:¬H.next+1=l:=aa
 have d4:¬H.next+1=H.next:=aa
 refine s0 3 ?_;rw[kI];refine aaU n 0 Q aj u f ds d8 a l1 W T (H.next+1) o c [.str u,.slice o 0 n (.known n),.str w,.slice l 0 n (.known n)] [] qw rfl _ _ _ ?_ ?_ ?_ ?_ ?_ ?_ ?_ ?_ rfl ?_ ?_ ?_ ?_ aa aa ?_
 iterate 4 simp only[go_sem]
 ·simp only[go_sem];rfl
 iterate 2 simp only[go_sem,n1,n2,am,dE,dT,cd]
 ·simp only[go_sem];rfl
 ·exact(N.push c' _).push (by simp only[go_sem];omega) _
 ·simp only[go_sem];omega
 ·simp only[go_sem];omega
 ·simp only[go_sem];omega
 intro B g D ad ae al ap A da;simp only[go_sem]at da;have I:rd 0 B=ai (n:Int):=by rw[D 0 aj];simp only[go_sem]
 have J:rd 6 B=.slice (H.next+1) 0 2 (.known 2):=by rw[D 6 aj];simp only[go_sem]
 have ac:rd 4 B=.ptr H.next 0:=by rw[D 4 aj];simp only[go_sem]
 have a6:g.get T=.cells [.str u,.slice o 0 n (.known n),.str w,.slice l 0 n (.known n)] 0:=by rw[A T (by simp only[go_sem];omega) aa];simp only[go_sem,n1,n2,am]
 have a7:g.get l=.cells (cY e) 0:=by rw[A l (by simp only[go_sem];omega) aa];simp only[go_sem,d0,d3,ce]
 have a9:g.get H.next=.cells [ai 0,.ak] 0:=by rw[A _ (by simp only[go_sem];omega) aa];simp only[go_sem,d4]
 have U:∀y,y<H.next→g.get y=H.get y:=fun y p=>by
  rw[A y (by simp only[go_sem];omega) aa];have f:¬H.next=y:=aa
  have i:¬H.next+1=y:=aa
  simp only[go_sem,f,i]
 have a2:GT g:=N.keep fun y p=>U y aa
 clear A D;show oE eW 5 vz R 2 B g;rw[kI];refine aaU n 1 Q aj w i dt d9 e l2 Y T (H.next+1) l c [.str u,.slice o 0 n (.known n),.str w,.slice l 0 n (.known n)] (bX (f,a)) [] rfl _ _ _ I J ad ae al a6 a7 ?_ (kO (t:=(f,a)) (by show a.length≤6;omega)) a2 aa aa aa aa aa ?_
 ·rw[ap];rfl
 intro C q E auI aic ca ar O eq;have b0:rd 0 C=ai (n:Int):=by rw[E 0 aj];exact I
 have b':rd 6 C=.slice (H.next+1) 0 2 (.known 2):=by rw[E 6 aj];exact J
 have b1:rd 4 C=.ptr H.next 0:=by rw[E 4 aj];exact ac
 have du:q.get H.next=.cells [ai 0,.ak] 0:=by rw[O _ aa aa];exact a9
 have a8:∀y,y<H.next→q.get y=H.get y:=fun y p=>by rw[O y aa aa];exact U y p
 have a3:GT q:=N.keep fun y p=>a8 y aa
 rw[fA]at ar;clear O E I J ac a6 a7 a9 U a2 ad ae al ap;show oE eW 5 vz R 1 C q;rw[kI];simp only[go_sem,vz,Et,aic,ca,cp,bs,hR];have m1:¬q.next=H.next+1:=aa
 have bb:((f,a):aI).2.length≤6:=by show a.length≤6;omega
 have bc:((i,e):aI).2.length≤6:=by show e.length≤6;omega
 simp only[go_sem,Eu,b0,b'];refine(agc (f,a) (i,e) bb bc dk dq dp Z b2 _ q.next (H.next+1) (.known 1) (.known 2) (a3.push aa _) ?_ ?_ ?_ ?_ ?_).mono ?_
 iterate 2 simp only[go_sem,m1,ar]
 ·simp only[go_sem];omega
 ·simp only[go_sem];omega
 ·simp only[go_sem];omega
 rintro _ G ⟨d,b,L,hd,rfl,cb,aw,F,ch,ci,c1⟩;simp only[go_sem]at ch;have z:fI (f,a) (i,e) d=(f,a)::gP (i,e)∨fI (f,a) (i,e) d=gP (i,e)++[(f,a)]:=by
  rcases hd with rfl|rfl
  ·left;show gP (f,a)++(gP (i,e)++[])=_;rw[a5,fA];rfl
  ·right;show gP (i,e)++(gP (f,a)++[])=_;rw[a5];rfl
 have c0:(fI (f,a) (i,e) d).length=j.length:=by
  rw[s];rcases z with h|h<;>rw[h]<;>simp[iy]
 have V:∀y,y<H.next+1→G.get y=q.get y:=fun y p=>by
  rw[c1 y (by simp only[go_sem];omega)];have f:¬q.next=y:=aa
  simp only[go_sem,f]
 have cs:GT G:=a3.keep fun y p=>V y aa
 have df:∀x,x.get b=.cells L 0→dN 274 [.slice b 0 j.length (.known 2),.func 275 [] []] x fun _ g=>zm b j x g:=by
  intro x a1;rcases S with h2|h2
  ·rw[h2]at z s;have K:fI (f,a) (i,e) d=[(f,a)]:=by rcases z with h|h<;>exact h
   rw[K]at F;rw[s];exact aqA (f,a) x b (.known 2) L a1 aw F
  ·rw[h2]at z s;have K:(fI (f,a) (i,e) d).length=2:=by rcases z with h|h<;>rw[h]<;>rfl
   rw[K]at F;rw[s];exact aqB (f,a) (i,e) bb bc W Y d5 d7 _ z x b (.known 2) L a1 aw F
 rw[c0];simp only[go_sem];refine(ar7 n Q j (fun t r=>?_) (fun t r=>?_) (fun t r=>?_) dd G b (.known 2) L cs cb ci aa df).mono ?_
 ·rcases P t r with rfl|rfl
  ·exact l1
  ·exact l2
 ·rcases P t r with rfl|rfl
  ·exact W
  ·exact Y
 ·rcases P t r with rfl|rfl
  ·exact Z
  ·exact b2
 rintro _ H4 ⟨k,M,m,rfl,dl,cf,eb,ea,a4,es,eh⟩;have dv:H4.get H.next=.cells [ai 0,.ak] 0:=by rw[a4 _ aa aa,V _ aa,du]
 simp only[go_sem,b1,dv];refine⟨k,M,m,rfl,dl.keep (aR _) fun y d' p et h=>?_,?_,aa,aa,fun y p=>?_,aa,aa⟩
 ·rw[ag.a_,au aa];exact h
 ·rw[au aa];exact cf
 ·rw[au aa,a4 y aa aa,V y aa,a8 y p]
def U(n i:Nat):List Nat:=(br n 0).set i 1
def Z(n:Nat):List Nat:=br n 0
def g_(n i:Nat)(a b:Rat):List aI:=(a,U n i)::gP (b,Z n)
structure zo (n i:Nat):Prop where
 hn:0<n∧n≤2
 hi:i<n
 l1:(U n i).length=n
 l2:(Z n).length=n
 s1:(U n i).sum≤24
 s2:(Z n).sum≤24
 ajc:d6 (.agg (dg (U n i))) (.agg (dg (U n i)))=some true
 ajh:d6 (.agg (dg (Z n))) (.agg (dg (Z n)))=some true
 hts:d6 (.agg (dg (Z n))) (.agg (dg (U n i)))=some false
 aob:ord (e9 (U n i)) (e9 (Z n))=1
 aoc:ord (e9 (Z n)) (e9 (U n i))= -1
 I_:rep [V.int .i64 0] n=cY (Z n)
 st:dx [V.int .i64 1] (cY (Z n)) i=some (cY (U n i))
theorem uT(n i:Nat)(b:n=1∨n=2)(a:i<n):zo n i:=by
 have h:(n=1∧i=0)∨(n=2∧i=0)∨(n=2∧i=1):=aa;rcases h with⟨rfl,rfl⟩|⟨rfl,rfl⟩|⟨rfl,rfl⟩<;>exact⟨aj,aj,rfl,rfl,aj,aj,rfl,rfl,rfl,aj,aj,rfl,rfl⟩
theorem ah9{d:Cap}(i:0<g)(j:0<l.length)(h:kK c a g l b)(hT:c.get z=.cells b 0)(f:J.get z=.none)(e:∀y,a≤y→J.get y=.none):cr c J (.slice z 0 l.length d) (eE l):=by
 refine .row (m:=l.length*2) (cs:=b) ?_ aa f (h.aia i e);rw[gj hT,eY,jH h.len]
theorem acB(n i:Nat)(H:n=1∨n=2)(F:i<n)(a s:List UInt8)(c d:Rat)(B:numOf a=some c)(I:numOf s=some d)(O:a.length≤500)(P:s.length≤500)(C:c.num≠0)(u:bB 1000 c)(bs:bB 1000 d):
 ff 99 [ai (n:Int),ai (i:Int),.str a,.str s] (g6 n (g_ n i c d)):=by
 have b:=uT n i H F;have p:=b.hn;have A:=b.I_;have J:=b.st;have G:mS 8 [ai 0] [ai (n:Int),ai (n:Int)]=some (.new (cY (Z n)) (.slice n n)):=by rw[iH aa,←A];simp
 have L:dY none 1 [.slice 6 0 n (.known n),ai (i:Int)]=some (.val (.ptr 6 i)):=by rw[cR aa];simp
 have D:bZ (g6 n (g_ n i c d)):=tY n _;refine fK (.cons (.int _ _) (.cons (.int _ _) (.cons (.str _) (.cons (.str _) .nil)))) (bg amx ?_);simp only[go_sem,X_,Yd,Yc,Yb,G,L,J];have k:GT (((((dG.push (.cells [ai 0,.ak] 0)).push (.cells (cY (Z n)) 0)).set 6 (.cells (cY (U n i)) 0)).push (.cells (cY (Z n)) 0)).push (.cells [.str a,.slice 6 0 n (.known n),.str s,.slice 7 0 n (.known n)] 0)):=cl;obtain⟨e,g⟩:∃e,e=((((dG.push (.cells [ai 0,.ak] 0)).push (.cells (cY (Z n)) 0)).set 6 (.cells (cY (U n i)) 0)).push (.cells (cY (Z n)) 0)).push (.cells [.str a,.slice 6 0 n (.known n),.str s,.slice 7 0 n (.known n)] 0):=⟨_,rfl⟩;have v:e.get 5=.cells [ai 0,.ak] 0:=by rw[g];simp only[go_sem]
 have w:e.get 6=.cells (cY (U n i)) 0:=by rw[g];simp only[go_sem]
 have bO:e.get 7=.cells (cY (Z n)) 0:=by rw[g];simp only[go_sem]
 have eV:e.get 8=.cells [.str a,.slice 6 0 n (.known n),.str s,.slice 7 0 n (.known n)] 0:=by rw[g];simp only[go_sem]
 have W:e.next=9:=by rw[g];simp only[go_sem]
 rw[←g]at k⊢;clear g;refine(ank n ⟨p.1,aa⟩ a s c d B I O P C u bs (U n i) (Z n) b.l1 b.l2 b.s1 b.s2 b.ajc b.ajh b.hts b.aob b.aoc e 8 6 7 (.known 2) k eV w bO aa aa aa aa (g_ n i c d) rfl).mono ?_;rintro _ f ⟨j,M,R,rfl,K,x,V,T,o,X,z⟩;have N:f.get 5=.cells [ai 0,.ak] 0:=by rw[o 5 aa,v]
 have E:GT f:=k.keep fun y l=>o y aa
 have Q:¬f.next=5:=aa
 simp only[go_sem,Ya,Q,N];have m:∀y,6≤y→y<f.next→(((f.push (.cells [ai 0,.ak] 0)).set f.next (.cells [ai (n:Int),.slice j 0 (g_ n i c d).length (.known (g_ n i c d).length)] 0)).set 5 (.cells [ai (n:Int),.slice j 0 (g_ n i c d).length (.known (g_ n i c d).length)] 0)).get y=f.get y:=fun y l q=>by
  have r:¬f.next=y:=aa
  have t:¬5=y:=aa;simp only[go_sem,r,t]
 refine⟨((E.push aa _).set aa _).set aa _,_,.agg (.cons (.same _) (.cons (ah9 p.1 (by unfold g_;simp) (K.keep (by simp only[go_sem];omega) fun y S l q h=>(m y aa q).trans h) ((m j aa z).trans x) ?_ fun y l=>?_) .nil)),D,rfl⟩
 ·rw[ag.ua,lq,au aa,au aa,au aa]
 ·rw[ag.ua,lq,au aa,au aa,au aa]
def ab2:ah:=(.aH [ex 14 (mv (rd 12)),ex 15 (dX none 2 (rd 10) (rd 12)),ex 16 (ct true 2 (rd 15)),ex 8 (alloc [(.str []),(.str [])]),ex 7 (fq (rd 14)),eP (st 2 (rd 8) (rd 16))])
def Ci:ah:=(.seq (.aH [ex 17 (fa 0 (rd 8)),ex 18 (ct false 1 (rd 17)),ex 19 (bs .neq (rd 18) (kc (.str [])))]) (.cond (rd 19) (.aH [ex 20 (mv (rd 6)),ex 21 (fa 0 (rd 3)),ex 22 (ct false 1 (rd 21)),ex 23 (fF (rd 22)),ex 24 (mv (rd 7)),ex 25 (fa 0 (rd 8)),ex 26 (ct false 1 (rd 25)),ex 27 (bF 100 [(rd 26)]),re 22 (ct false 1 (rd 21)),ex 28 (bF 99 [(rd 23),(rd 24),(kc (.str [49])),(rd 27)]),ex 29 (cW 1 [(0,2)] [(ai 0),.ak] [(rd 28)]),ex 30 (ap 2 32 (rd 20) (rd 29)),ex 6 (fq (rd 30))]) .skip))
def Kb:ah:=(.aH [ex 31 (fa 1 (rd 8)),ex 32 (ct false 1 (rd 31)),ex 33 (bs .neq (rd 32) (kc (.str [])))])
def Kc:ah:=(.cond (rd 33) (.aH [ex 34 (mv (rd 6)),ex 35 (fa 0 (rd 3)),ex 36 (ct false 1 (rd 35)),ex 37 (fF (rd 36)),ex 38 (mv (rd 7)),ex 39 (fa 1 (rd 8)),ex 40 (ct false 1 (rd 39)),ex 41 (bF 99 [(rd 37),(rd 38),(kc (.str [45,49])),(rd 40)]),ex 42 (cW 1 [(0,2)] [(ai 0),.ak] [(rd 41)]),ex 43 (ap 2 32 (rd 34) (rd 42)),ex 6 (fq (rd 43))]) .skip)
def jm(H:ag):Prop:=∀y,y<5→H.get y=dG.get y
theorem jm.gt(h:jm c):GT c:=fun y a e=>by rw[h y (yX.cells e).1];exact e
theorem ajb:jm dG:=fun _ _=>rfl
theorem jm.keep(h:jm c)(b:∀y,y<5→J.get y=c.get y):jm J:=fun y a=>(b y a).trans (h y a)
theorem jm.set(h:jm c)(b:5≤a)(o:eg):jm (c.set a o):=h.keep fun y d=>by rw[ag.a_,au aa]
theorem jm.push(h:jm c)(a:5≤c.next)(o:eg):jm (c.push o):=h.keep fun y b=>by rw[ag.bE,au aa]
theorem jm.aa'(h:jm c)(d:a<5)(b f:Nat):c.get a≠ .b5 b f:=by
 rw[h a d,lq];intro e;split at e
 ·cases e
 ·split at e
  ·cases e
  ·split at e<;>cases e
theorem jm.cells(h:jm c)(d:a<5)(e:c.get a=.cells b g):g=0:=by
 rw[h a d]at e;exact(yX.cells e).2.1
def nx(x:List UInt8):Prop:=x=[]∨((numOf x).isSome=true∧x.length≤20)
variable{i:List UInt8}
theorem nx.num(h:nx i)(d:i≠[]):numOf i=some (rv i)∧bB 81 (rv i)∧i.length≤500:=by
 rcases h with h|⟨b,c⟩
 ·exact absurd h d
 ·obtain⟨q,a⟩:=Option.isSome_iff_exists.1 b;exact⟨by rw[mq a];exact a,mo (L:=20) c,aa⟩
theorem Ip:dec 1=[49]:=ags.2 rfl
theorem ark:bS (1:Rat)=[49]:=by
 unfold bS;rw[au aj,show(1:Rat).num.natAbs=1 from rfl,Ip,ay (show(1:Rat).den=1 from rfl)];rfl
theorem arp:bS (-1:Rat)=[45,49]:=by
 unfold bS;rw[ay aj,show(-1:Rat).num.natAbs=1 from rfl,Ip,ay (show(-1:Rat).den=1 from rfl)];rfl
theorem J1:bB 1 1:=⟨aj,aj⟩
theorem J0:bB 1 (-1):=⟨aj,aj⟩
theorem an':numOf [49]=some 1:=by have:=uD 1;rwa[ark]at this
theorem an_:numOf [45,49]=some (-1):=by have:=uD (-1);rwa[arp]at this
def oZ(n i:Nat)(x:List UInt8):List (List aI):=if x=[]then []else [g_ n i 1 (-(rv x))]
def p_(n i:Nat)(x:List UInt8):List (List aI):=if x=[]then []else [g_ n i (-1) (rv x)]
variable{y:Rat}
theorem wE(h:bB a y):bB a (-y):=⟨by rw[Rat.neg_num,lO];exact h.num,by rw[Rat.neg_den];exact h.den⟩
theorem apI(n:Nat)(O:n=1∨n=2)(i:Nat)(L:i<n)(a M:List UInt8)(N:nx a)(bs:List dc)(J:bs.length=n)(x:Nat)(v:V)(f:List V)(g:Nat)(F:Fr)(H:ag)(R:X→Fr→ag→Prop)(K:Fr→ag→Prop)
 (C:rd 3 F=.ptr 6 0) (m:rd 6 F=v) (D:rd 7 F=ai (i:Int)) (o:rd 8 F=.ptr x 0) (p:H.get 6=.cells [ej ek bs] 0) (q:H.get x=.cells [.str a,.str M] 0) (d:bu H 2 v f g) (ac:f.length≤1000) (c:jm H) (Z:8≤H.next) (ab:x<H.next)
 (s:∀j b A E,(∀t,t<13→t≠6→rd t j=rd t F)→rd 6 j=A→bu b 2 A (f++fG n (oZ n i a)) E→(∀y k,y<H.next→H.get y=.cells k 0→b.get y=.cells k 0)→jm b→H.next≤b.next→K j b):
 bT Ci (e_ K R) F H:=by
 by_cases e:a=[]
 ·subst e;simp only[go_sem,Ci,o,q,decide_true,dZ];refine s _ _ v g (fun t Q _=>?_) ?_ ?_ (fun _ _ _ h=>h) c (aR _)
  ·simp(disch:=omega)only[cc]
  ·simp only[go_sem,m]
  ·show bu H 2 v (f++[]) g;rw[fA];exact d
 ·obtain⟨W,r,I⟩:=N.num e;have P:=anT a I;have u:=acB n i O L [49] (bS (-(rv a))) 1 (-(rv a)) an' (uD _) aj (by have:=ac6 (q:= -(rv a)) ((wE r).mono aj);omega) aj (J1.mono aj) ((wE r).mono aj);have B:eC (ej ek bs)=some (.val (ai (n:Int))):=by rw[←J];rfl
  have w:de (eJ n (g_ n i 1 (-(rv a))))=true:=rfl;unfold g6 eJ at u;unfold eJ at w;simp only[go_sem,Ci,C,m,D,o,p,q,bp e,gS,B];refine cy P c.gt ?_;simp only[go_sem,p,true_and];refine cy u c.gt ?_;simp only[go_sem];refine jR (bytes:=32) d rfl aj w ⟨aa,aj⟩ fun T U G S ad z ae=>?_
  simp only[go_sem];refine s _ _ T G (fun t Q Y=>?_) ?_ ?_ (fun y k l h=>(z y l (d.ne h)).trans h) (c.keep fun y l=>z y aa (d.r6 (c.aa' l))) aa
  ·simp(disch:=omega)only[cc]
  ·simp only[go_sem]
  ·rw[oZ,au e];simpa [fG,eJ]using S
def Cj:ah:=.seq Kb Kc
theorem apJ(n:Nat)(N:n=1∨n=2)(i:Nat)(M:i<n)(P a:List UInt8)(L:nx a)(bs:List dc)(K:bs.length=n)(x:Nat)(v:V)(f:List V)(g:Nat)(F:Fr)(H:ag)(R:X→Fr→ag→Prop)
 (A:rd 3 F=.ptr 6 0) (m:rd 6 F=v) (B:rd 7 F=ai (i:Int)) (o:rd 8 F=.ptr x 0) (E:H.get 6=.cells [ej ek bs] 0) (p:H.get x=.cells [.str P,.str a] 0) (d:bu H 2 v f g) (Z:f.length≤1000) (c:jm H) (W:8≤H.next) (Y:x<H.next)
 (q:∀j b w C,(∀t,t<13→t≠6→rd t j=rd t F)→rd 6 j=w→bu b 2 w (f++fG n (p_ n i a)) C→(∀y k,y<H.next→H.get y=.cells k 0→b.get y=.cells k 0)→jm b→H.next≤b.next→R .norm j b):
 bT Cj R F H:=by
 by_cases e:a=[]
 ·subst e;simp only[go_sem,Cj,Kb,Kc,o,p,decide_true,dZ];refine q _ _ v g (fun t O _=>?_) ?_ ?_ (fun _ _ _ h=>h) c (aR _)
  ·simp(disch:=omega)only[cc]
  ·simp only[go_sem,m]
  ·show bu H 2 v (f++[]) g;rw[fA];exact d
 ·obtain⟨G,I,J⟩:=L.num e;have r:=acB n i N M [45,49] a (-1) (rv a) an_ G aj J aj (J0.mono aj) (I.mono aj);have z:eC (ej ek bs)=some (.val (ai (n:Int))):=by rw[←K];rfl
  have s:de (eJ n (g_ n i (-1) (rv a)))=true:=rfl;unfold g6 eJ at r;unfold eJ at s;simp only[go_sem,Cj,Kb,Kc,A,m,B,o,E,p,bp e,gS,z];refine cy r c.gt ?_;simp only[go_sem];refine jR (bytes:=32) d rfl aj s ⟨aa,aj⟩ fun S T D Q ab u ac=>?_
  simp only[go_sem];refine q _ _ S D (fun t O U=>?_) ?_ ?_ (fun y k l h=>(u y l (d.ne h)).trans h) (c.keep fun y l=>u y aa (d.r6 (c.aa' l))) aa
  ·simp(disch:=omega)only[cc]
  ·simp only[go_sem]
  ·rw[p_,au e];simpa [fG,eJ]using Q
theorem afr:WD=(.seq (.block 1 (.seq ab2 (.seq Ci Cj))) HH):=rfl
def gI(n:Nat):Nat→List dc→List (List aI)
 |_,[]=>[]
 |j,s::l=>oZ n j s.1++p_ n j s.2++gI n (j+1) l
theorem ab4(n:Nat)(s:dc):∀(j:Nat) (l:List dc),gI n j (l++[s])=gI n j l++(oZ n (j+l.length) s.1++p_ n (j+l.length) s.2)
 |j,[]=>by simp[gI]
 |j,a::l=>by
  simp only[fm,gI,ab4 n s (j+1) l,di,eG];rw[(aa:j+1+l.length=j+(l.length+1))]
theorem aaK(n i:Nat)(x:List UInt8):(oZ n i x).length≤1:=by unfold oZ;split<;>simp
theorem ai'(n i:Nat)(x:List UInt8):(p_ n i x).length≤1:=by unfold p_;split<;>simp
theorem Ck(n:Nat):∀(j:Nat) (l:List dc),(gI n j l).length≤2*l.length
 |_,[]=>aR 0
 |j,s::l=>by
  have:=Ck n (j+1) l;have:=aaK n j s.1;have:=ai' n j s.2;simp only[gI,bt,di];omega
variable{h:Type}
theorem yZ{l:List h}{t:h}(b:l[a]? =some t):l.take (a+1)=l.take a++[t]:=by
 obtain⟨c,rfl⟩:=fo.1 b;exact jZ c
def Lg(n:Nat)(bs:List dc)(a:List V)(k:Nat)(F:Fr)(H:ag):Prop:=∃(i:Nat) (v:V) (g:Nat),k=n-i∧i≤n∧rd 2 F=.ptr 5 0∧rd 3 F=.ptr 6 0∧rd 4 F=.ptr 7 0∧rd 6 F=v∧rd 10 F=ej ek bs∧rd 11 F=ai (n:Int)∧rd 12 F=ai (i:Int)∧
 H.get 5=.cells a 0∧H.get 6=.cells [ej ek bs] 0∧H.get 7=.cells [.ak,ai 0,.ak,.ak,.ak] 0∧jm H∧8≤H.next∧bu H 2 v (fG n (gI n 0 (bs.take i))) g
theorem apK(n:Nat)(O:n=1∨n=2)(bs:List dc)(L:bs.length=n)(a2:∀s∈bs,nx s.1∧nx s.2)(B:List V)(F:Fr)(H:ag)(R:X→Fr→ag→Prop)(k:Nat)(hI:Lg n bs B k F H)
 (hR:∀f c v g,rd 2 f=.ptr 5 0→rd 4 f=.ptr 7 0→rd 6 f=v→c.get 5=.cells B 0→c.get 6=.cells [ej ek bs] 0→c.get 7=.cells [.ak,ai 0,.ak,.ak,.ak] 0→jm c→8≤c.next→bu c 2 v (fG n (gI n 0 bs)) g→R (.exit 0) f c):
 bT (.loop HJ) R F H:=by
 refine bW (Lg n bs B) k hI ?_;rintro m a7 a ⟨i,v,g,rfl,a',E,r,G,I,D,p,q,J,l,bO,K,a0,w⟩;unfold HJ;by_cases N:i<n
 ·obtain⟨s,A⟩:∃s,bs[i]? =some s:=⟨bs[i],cH aa⟩;have a3:=a2 s (er A);have C:=o9 rB A;have t:decide ((i:Int)<(n:Int))=true:=bw aa;have w1:aG .i64 ((i:Int)+1)=((i+1:Nat):Int):=by rw[aQ _ aa];rfl
  have ar:=mP (f:=ek) (k:=2) (l:=bs) (i:=(i:Int)) (ik:=.i64) aa;have a4:=Ck n 0 (bs.take i);rw[ep]at a4;have bb:=qv n (gI n 0 (bs.take i));obtain⟨e,x⟩:=s;obtain⟨Q,S⟩:=a3;simp only at Q S;simp only[ek]at C;simp only[go_sem,HI,afr,ab2,D,p,q,t,ar,bN,C];have be:¬a.next=5:=aa
  have bi:¬a.next=6:=aa
  have bj:¬a.next=7:=aa
  have z:∀y,y<a.next→((a.push (.cells [.str [],.str []] 0)).set a.next (.cells [.str e,.str x] 0)).get y=a.get y:=fun y P=>by
   rw[ag.a_,au aa,ag.bE,au aa]
  refine apI n O i N e x Q bs L a.next v _ g _ _ _ _ ?_ ?_ ?_ ?_ ?_ ?_ (w.low z (by simp only[go_sem];omega)) aa ((K.push aa _).set aa _) ?_ ?_ ?_
  iterate 4 simp only[go_sem,r,I]
  ·rw[z 6 aa];exact l
  ·simp only[go_sem]
  ·simp only[go_sem];omega
  ·simp only[go_sem];omega
  intro a8 U v2 g2 b Y am M ac a1;simp only[go_sem]at a1;have ll:=aaK n i e;have bc:=qv n (oZ n i e);have o:∀y j,y<a.next→a.get y=.cells j 0→U.get y=.cells j 0:=fun y j P h=>M y j (by simp only[go_sem];omega) ((z y P).trans h)
  refine apJ n O i N e x S bs L a.next v2 _ g2 _ _ _ ?_ Y ?_ ?_ (o 6 _ aa l) ?_ am ?_ ac aa aa ?_
  ·rw[b 3 aj aj];simp only[go_sem,r]
  ·rw[b 7 aj aj];simp only[go_sem]
  ·rw[b 8 aj aj];simp only[go_sem]
  ·refine M _ _ (by simp only[go_sem];omega) ?_;simp only[go_sem]
  ·rw[bt];omega
  intro T H3 v3 g3 d Z ap u ad ba;have W:rd 12 T=ai (i:Int):=by rw[d 12 aj aj,b 12 aj aj];simp only[go_sem,q]
  simp only[go_sem,HH,W,w1];refine⟨n-(i+1),aa,i+1,v3,g3,rfl,aa,?_,?_,?_,?_,?_,?_,?_,u _ _ aa (o _ _ aa J),u _ _ aa (o _ _ aa l),u _ _ aa (o _ _ aa bO),ad,aa,?_⟩
  ·simp only[go_sem];rw[d 2 aj aj,b 2 aj aj];simp only[go_sem,E]
  ·simp only[go_sem];rw[d 3 aj aj,b 3 aj aj];simp only[go_sem,r]
  ·simp only[go_sem];rw[d 4 aj aj,b 4 aj aj];simp only[go_sem,G]
  ·simp only[go_sem];exact Z
  ·simp only[go_sem];rw[d 10 aj aj,b 10 aj aj];simp only[go_sem,D]
  ·simp only[go_sem];rw[d 11 aj aj,b 11 aj aj];simp only[go_sem,p]
  ·simp only[go_sem]
  ·rw[yZ A,ab4,ep,fB,oH aa,uU,uU,←eG];exact ap
 ·have aw:i=n:=aa;subst aw;have t:decide ((i:Int)<(i:Int))=false:=bp aa;rw[cq aa]at w;simp only[go_sem,HI,p,q,t];refine hR _ _ v g ?_ ?_ ?_ J l bO K a0 w
  iterate 3 simp only[go_sem,E,G,I]
theorem JO(n i:Nat)(b:n=1∨n=2)(a:i<n):ord (U n i) (Z n)=1:=by
 have h:(n=1∧i=0)∨(n=2∧i=0)∨(n=2∧i=1):=aa;rcases h with⟨rfl,rfl⟩|⟨rfl,rfl⟩|⟨rfl,rfl⟩<;>decide
theorem acz(n i:Nat)(h:n=1∨n=2)(g:i<n)(c d:Rat)(e:bB 100 c)(f:c.num≠0)(j:bB 100 d):pQ n (g_ n i c d):=by
 have a:=uT n i h g;unfold g_ gP;by_cases b:d.num=0
 ·rw[ay b];exact⟨fun t ht=>by rw[dH.1 ht];exact⟨e,f,a.l1,a.s1⟩,List.pairwise_singleton _ _,aJ⟩
 ·rw[au b];refine⟨fun t ht=>?_,?_,aJ⟩
  ·rcases gL.1 ht with rfl|ht
   ·exact⟨e,f,a.l1,a.s1⟩
   ·rw[dH.1 ht];exact⟨j,b,a.l2,a.s2⟩
  ·refine rM.2 ⟨fun t ht=>?_,List.pairwise_singleton _ _⟩;rw[dH.1 ht];exact JO n i h g
theorem ab3(n:Nat)(b:n=1∨n=2):∀(j:Nat) (l:List dc),j+l.length≤n→(∀s∈l,nx s.1∧nx s.2)→∀q∈gI n j l,pQ n q
 |_,[],_,_,q,hq=>by cases hq
 |j,s::l,e,d,q,hq=>by
  rw[di]at e;have a:=d s aJ;rw[gI]at hq;rcases gU.1 hq with hq|hq
  ·rcases gU.1 hq with hq|hq
   ·unfold oZ at hq;split at hq
    ·cases hq
    ·rename_i c;rw[dH.1 hq];exact acz n j b aa _ _ (J1.mono aj) aj ((wE (a.1.num c).2.1).mono aj)
   ·unfold p_ at hq;split at hq
    ·cases hq
    ·rename_i c;rw[dH.1 hq];exact acz n j b aa _ _ (J0.mono aj) aj ((a.2.num c).2.1.mono aj)
  ·exact ab3 n b (j+1) l aa (fun s a=>d s (by simp[a])) q hq
theorem apw(p:iO)(h:p.aM)(bs:List dc)(k:bs.length=p.n)(o:∀s∈bs,nx s.1∧nx s.2):ff 54 [je p,hY bs] (.aK [kM p.n p.obj (p.is++gI p.n 0 bs) p.es,ai 0]):=by
 have c:=h.n;have J:=Ck p.n 0 bs;have E:=ab3 p.n c 0 bs aa o;have d:=ahv p h (gI p.n 0 bs) E aa;have C:bZ (.aK [kM p.n p.obj (p.is++gI p.n 0 bs) p.es,ai 0]):=.aK (.cons (tV _ c _ _ _) (.cons (.int _ _) .nil));refine fK (.cons (r8 p c) (.cons (qV bs) .nil)) (Ie hT cA fJ aar.1 aar.2 rfl 3 50 rfl rfl ?_);unfold je hY;simp only[go_sem,WC,WH,WG,ah.cutAt,k];refine apK p.n c bs k o (oL p) _ _ _ p.n ⟨0,.ak,0,rfl,ck _,?_,?_,?_,?_,?_,?_,?_,?_,?_,?_,?_,?_,.nil⟩ ?_
 iterate 6 simp only[go_sem]
 ·simp only[go_sem];rfl
 ·simp only[go_sem];rfl
 iterate 2 simp only[go_sem]
 ·exact((ajb.push aj _).push (by simp only[go_sem];decide) _).push (by simp only[go_sem];decide) _
 ·simp only[go_sem];decide
 intro a b v g w x z i A bO j I D;have m:∀y f g,y<8→b.get y=.cells f g→g=0:=fun y f g F e=>by
  by_cases B:y<5
  ·exact j.cells B e
  ·rcases(aa:y=5∨y=6∨y=7)with rfl|rfl|rfl
   ·rw[i]at e;cases e;rfl
   ·rw[A]at e;cases e;rfl
   ·rw[bO]at e;cases e;rfl
 rw[fu];simp only[go_sem];refine KT (b.low 8) (fun t=>if t=6 then cK p.n (gI p.n 0 bs)else if t=2∨t=4 then rd t a else .any) (Im aj m) (fun t K=>?_) ?_
 ·show cr _ _ _ (if t=6 then _ else _);by_cases h:t=6
  ·subst h;rw[ay rfl,z];exact D.I3 aj m (qv _ _)
  ·rw[au h];split
   ·exact .same _
   ·exact .any _
 have q:rd 2 (ke (fun t=>if t=6 then cK p.n (gI p.n 0 bs)else if t=2∨t=4 then rd t a else .any) 50)=.ptr 5 0:=by rw[o8 _ aj];exact w
 have r:rd 4 (ke (fun t=>if t=6 then cK p.n (gI p.n 0 bs)else if t=2∨t=4 then rd t a else .any) 50)=.ptr 7 0:=by rw[o8 _ aj];exact x
 have u:rd 6 (ke (fun t=>if t=6 then cK p.n (gI p.n 0 bs)else if t=2∨t=4 then rd t a else .any) 50)=cK p.n (gI p.n 0 bs):=by rw[o8 _ aj];rfl
 generalize ke (fun t=>if t=6 then cK p.n (gI p.n 0 bs)else if t=2∨t=4 then rd t a else .any) 50=H at q r u
 have G:(b.low 8).get 5=.cells (oL p) 0:=by rw[ag.oU,ay aj];exact i
 have fD:(b.low 8).get 7=.cells [.ak,ai 0,.ak,.ak,.ak] 0:=by rw[ag.oU,ay aj];exact bO
 have l:GT (b.low 8):=j.gt.keep fun y F=>by rw[ag.oU,ay aa]
 unfold je at d;unfold kM iB at d;simp only[go_sem,WE,q,u,G,oL];refine cy d l ?_;simp only[go_sem,r,fD];exact cX (l.set aj _) rfl C
def KQ:ah:=(.aH [ex 17 (dX none 2 (rd 13) (rd 15)),ex 18 (ct true 2 (rd 17)),ex 6 (alloc [(.str []),(.str [])]),eP (st 2 (rd 6) (rd 18))])
def zb:ah:=(.seq (.aH [ex 19 (fa 0 (rd 6)),ex 20 (ct false 1 (rd 19)),ex 21 (bs .neq (rd 20) (kc (.str []))),ex 22 (mv (rd 21)),aN 22 true 23 (fa 0 (rd 6)),aN 22 true 24 (ct false 1 (rd 23)),aN 22 true 25 (bF 72 [(rd 24)]),aN 22 true 26 (not (rd 25)),ex 27 (pick (rd 22) (rd 26) (kc aq)),ex 28 (mv (rd 27)),aN 28 false 29 (fa 1 (rd 6)),aN 28 false 30 (ct false 1 (rd 29)),aN 28 false 31 (bs .neq (rd 30) (kc (.str []))),aN 28 false 32 (mv (rd 31)),aN 32 true 33 (fa 1 (rd 6)),aN 32 true 34 (ct false 1 (rd 33)),aN 32 true 35 (bF 72 [(rd 34)]),aN 32 true 36 (not (rd 35)),aN 28 false 37 (pick (rd 32) (rd 36) (kc aq)),ex 38 (pick (rd 28) (kc cC) (rd 37))]) (.cond (rd 38) (.seq (.aH [ex 4 (fq (kc aq))]) .ret) .skip))
def CS:ah:=(.aH [ex 39 (fa 0 (rd 6)),ex 40 (ct false 1 (rd 39)),ex 41 (bs .neq (rd 40) (kc (.str []))),ex 42 (mv (rd 41)),aN 42 true 43 (fa 1 (rd 6)),aN 42 true 44 (ct false 1 (rd 43)),aN 42 true 45 (bs .neq (rd 44) (kc (.str []))),ex 46 (pick (rd 42) (rd 45) (kc aq)),ex 47 (mv (rd 46)),aN 47 true 48 (fa 0 (rd 6)),aN 47 true 49 (ct false 1 (rd 48)),aN 47 true 50 (fa 1 (rd 6)),aN 47 true 51 (ct false 1 (rd 50)),aN 47 true 52 (bF 57 [(rd 49),(rd 51)]),aN 47 true 53 (bi .geq (rd 52) (kc (ai 0))),ex 54 (pick (rd 47) (rd 53) (kc aq))])
def CT:ah:=(.cond (rd 54) (.seq (.aH [ex 4 (fq (kc aq))]) .ret) .skip)
def zc:ah:=.seq CS CT
theorem afs:W_=(.seq (.block 1 (.seq KQ (.seq zb zc))) HM):=rfl
def mV(x:List UInt8):Bool:=decide (x=[])||(numOf x).isSome
def ki(s:dc):Bool:=(mV s.1&&mV s.2)&& !((!decide (s.1=[])&& !decide (s.2=[]))&& !decide (ig (rv s.1-rv s.2)<0))
theorem arH(e d:List UInt8)(s:e.length≤500)(r:d.length≤500)(x:Nat)(F:Fr)(H:ag)(K:Fr→ag→Prop)(R:X→Fr→ag→Prop)(h:rd 6 F=.ptr x 0)(i:H.get x=.cells [.str e,.str d] 0)(j:GT H)
 (a:(mV e&&mV d)=true→∀f,(∀t,t<16→rd t f=rd t F)→K f H) (b:(mV e&&mV d)=false→∀f,rd 4 f=aq→R .ret f H):
 bT zb (e_ K R) F H:=by
 have o:=KO e s;have l:=KO d r;obtain⟨p,m⟩:∃p,p=(numOf e).isSome:=⟨_,rfl⟩;obtain⟨q,n⟩:∃q,q=(numOf d).isSome:=⟨_,rfl⟩;unfold mV at a b;rw[←m,←n]at a b;rw[←m]at o;rw[←n]at l;by_cases g:e=[]
 ·rw[bw g]at a b;by_cases c:d=[]
  ·rw[bw c]at a b;simp only[go_sem,zb,h,i,bw g,bw c,dZ];exact a rfl _ fun t k=>by simp(disch:=omega)only[cc]
  ·rw[bp c]at a b;simp only[go_sem,zb,h,i,bw g,bp c,dZ,gS];refine cy l j ?_;cases q
   ·simp only[go_sem,gS];exact b rfl _ (by simp only[go_sem])
   ·simp only[go_sem,dZ];exact a rfl _ fun t k=>by simp(disch:=omega)only[cc]
 ·rw[bp g]at a b;simp only[go_sem,zb,h,i,bp g,gS];refine cy o j ?_;cases p
  ·simp only[go_sem,gS];exact b rfl _ (by simp only[go_sem])
  ·by_cases c:d=[]
   ·rw[bw c]at a b;simp only[go_sem,h,i,bw c,dZ];exact a rfl _ fun t k=>by simp(disch:=omega)only[cc]
   ·rw[bp c]at a b;simp only[go_sem,h,i,bp c,dZ,gS];refine cy l j ?_;cases q
    ·simp only[go_sem,gS];exact b rfl _ (by simp only[go_sem])
    ·simp only[go_sem,dZ];exact a rfl _ fun t k=>by simp(disch:=omega)only[cc]
theorem arI(b a:List UInt8)(q:b.length≤500)(p:a.length≤500)(l:bB 100 (rv b))(m:bB 100 (rv a))(x:Nat)(F:Fr)(H:ag)(R:X→Fr→ag→Prop)(i:rd 6 F=.ptr x 0)(j:H.get x=.cells [.str b,.str a] 0)(o:GT H)
 (c:((!decide (b=[])&& !decide (a=[]))&& !decide (ig (rv b-rv a)<0))=false→∀e,(∀t,t<16→rd t e=rd t F)→R .norm e H)
 (d:((!decide (b=[])&& !decide (a=[]))&& !decide (ig (rv b-rv a)<0))=true→∀e,rd 4 e=aq→R .ret e H):
 bT zc R F H:=by
 have n:=Yz b a q p l m aj;by_cases f:b=[]
 ·rw[bw f]at c d;simp only[go_sem,zc,CS,CT,i,j,bw f,dZ];exact c rfl _ fun t k=>by simp(disch:=omega)only[cc]
 ·rw[bp f]at c d;by_cases g:a=[]
  ·rw[bw g]at c d;simp only[go_sem,zc,CS,CT,i,j,bp f,bw g,dZ,gS];exact c rfl _ fun t k=>by simp(disch:=omega)only[cc]
  ·rw[bp g]at c d;simp only[go_sem,zc,CS,CT,i,j,bp f,bp g,gS];refine cy n o ?_;by_cases h:ig (rv b-rv a)<0
   ·rw[bw h]at c;simp only[go_sem,bw h,dZ];exact c rfl _ fun t k=>by simp(disch:=omega)only[cc]
   ·rw[bp h]at d;simp only[go_sem,bp h,gS];exact d rfl _ (by simp only[go_sem])
def nE(s:dc):Prop:=s.1.length≤20∧s.2.length≤20
def Lo(l:List dc)(a:Fr)(k:Nat)(F:Fr)(H:ag):Prop:=∃i:Nat,k=l.length-i∧i≤l.length∧rd 2 F=.ptr 5 0∧rd 13 F=ej ek l∧rd 14 F=ai (l.length:Int)∧rd 15 F=ai (i:Int)∧GT H∧6≤H.next∧(l.take i).all ki=true
theorem arJ(l:List dc)(U:∀s∈l,nE s)(Z:l.length≤1000)(F:Fr)(H:ag)(R:X→Fr→ag→Prop)(k:Nat)(O:Lo l F k F H)
 (P:l.all ki=true→∀f b,GT b→R (.exit 0) f b) (E:l.all ki=false→∀f b,rd 4 f=aq→GT b→R .ret f b):
 bT (.loop HO) R F H:=by
 refine bW (Lo l F) k O ?_;rintro m W g ⟨i,rfl,Y,N,C,n,o,G,ab,q⟩;unfold HO;by_cases T:i<l.length
 ·obtain⟨s,w⟩:∃s,l[i]? =some s:=⟨l[i],cH T⟩;have I:=er w;obtain⟨J,K⟩:=U s I;have B:=o9 rB w;have r:decide ((i:Int)<(l.length:Int))=true:=bw aa;have V:aG .i64 ((i:Int)+1)=((i+1:Nat):Int):=by rw[aQ _ aa];rfl
  have Q:=mP (f:=ek) (k:=2) (l:=l) (i:=(i:Int)) (ik:=.i64) aa;have a:ki s=false→l.all ki=false:=fun h=>by
   rw[mB];intro D;rw[List.all_eq_true]at D;rw[D s I]at h;cases h
  have e:ki s=true→(l.take (i+1)).all ki=true:=fun h=>by
   rw[yZ w,List.all_append,q];simp[h]
  have z:bB 100 (rv s.1):=(mo (L:=20) J).mono aj;have A:bB 100 (rv s.2):=(mo (L:=20) K).mono aj;obtain⟨x,t⟩:=s;simp only at J K z A;unfold ki at a e;simp only at a e;simp only[ek]at B;have d:GT ((g.push (.cells [.str [],.str []] 0)).set g.next (.cells [.str x,.str t] 0)):=(G.push aa _).set aa _
  simp only[go_sem,HN,afs,KQ,C,n,o,r,Q,bN,B];refine arH x t aa aa g.next _ _ _ _ ?_ ?_ d ?_ ?_
  iterate 2 simp only[go_sem]
  ·intro u L c;rw[u]at a e;refine arI x t aa aa z A g.next _ _ _ ?_ ?_ d ?_ ?_
   ·rw[c 6 aj];simp only[go_sem]
   ·simp only[go_sem]
   ·intro v y j;rw[v]at e;have M:rd 15 y=ai (i:Int):=by rw[j 15 aj,c 15 aj];simp only[go_sem,o]
    simp only[go_sem,HM,M,V];refine⟨l.length-(i+1),aa,i+1,rfl,aa,?_,?_,?_,?_,d,by(simp only[go_sem];omega),e rfl⟩
    ·simp only[go_sem];rw[j 2 aj,c 2 aj];simp only[go_sem,N]
    ·simp only[go_sem];rw[j 13 aj,c 13 aj];simp only[go_sem,C]
    ·simp only[go_sem];rw[j 14 aj,c 14 aj];simp only[go_sem,n]
    ·simp only[go_sem]
   ·intro v y p;rw[v]at a;exact E (a rfl) _ _ p d
  ·intro u L p;rw[u]at a;exact E (a rfl) _ _ p d
 ·have S:i=l.length:=aa;subst S;have r:decide ((l.length:Int)<(l.length:Int))=false:=bp aa;rw[cq (aR _)]at q;simp only[go_sem,HN,n,o,r];exact P q _ _ G
def mu(n:Nat)(l:List dc):Bool:=decide (l.length=n)&&l.all ki
theorem arC(n:Nat)(l:List dc)(i:∀s∈l,nE s)(h:l.length≤1000):ff 61 [hY l,ai (n:Int)] (.bool (mu n l)):=by
 refine fK (.cons (qV l) (.cons (.int _ _) .nil)) (bg amf ?_);have g:decide ((l.length:Int)=(n:Int))=decide (l.length=n):=decide_eq_decide.2 aa;unfold hY mu;simp only[go_sem,W9,Xc];rw[g];by_cases c:l.length=n
 ·rw[bw c];simp only[go_sem,Xb,dZ];refine arJ l i h _ _ _ l.length ⟨0,rfl,ck _,?_,?_,?_,?_,cl,?_,rfl⟩ ?_ ?_
  iterate 3 simp only[go_sem]
  ·simp only[go_sem];rfl
  ·exact aR 6
  ·intro a d e b;simp only[go_sem,Xa,a];exact cX b rfl (.bool _)
  ·intro a d e f b;simp only[go_sem,a,f];exact cX b rfl (.bool _)
 ·rw[bp c];simp only[go_sem,gS,Bool.false_and];exact cX cl rfl (.bool _)
theorem KN(p:iO)(h:p.aM)(l:List dc)(e:∀s∈l,nE s)(d:l.length≤1000):ff 17 [je p,hY l] (.bool (mu p.n l)):=by
 have b:=adh p h;have a:=arC p.n l e d;have c:eC (fk p.n)=some (.val (ai (p.n:Int))):=rfl;refine fK (.cons (r8 p h.n) (.cons (qV l) .nil)) (bg BF ?_);unfold je at b⊢;unfold hY at a⊢;simp only[go_sem,Pg,PB];refine cy b cl ?_;simp only[go_sem,c];refine cy a cl ?_;simp only[go_sem];exact cX cl rfl (.bool _)
theorem aof{l:List dc}(h:l.all ki=true)(e:∀s∈l,nE s):∀s∈l,nx s.1∧nx s.2:=by
 intro s b;have a:=List.all_eq_true.1 h s b;unfold ki at a;simp only[cz]at a;obtain⟨f,g⟩:=e s b;have c:∀x:List UInt8,mV x=true→x.length≤20→nx x:=fun x hx d=>by
  unfold mV at hx;rw[pE]at hx;rcases hx with hx|hx
  ·exact .inl (of_decide_eq_true hx)
  ·exact .inr ⟨hx,d⟩
 exact⟨c _ a.1.1 f,c _ a.1.2 g⟩
def Cl(p:iO)(l:List dc):V:=if mu p.n l then .aK [kM p.n p.obj (p.is++gI p.n 0 l) p.es,ai 0]else .aK [.agg [.ak,ai 0,.ak,.ak,.ak],ai 1]
theorem adG(p:iO)(h:p.aM)(l:List dc)(e:∀s∈l,nE s)(f:l.length≤1000):ff 15 [je p,hY l] (Cl p l):=by
 have b:=KN p h l e f;refine fK (.cons (r8 p h.n) (.cons (qV l) .nil)) (bg Je ?_);unfold Cl;cases a:mu p.n l with
 |false=>
  rw[a]at b;have c:bZ (.aK [.agg [.ak,ai 0,.ak,.ak,.ak],ai 1]):=.aK (.cons (.agg (.cons .ak (.cons (.int _ _) (.cons .ak (.cons .ak (.cons .ak .nil)))))) (.cons (.int _ _) .nil));unfold je hY at b⊢;simp only[go_sem,Er,EF];refine cy b cl ?_;simp only[go_sem,gS];exact cX cl rfl c
 |true=>
  rw[a]at b;unfold mu at a;rw[cz]at a;have d:=apw p h l (of_decide_eq_true a.1) (aof a.2 e);have c:bZ (.aK [kM p.n p.obj (p.is++gI p.n 0 l) p.es,ai 0]):=.aK (.cons (tV _ h.n _ _ _) (.cons (.int _ _) .nil));unfold je hY at b d⊢;unfold kM iB at d;simp only[go_sem,Er,EF];refine cy b cl ?_;simp only[go_sem,ON,dZ];refine cy d cl ?_;simp only[go_sem];exact cX cl rfl c
def k9(s:dc):Bool:= !(decide (s.1=[])||decide (s.2=[]))
@[go_sem]theorem aut(x:V):r0 [.func 103 [] [],x]=some (.fn 103,[x]):=rfl
theorem an1(s:dc):bA 103 [.agg (ek s)] (.bool (!k9 s)):=by
 refine cT (.cons (.agg (Bq s)) .nil) (.bool _) (bg aka ?_);unfold k9;by_cases a:s.1=[]
 ·simp only[go_sem,DR,DS,ek,bw a,Bool.true_or]
 ·simp only[go_sem,DR,DS,ek,bp a,Bool.false_or,Bool.not_not]
def adC(l:List dc)(k:Nat)(F:Fr)(H:ag):Prop:=∃i:Nat,k=l.length-i∧i≤l.length∧rd 0 F=ej ek l∧rd 1 F=.func 103 [] []∧rd 7 F=ai (l.length:Int)∧rd 8 F=ai (i:Int)∧(l.take i).all k9=true
theorem ajt(l:List dc)(y:l.length≤1000)(H:ag):dN 159 [ej ek l,.func 103 [] []] H fun v g=>(∃r:Int,v=ai r∧decide (r<0)=l.all k9)∧g=H:=by
 refine o6 (R:=fun v=>∃r:Int,v=ai r∧decide (r<0)=l.all k9) (.cons (tW Bq l) (.cons (.func 103 .nil .nil) .nil)) (bg akE ?_) H;simp only[go_sem,OH,OM];refine bW (adC l) l.length ⟨0,rfl,ck _,?_,?_,?_,?_,rfl⟩ ?_
 iterate 3 simp only[go_sem]
 ·simp only[go_sem];rfl
 rintro m w g ⟨i,rfl,x,h,j,a,b,c⟩;unfold OK;by_cases t:i<l.length
 ·obtain⟨s,f⟩:∃s,l[i]? =some s:=⟨l[i],cH t⟩;have n:=o9 rB f;have e:decide ((i:Int)<(l.length:Int))=true:=bw aa;have u:aG .i64 ((i:Int)+1)=((i+1:Nat):Int):=by rw[aQ _ aa];rfl
  have p:=mP (f:=ek) (k:=2) (l:=l) (i:=(i:Int)) (ik:=.i64) aa;simp only[go_sem,EE,OJ,h,j,a,b,e,p,bN,n];refine use (an1 s) ?_;cases d:k9 s with
  |true=>
   simp only[go_sem,OI,dZ,b,u];refine⟨l.length-(i+1),aa,i+1,rfl,aa,?_,?_,?_,?_,?_⟩
   iterate 4 simp only[go_sem,h,j,a]
   ·rw[yZ f,List.all_append,c];simp[d]
  |false=>
   simp only[go_sem,gS];refine⟨_,.same _,.int _ _,_,rfl,?_⟩;have o:l.all k9=false:=by
    rw[mB];intro k;rw[List.all_eq_true]at k;rw[k s (er f)]at d;cases d
   rw[o,bp aa]
 ·have q:i=l.length:=aa;subst q;have e:decide ((l.length:Int)<(l.length:Int))=false:=bp aa;rw[cq (aR _)]at c;simp only[go_sem,EE,OL,a,b,e];exact⟨_,.same _,.int _ _,_,rfl,by rw[c];rfl⟩
theorem agh(l:List dc)(a:l.length≤1000):bA 102 [ej ek l,.func 103 [] []] (.bool (!l.all k9)):=by
 refine cT (.cons (tW Bq l) (.cons (.func 103 .nil .nil) .nil)) (.bool _) (bg aj' ?_);simp only[go_sem,MF,MG];refine(ajt l a _).mono ?_;rintro _ _ ⟨⟨r,rfl,b⟩,rfl⟩;simp only[go_sem,b]
theorem aet(l:List dc)(a:l.length≤1000):bA 55 [hY l] (.bool (l.all k9)):=by
 refine cT (.cons (qV l) .nil) (.bool _) (bg al' ?_);unfold hY;simp only[go_sem,WI,WJ];refine use (agh l a) ?_;simp only[go_sem,Bool.not_not]
def ew(s:dc):mD:=(rv s.1,rv s.2)
theorem KG(b:bB a y):(bS y).length≤2*a+4:=by
 have e:=tN b.num;have f:=tN b.den;unfold bS;rw[bt,bt];have c:(if y.num<0 then [(45:UInt8)]else []).length≤1:=by split<;>simp
 have d:(if y.den=1 then []else(47:UInt8)::dec y.den).length≤a+2:=by
  split
  ·simp
  ·rw[di];omega
 omega
theorem ao0{q:Rat}(b:bB a y)(c:bB g q):bB (a+g+1) (y-q):=by
 rw[Rat.sub_eq_add_neg];exact b.add (wE c)
theorem agq:dec 2=[50]:=by
 show(if 2=0 then _ else ds 2)=_;rw[au aj,nW aj,show 2/10=0 from rfl,lf];rfl
theorem arn:bS half=[49,47,50]:=by
 unfold bS;rw[so.1,so.2,au aj,show(1:Int).natAbs=1 from rfl,Ip,agq,au aj];rfl
theorem acj:rv [49,47,50]=half:=by rw[←arn,sP]
def Lp(l:List dc)(k:Nat)(F:Fr)(H:ag):Prop:=∃(i:Nat) (w:List UInt8),k=l.length-i∧i≤l.length∧rd 3 F=.ptr 6 0∧rd 7 F=ai ((gD (l.map ew) i:Nat):Int)∧rd 8 F=.str w∧rd 25 F=ej ek l∧rd 26 F=ai (l.length:Int)∧rd 27 F=ai (i:Int)∧
 GT H∧7≤H.next∧H.get 6=.cells [ej ek l] 0∧(i≠0→w=bS (oo (ee (l.map ew) (gD (l.map ew) i))))
theorem wp_loop(l:List dc)(N:∀s∈l,nE s)(hl:l.length≤1000)(F:Fr)(H:ag)(R:X→Fr→ag→Prop)(k:Nat)(U:Lp l k F H)
 (V:∀q f,rd 3 q=.ptr 6 0→rd 7 q=ai ((gD (l.map ew) l.length:Nat):Int)→GT f→7≤f.next→f.get 6=.cells [ej ek l] 0→R (.exit 0) q f):
 bT (.loop EN) R F H:=by
 refine bW (Lp l) k U ?_;rintro m ar r ⟨i,w,rfl,aw,n,B,C,g,a,b,G,ac,o,hw⟩;unfold EN;by_cases J:i<l.length
 ·obtain⟨s,v⟩:∃s,l[i]? =some s:=⟨l[i],cH J⟩;have ad:=er v;obtain⟨am,ap⟩:=N s ad;have A:=o9 rB v;have u:decide ((i:Int)<(l.length:Int))=true:=bw aa;have z:aG .i64 ((i:Int)+1)=((i+1:Nat):Int):=by rw[aQ _ aa];rfl
  have Y:=mP (f:=ek) (k:=2) (l:=l) (i:=(i:Int)) (ik:=.i64) aa;have S:bB 81 (rv s.1):=mo (L:=20) am;have T:bB 81 (rv s.2):=mo (L:=20) ap;have O:=aqR s.2 s.1 aa aa T S aj;have al:rv s.2-rv s.1=oo (ee (l.map ew) i):=by
   unfold ee oo;rw[c_,qE,v];rfl
  rw[al]at O;have M:∀j,j<l.length→bB 163 (oo (ee (l.map ew) j)):=fun j K=>by
   have ab:l[j]? =some l[j]:=cH K;have L:=N l[j] (u_ K);unfold ee oo;rw[c_,qE,ab];exact ao0 (mo (L:=20) L.2) (mo (L:=20) L.1)
  have x:=KS (l.map ew) i;have c:GT ((r.push (.cells [.str [],.str []] 0)).set r.next (.cells [.str s.1,.str s.2] 0)):=(G.push aa _).set aa _
  have y:¬r.next=6:=aa
  simp only[ek]at A;simp only[go_sem,EM,Pa,g,a,b,u,Y,bN,A];refine cy O c ?_;by_cases I:i=0
  ·subst I;have D:gD (l.map ew) 1=0:=by
    rw[x];unfold w9;split<;>rfl
   have t:decide (((0:Nat):Int)=0)=true:=rfl;simp only[go_sem,zK,t,b,z];refine⟨l.length-(0+1),aa,0+1,bS (oo (ee (l.map ew) 0)),rfl,aa,?_,?_,?_,?_,?_,?_,c,by(simp only[go_sem];omega),?_,fun _=>?_⟩
   iterate 7 simp only[go_sem,n,D,g,a,y,o]
   ·rw[D]
  ·have e:=hw I;have W:gD (l.map ew) i<l.length:=by rcases zd (l.map ew) i with h|h<;>omega
   have P:=M i J;have Q:=M _ W;have E:=Yz (bS (oo (ee (l.map ew) i))) w (by have:=KG P;omega) (by rw[e];have:=KG Q;omega) (by rw[sP];exact P) (by rw[e,sP];exact Q) aj;rw[sP,e,sP]at E;have t:decide ((i:Int)=0)=false:=bp aa;simp only[go_sem,t,C,e];refine cy E c ?_;by_cases p:0<ig (oo (ee (l.map ew) i)-oo (ee (l.map ew) (gD (l.map ew) i)))
   ·have d:gD (l.map ew) (i+1)=i:=by rw[x,w9,ay p]
    simp only[go_sem,zK,bw p,b,z];refine⟨l.length-(i+1),aa,i+1,bS (oo (ee (l.map ew) i)),rfl,aa,?_,?_,?_,?_,?_,?_,c,by(simp only[go_sem];omega),?_,fun _=>?_⟩
    iterate 7 simp only[go_sem,n,d,g,a,y,o]
    ·rw[d]
   ·have d:gD (l.map ew) (i+1)=gD (l.map ew) i:=by rw[x,w9,au p]
    simp only[go_sem,zK,bp p,b,z];refine⟨l.length-(i+1),aa,i+1,w,rfl,aa,?_,?_,?_,?_,?_,?_,c,by(simp only[go_sem];omega),?_,fun _=>?_⟩
    iterate 7 simp only[go_sem,n,d,B,C,g,a,y,o]
    ·rw[d];exact e
 ·have Z:i=l.length:=aa;subst Z;have u:decide ((l.length:Int)<(l.length:Int))=false:=bp aa;simp only[go_sem,EM,a,b,u];refine V _ _ ?_ ?_ G ac o
  iterate 2 simp only[go_sem,n,B]
def CX(p:iO)(l:List dc):V:=
 if mu p.n l then
  if l.all k9 then .aK [ai ((gD (l.map ew) l.length:Nat):Int),.str (bS (half*((ee (l.map ew) (gD (l.map ew) l.length)).1+(ee (l.map ew) (gD (l.map ew) l.length)).2))),ai 0]
  else .aK [ai 0,.str [],ai 15]
 else .aK [ai 0,.str [],ai 1]
theorem adK(p:iO)(h:p.aM)(l:List dc)(q:∀s∈l,nE s)(m:l.length≤1000):ff 16 [je p,hY l] (CX p l):=by
 have d:=KN p h l q m;have e:=aet l m;have j:∀(a:Int) (b:List UInt8) (c:Int),bZ (.aK [ai a,.str b,ai c]):=fun a b c=>.aK (.cons (.int _ _) (.cons (.str _) (.cons (.int _ _) .nil)))
 refine fK (.cons (r8 p h.n) (.cons (qV l) .nil)) (bg v_ ?_);unfold CX;cases f:mu p.n l with
 |false=>
  rw[f]at d;unfold je hY at d⊢;simp only[go_sem,zI,zL];refine cy d cl ?_;simp only[go_sem,gS];exact cX cl rfl (j _ _ _)
 |true=>
  rw[f]at d;unfold mu at f;rw[cz]at f;have L:l.length=p.n:=of_decide_eq_true f.1;have M:=h.n;cases u:l.all k9 with
  |false=>
   rw[u]at e;unfold je hY at d⊢;unfold hY at e;simp only[go_sem,zI,zL];refine cy d cl ?_;simp only[go_sem,EO,dZ];refine use e ?_;simp only[go_sem,gS];exact cX cl rfl (j _ _ _)
  |true=>
   rw[u]at e;obtain⟨b,g⟩:∃b,b=gD (l.map ew) l.length:=⟨_,rfl⟩;have D:b<l.length:=by
    rw[g];rcases zd (l.map ew) l.length with h|h<;>omega
   obtain⟨s,o⟩:∃s,l[b]? =some s:=⟨l[b],cH D⟩;have H:ee (l.map ew) b=ew s:=by
    unfold ee;rw[c_,qE,o];rfl
   obtain⟨I,J⟩:=q s (er o);have x:bB 81 (rv s.1):=mo (L:=20) I;have y:bB 81 (rv s.2):=mo (L:=20) J;have C:=adR s.1 s.2 aa aa x y aj;have w:bB 163 (rv s.1+rv s.2):=x.add y;have F:bB 10 half:=⟨by rw[so.1];decide,by rw[so.2];decide⟩;have v:=anC [49,47,50] (bS (rv s.1+rv s.2)) aj (by have:=KG w;omega) (a:=10) (b:=163) (by rw[acj];exact F) (by rw[sP];exact w) aj;rw[acj,sP]at v;have t:=o9 rB o;have G:=mP (f:=ek) (k:=2) (l:=l) (i:=(b:Int)) (ik:=.i64) aa;have z:decide ((l.length:Int)=0)=false:=bp aa;rw[←g,H];show iA _ _ _ _ _ _;unfold je hY at d⊢;unfold hY at e;simp only[ek]at t;simp only[go_sem,zI,zL];refine cy d cl ?_;simp only[go_sem,EO,dZ];refine use e ?_;simp only[go_sem,Pf,Pe,Pd,dZ,z];refine wp_loop l q m _ _ _ l.length ⟨0,[],rfl,ck _,?_,?_,?_,?_,?_,?_,cl,?_,?_,fun h=>absurd rfl h⟩ ?_
   ·simp only[go_sem]
   ·simp only[go_sem];rfl
   iterate 3 simp only[go_sem]
   ·simp only[go_sem];rfl
   ·exact aR 7
   ·simp only[go_sem]
   intro K r A i E N B;rw[←g]at i;have k:GT ((r.push (.cells [.str [],.str []] 0)).set r.next (.cells [.str s.1,.str s.2] 0)):=(E.push aa _).set aa _
   simp only[go_sem,Pc,A,i,B,G,bN,t];simp only[go_sem,Pb,i];refine cy C k ?_;simp only[go_sem];refine cy v k ?_;simp only[go_sem];exact cX k rfl (j _ _ _)
theorem ajC(n i:Nat)(b:zo n i)(e:c.get a=.cells (cY (Z n)) 0)(d:J.get a=.none):cr c J (.slice a 0 n (.known n)) (cG (Z n)):=by
 unfold cG;rw[b.l2];refine .row (m:=n) (cs:=cY (Z n)) ?_ b.hn.1 d (dy.refl _);rw[gj e,eY,jH (by rw[jG,b.l2])]
theorem ajB(n i:Nat)(b:zo n i)(e:c.get a=.cells (cY (U n i)) 0)(d:J.get a=.none):cr c J (.slice a 0 n (.known n)) (cG (U n i)):=by
 unfold cG;rw[b.l1];refine .row (m:=n) (cs:=cY (U n i)) ?_ b.hn.1 d (dy.refl _);rw[gj e,eY,jH (by rw[jG,b.l1])]
theorem acY{b:ag}{e n:Nat}{c d:Cap}{t:aI}(g:J.get a=.cells [.bool (decide (t.1.num<0)),mag (aU t.1.num.natAbs),aq,mag (aU (dd t.1)),.slice e 0 n c] 0)(f:b.get a=.none)(h:cr J b (.slice e 0 n c) (cG t.2)):cr J b (.slice a 0 1 d) (bV [t]):=by
 refine .row (m:=5) (cs:=[.bool (decide (t.1.num<0)),mag (aU t.1.num.natAbs),aq,mag (aU (dd t.1)),.slice e 0 n c]) ?_ aj f (.cons (.same _) (.cons (.same _) (.cons (.same _) (.cons (.same _) (.cons h .nil)))));rw[gj g];rfl
theorem arD(n i:Nat)(f:n=1∨n=2)(d:i<n):bA 51 [ai (n:Int),ai (i:Int)] (jx n [(1,U n i)]):=by
 have a:=uT n i f d;have j:=a.hn;have c:=a.I_;have g:=a.st;have e:mS 8 [ai 0] [ai (n:Int),ai (n:Int)]=some (.new (cY (Z n)) (.slice n n)):=by rw[iH aa,←c];simp
 have h:dY none 1 [.slice 6 0 n (.known n),ai (i:Int)]=some (.val (.ptr 6 i)):=by rw[cR aa];simp
 have b:=Cb 1 aj;rw[show((1:Int):Rat)=1 from rfl]at b;unfold cJ bY at b;refine e3 (.cons (.int _ _) (.cons (.int _ _) .nil)) (bg al8 ?_);simp only[go_sem,Wu,Wx,Ww,Wv,e,h,g];refine use b ?_;simp only[go_sem];refine⟨_,.agg (.cons (.same _) (.cons (acY (t:=(1,U n i)) (e:=6) (n:=n) (c:=.known n) ?_ jJ (ajB n i a ?_ jJ)) .nil)),r9 n _,rfl⟩
 iterate 2 simp only[go_sem]
theorem x2(n i:Nat)(a:zo n i)(c d:Rat):jM n [(c,U n i)]∧jM n [(d,Z n)]:=⟨fun t b=>by rw[dH.1 b];exact⟨a.l1,cI a.s1 aj⟩,fun t b=>by rw[dH.1 b];exact⟨a.l2,cI a.s2 aj⟩⟩
theorem YB(n i:Nat)(r:n=1∨n=2)(o:i<n)(q:Rat)(s:bB 100 q):bA 64 [ai (n:Int),cJ q] (jx n (jy [(q,Z n)])):=by
 have d:=uT n i r o;have x:=d.hn;have m:=d.I_;have p:mS 8 [ai 0] [ai (n:Int),ai (n:Int)]=some (.new (cY (Z n)) (.slice n n)):=by rw[iH aa,←m];simp
 have v:=Kx [(q,Z n)] n 100 n aa (x2 n i d 0 q).2 (fun t w=>by rw[dH.1 w];exact s) aJ aJ;refine e3 (.cons (.int _ _) (.cons (iu _) .nil)) (bg amh ?_);unfold cJ bY;simp only[go_sem,Xj,Xk,p];obtain⟨a,c⟩:∃a,a=((((ag.zero 5).push (.cells [.bool (decide (q.num<0)),mag (aU q.num.natAbs),aq,mag (aU (dd q))] 0)).push (.cells [ai 0,.ak] 0)).push (.cells (cY (Z n)) 0)).push (.cells [.bool (decide (q.num<0)),mag (aU q.num.natAbs),aq,mag (aU (dd q)),.slice 7 0 n (.known n)] 0):=⟨_,rfl⟩;have l:a.get 6=.cells [ai 0,.ak] 0:=by rw[c];simp only[go_sem]
 have bO:a.get 7=.cells (cY (Z n)) 0:=by rw[c];simp only[go_sem]
 have eV:a.get 8=.cells [.bool (decide (q.num<0)),mag (aU q.num.natAbs),aq,mag (aU (dd q)),.slice 7 0 n (.known n)] 0:=by rw[c];simp only[go_sem]
 rw[←c];clear c;have h:rU a [ai (n:Int),.slice 8 0 1 (.known 1)] 8:=.arg (List.mem_cons_of_mem _ (dH.2 rfl));have u:rU a [ai (n:Int),.slice 8 0 1 (.known 1)] 7:=.cell h eV (o:=0) (n:=n) (c:=.known n) aJ;have j:((a.set 8 .none).set 7 .none).get 7=.none:=by simp only[go_sem]
 have k:((a.set 8 .none).set 7 .none).get 8=.none:=by simp only[go_sem]
 refine(afx (H:=a) [8,7] ((a.set 8 .none).set 7 .none) (fun b g=>?_) (fun y=>?_) rfl (.cons (.same _) (.cons (acY (t:=(q,Z n)) eV k (ajC n i d bO j)) .nil)) (v _)).mono ?_
 ·simp only[gL,List.not_mem_nil,or_false]at g;rcases g with rfl|rfl
  ·exact⟨⟨_,eV⟩,h⟩
  ·exact⟨⟨_,bO⟩,u⟩
 ·rw[ag.a_,ag.a_];by_cases e:7=y
  ·subst e;rfl
  ·by_cases f:8=y
   ·subst f;rfl
   ·rw[au e,au f,au (by simp only[gL,List.not_mem_nil,or_false];omega)]
 rintro _ _ ⟨rfl,rfl⟩;simp only[go_sem,jx,kC,l];exact⟨_,.same _,r9 n _,rfl⟩
theorem Y6{K:Fr→ag→Prop}{sz bytes n:Nat}{cs:List V}(g:c.get a=.cells [] 0)(f:j_ s=some n)(i:ec c sz n s=some cs)(q:0<n)(h:cs.length=n*sz)(r:0<sz)(k:n≤1073741824∧bytes≤1024)
 (l:∀d b,bu b sz d cs (c.next+1)→(∀y,y<c.next→b.get y=c.get y)→b.next=c.next+2→K (put o j d) b):gT j K o (ga sz bytes [.slice a 0 0 (.known 0),s] c):=by
 have e:ga sz bytes [.slice a 0 0 (.known 0),s] c=l7 c sz n cs:=by
  show av (j_ s) (fun n=>av (ec c sz n s) fun m=>kL sz bytes (.slice a 0 0 (.known 0)) n m c)=_;rw[f];show av (ec c sz n s) _=_;rw[i];show Bool.casesOn (motive:=fun _=>Option (V×ag)) (fy n) (bq (ju (0+n) bytes) (Bool.casesOn (motive:=fun _=>Option (V×ag)) (b8 (0+n) 0) (av (c.dw a 0 (0*sz)) fun p=>l7 c sz (0+n) (ez p cs)) (av (c.e5 a (0+0*sz) cs) fun c=>some (V.slice a 0 (0+n) (.known 0),c)))) _=_;rw[su aa,p0 ⟨aa,cI (jO (aa:0+n≤1073741824) k.2) aj⟩,show b8 (0+n) 0=false from by
   cases n with
   |zero=>omega
   |succ n=>rw[fB];rfl,gj g]
  simp only[jE,eY,BR,yz,B4,BL,fB]
 rw[e];refine l _ _ (.cells (f:=c.next) ?_ ?_ (aR _) aa h ?_ ?_) (fun y t=>?_) rfl
 ·rw[ag.bE,au (by show¬(c.next+1=c.next);omega),ag.bE,ay rfl]
 ·rw[ag.bE,ay (show(c.push (.cells cs (Nat.succ c.next))).next=c.next+1 from rfl)]
 ·show c.next+1<c.next+1+1;omega
 ·show c.next<c.next+1+1;omega
 ·rw[ag.bE,au (by show¬(c.next+1=y);omega),ag.bE,au aa]
theorem aoz(n:Nat)(k:List V)(c:Rat)(u:aI)(hc:bB a c)(hu:bB g u.1)(hk:a+g≤30000000)(a8:k.length≤1000)(v:V)(F:Fr)(H:ag)(R:X→Fr→ag→Prop)
 (hv:(∃E,bu H 5 v k E)∨(k=[]∧v=.slice 9 0 0 (.known 0)∧H.get 9=.cells [] 0))
 (f4:rd 4 F=.ptr 6 0) (w:rd 5 F=.ptr 7 0) (f7:rd 7 F=v) (x:rd 8 F=ai 0) (G:H.get 6=.cells (bY c) 0) (bO:H.get 7=.cells [ai (n:Int),bV [u]] 0) (a7:10≤H.next)
 (J:∀r l P g',(∀t,t<7→rd t r=rd t F)→rd 7 r=P→bu l 5 P (k++ij (c*u.1,u.2)) g'→(∀y s,y<10→H.get y=.cells s 0→l.get y=.cells s 0)→(∀y,y<5→H.get y=.none→l.get y=.none)→R (.exit 0) r l):
 bT (.loop vE) R F H:=by
 have A:=ab_ c u.1 hc hu hk;have L:eC (bV [u])=some (.val (ai 1)):=rfl;have Q:decide ((0:Int)<1)=true:=rfl;have S:decide ((1:Int)<1)=false:=rfl;have a4:aG .i64 ((0:Int)+1)=1:=rfl;have a0:dY none 5 [bV [u],ai 0]=some (.val (.dm (dP [u]) 0)):=qc aJ;have t1:cF (dP [u]) 4=some [.bool (decide (u.1.num<0)),mag (aU u.1.num.natAbs),aq,mag (aU (dd u.1))]:=rfl;have O:eu (dP [u]) 4=some (cG u.2):=rfl;obtain⟨p,hp⟩:∃p,p=c*u.1:=⟨_,rfl⟩;rw[←hp]at A J;refine s0 2 ?_;rw[kI];obtain⟨K,I⟩:∃K,K=oE eW 5 vE R 1:=⟨_,rfl⟩;rw[←I];unfold cJ bY at A;unfold bY at G;simp only[go_sem,vE,Xe,f4,w,f7,x,G,bO,L,Q,a0,t1,O];refine use A ?_;have T:bP (cG u.2)=true:=rfl;have U:cellsOf (cG u.2)=[cG u.2]:=rfl;have a5:V.one (cG u.2)=true:=rfl;simp only[go_sem,bO,O,T,U,true_and];have a2:de [V.bool (decide (p.num<0)),mag (aU p.num.natAbs),aq,mag (aU (dd p)),cG u.2]=true:=rfl;have D:∀(e:Fr) (f:V) (d:ag) (i:Nat),(∀t,t<7→rd t e=rd t F)→rd 8 e=ai 0→rd 5 e=.ptr 7 0→rd 7 e=f→bu d 5 f (k++ij (p,u.2)) i→(∀y,y<H.next→(∀m b,H.get y≠ .b5 m b)→d.get y=H.get y)→bT xX (e_ K R) e d:=by
  intro e f d i ae Z W Y o z;have fD:d.get 7=.cells [ai (n:Int),bV [u]] 0:=by rw[z 7 aa (by intro m b h;rw[bO]at h;cases h),bO]
  simp only[go_sem,xX,Z,a4];rw[I,kI];simp only[go_sem,vE,W,fD,L,S];refine J _ _ f i (fun t B=>?_) ?_ o (fun y s q h=>?_) (fun y q h=>?_)
  ·simp(disch:=omega)only[cc];exact ae t B
  ·simp only[go_sem,Y]
  ·rw[z y aa (by intro m b j;rw[h]at j;cases j),h]
  ·rw[z y aa (by intro m b j;rw[h]at j;cases j),h]
 have a6:∀(e:Fr) (d:ag),bT xX (e_ K R) e d→lX 1 (e_ (bT xX (e_ K R)) (e_ K R)) X.norm e d:=fun _ _ h=>h
 rcases hv with⟨E,o⟩|⟨rfl,rfl,dj⟩
 ·refine jR (bytes:=88) o rfl aj a2 ⟨aa,aj⟩ fun f d i C M N a9=>?_
  simp only[go_sem];refine D _ f d i (fun t B=>?_) ?_ ?_ ?_ C (fun y q h=>N y q (o.r6 h))
  ·simp(disch:=omega)only[cc]
  iterate 3 simp only[go_sem,x,w]
 ·have a1:¬H.next=9:=aa
  refine Y6 (bytes:=88) (sz:=5) (n:=1) (cs:=[V.bool (decide (p.num<0)),mag (aU p.num.natAbs),aq,mag (aU (dd p)),cG u.2]) (by rw[ag.bE,au a1,dj]) rfl ?_ aj rfl aj ⟨aj,aj⟩ fun f d C M N=>?_
  ·show ag.dw (H.push (.cells [V.bool (decide (p.num<0)),mag (aU p.num.natAbs),aq,mag (aU (dd p)),cG u.2] 0)) H.next 0 (1*5)=_
   rw[gj (cs:=[V.bool (decide (p.num<0)),mag (aU p.num.natAbs),aq,mag (aU (dd p)),cG u.2]) (by rw[ag.bE,ay rfl])];rfl
  simp only[go_sem];refine D _ f d _ (fun t B=>?_) ?_ ?_ ?_ C (fun y q h=>by rw[M y (by simp only[go_sem];omega),ag.bE,au aa])
  ·simp(disch:=omega)only[cc]
  iterate 3 simp only[go_sem,x,w]
theorem abu(n:Nat)(hn:n=1∨n=2)(a:List aI)(Z:a.length≤1)(N:jM n a)(a3:∀t∈a,bB 200 t.1)(c:Rat)(A:bB 100 c)(u:aI)(D:bB 100 u.1)(O:jM n [u]):bA 62 [jx n a,cJ c,jx n [u]] (jx n (jy (a++[(c*u.1,u.2)]))):=by
 have al:=Kx (a++[(c*u.1,u.2)]) n 200 n aa (fun t ht=>by
  rcases gU.1 ht with ht|ht
  ·exact N t ht
  ·rw[dH.1 ht];exact O u aJ) (fun t ht=>by
  rcases gU.1 ht with ht|ht
  ·exact a3 t ht
  ·rw[dH.1 ht];exact A.mul D) (by rw[bt,gm];omega) (by rw[bt,gm];omega)
 refine e3 (.cons (r9 _ _) (.cons (iu _) (.cons (r9 _ _) .nil))) (Ie hT cA fJ aas.1 aas.2 rfl 3 42 rfl rfl ?_);unfold jx kC cJ;have k1:∀q,bP (.agg (bY q))=true:=fun _=>rfl
 simp only[go_sem,Xd,Xg,Xf,ah.cutAt];obtain⟨b,d⟩:∃b,b=(((((ag.zero 5).push (.cells [ai (n:Int),bV a] 0)).push (.cells (bY c) 0)).push (.cells [ai (n:Int),bV [u]] 0)).push (.cells [ai 0,.ak] 0)).push (.cells [] 0):=⟨_,rfl⟩;have Y:b.get 5=.cells [ai (n:Int),bV a] 0:=by rw[d];simp only[go_sem]
 have s:b.get 6=.cells (bY c) 0:=by rw[d];simp only[go_sem]
 have bO:b.get 7=.cells [ai (n:Int),bV [u]] 0:=by rw[d];simp only[go_sem]
 have eV:b.get 8=.cells [ai 0,.ak] 0:=by rw[d];simp only[go_sem]
 have dj:b.get 9=.cells [] 0:=by rw[d];simp only[go_sem]
 have ac:∀y,y<5→b.get y=.none:=fun y E=>by
  rw[d];rw[ag.bE,au (by simp only[go_sem];omega),ag.bE,au (by simp only[go_sem];omega),ag.bE,au (by simp only[go_sem];omega),ag.bE,au (by simp only[go_sem];omega),ag.bE,au (by simp only[go_sem];omega),ag.gf]
 have a8:b.next=10:=by rw[d];simp only[go_sem]
 rw[←d];clear d;obtain⟨Q,z⟩:∃Q:X→Fr→ag→Prop,Q=(gl [gV.cell 6 true 2] fun v1 p=>∃v,cr p (ag.zero p.next) v1 v∧bZ v∧v=V.agg [ai (n:Int),bV (jy (a++[(c*u.1,u.2)]))]):=⟨_,rfl⟩
 rw[←z]
 have J:∀(f:Fr) (k:ag) (v:V),rd 3 f=.ptr 5 0→rd 4 f=.ptr 6 0→rd 5 f=.ptr 7 0→rd 6 f=.ptr 8 0→rd 7 f=v→rd 8 f=ai 0→(∀y,y<10→k.get y=b.get y)→10≤k.next→((∃g,bu k 5 v (dP a) g)∨(dP a=[]∧v=.slice 9 0 0 (.known 0)∧k.get 9=.cells [] 0))→
  bT (.loop vE) (lX 0 (e_ (bT (ah.cut 5 42 HP) Q) Q)) f k:=by
  intro f k v P R S T U W j ae hv;refine aoz n (dP a) c u A D aj (by rw[qq];omega) v _ _ _ hv R S U W (by rw[j 6 aj,s]) (by rw[j 7 aj,bO]) ae ?_;intro i m v3 g3 x M B o ad;have K:rd 3 i=.ptr 5 0:=by rw[x 3 aj];exact P
  have L:rd 6 i=.ptr 8 0:=by rw[x 6 aj];exact T
  have F:=o 5 _ aj (by rw[j 5 aj,Y]);have a0:=o 6 _ aj (by rw[j 6 aj,s]);have fD:=o 7 _ aj (by rw[j 7 aj,bO]);have lB:=o 8 _ aj (by rw[j 8 aj,eV]);have C:∀y r g,y<9→m.get y=.cells r g→g=0:=fun y r g E e=>by
   by_cases w:y<5
   ·rw[ad y w (by rw[j y aa,ac y w])]at e;cases e
   ·rcases(aa:y=5∨y=6∨y=7∨y=8)with rfl|rfl|rfl|rfl
    ·rw[F]at e;cases e;rfl
    ·rw[a0]at e;cases e;rfl
    ·rw[fD]at e;cases e;rfl
    ·rw[lB]at e;cases e;rfl
  have am:dP a++ij (c*u.1,u.2)=dP (a++[(c*u.1,u.2)]):=by rw[wV];simp[dP]
  rw[am]at B;rw[fu];simp only[go_sem];refine KT (m.low 9) (fun t=>if t=7 then bV (a++[(c*u.1,u.2)])else if t=3∨t=6 then rd t i else .any) (Im aj C) (fun t ht=>?_) ?_
  ·show cr _ _ _ (if t=7 then _ else _);by_cases h:t=7
   ·subst h;rw[ay rfl,M];exact B.I3 aj C (qq _)
   ·rw[au h];split
    ·exact .same _
    ·exact .any _
  have G:rd 3 (ke (fun t=>if t=7 then bV (a++[(c*u.1,u.2)])else if t=3∨t=6 then rd t i else .any) 42)=.ptr 5 0:=by rw[o8 _ aj];exact K
  have H:rd 6 (ke (fun t=>if t=7 then bV (a++[(c*u.1,u.2)])else if t=3∨t=6 then rd t i else .any) 42)=.ptr 8 0:=by rw[o8 _ aj];exact L
  have I:rd 7 (ke (fun t=>if t=7 then bV (a++[(c*u.1,u.2)])else if t=3∨t=6 then rd t i else .any) 42)=bV (a++[(c*u.1,u.2)]):=by rw[o8 _ aj];rfl
  generalize ke (fun t=>if t=7 then bV (a++[(c*u.1,u.2)])else if t=3∨t=6 then rd t i else .any) 42=a5 at G H I
  have ar:(m.low 9).get 5=.cells [ai (n:Int),bV a] 0:=by rw[ag.oU,ay aj];exact F
  have aw:(m.low 9).get 8=.cells [ai 0,.ak] 0:=by rw[ag.oU,ay aj];exact lB
  simp only[go_sem,HP,G,I,ar];refine use al ?_;simp only[go_sem,jx,kC,z,H,aw];exact⟨_,.same _,r9 n _,rfl⟩
 cases a with
 |nil=>
  have e:ga 5 88 [V.slice 9 0 0 (Cap.known 0),bV []] b=some (.slice 9 0 0 (.known 0),b):=rfl;rw[e];simp only[go_sem];refine J _ _ _ ?_ ?_ ?_ ?_ ?_ ?_ (fun _ _=>rfl) aa (.inr ⟨rfl,rfl,dj⟩)
  all_goals simp only[go_sem]
 |cons t l=>
  have hl:l=[]:=nI (by rw[di]at Z;omega);subst hl;refine tS (n:=1) (cs:=dP [t]) dj aj rfl aj ⟨aj,aj⟩ fun v2 H4 q1 a2 a'=>?_
  simp only[go_sem];refine J _ _ _ ?_ ?_ ?_ ?_ ?_ ?_ (fun y E=>a2 y aa) aa (.inl ⟨_,q1⟩)
  all_goals simp only[go_sem]
theorem ZV(t:aI):b5 [t]=gP t:=by
 rw[uc];show(if t.1.num≠0 then(t.1,t.2)::b5 []else b5 [])=_;rw[vZ];unfold gP;by_cases h:t.1.num=0
 ·rw[au (fun a=>a h),ay h]
 ·rw[ay h,au h]
theorem yF(t:aI):jy [t]=gP t:=by
 unfold jy;rw[wS aJ,ZV]
theorem ZW(s t:aI)(h:ord s.2 t.2=1)(a:s.1.num≠0):b5 [s,t]=s::gP t:=by
 have b:f_ s.1 s.2 [t]=(s.1,[t]):=by
  show(if ord s.2 t.2=0 then f_ (s.1+t.1) s.2 []else(s.1,[t]))=_;rw[au (by rw[h];decide)]
 rw[uc,b,ay a,ZV]
theorem acO(s t:aI):hM [s,t]=if g5 s t=true then [s,t]else [t,s]:=by
 rw[CD aJ];rw[(aJ:[s,t].length/2=1)];show qF (hM [s]) (hM [t]) g5=_;rw[wS aJ,wS aJ];by_cases h:g5 s t=true
 ·rw[ay h];simp[h]
 ·rw[au h];simp[h]
theorem aoQ(s t:aI)(h:ord s.2 t.2=1)(a:s.1.num≠0):jy [s,t]=s::gP t:=by
 unfold jy;rw[acO,ay (by unfold g5;rw[h];rfl),ZW s t h a]
theorem aoR(s t:aI)(h:ord s.2 t.2=1)(a:s.1.num≠0):jy [t,s]=s::gP t:=by
 unfold jy;rw[acO,au (by unfold g5;rw[JP s.2 t.2,h];decide),ZW s t h a]
theorem aoN(n i:Nat)(b:n=1∨n=2)(a:i<n)(x:Rat):jy ([(1,U n i)]++[(x*1,Z n)])=g_ n i 1 x:=by
 rw[Rat.mul_one];exact aoQ (1,U n i) (x,Z n) (JO n i b a) (by show(1:Rat).num≠0;decide)
theorem aoL(n i:Nat)(c:n=1∨n=2)(b:i<n)(x:Rat):jy (jy [(x,Z n)]++[(-1*1,U n i)])=g_ n i (-1) x:=by
 rw[yF,Rat.mul_one];have a:(-1:Rat).num≠0:=aj;unfold g_;by_cases h:x.num=0
 ·have e:gP (x,Z n)=[]:=ay h;rw[e];show jy [(-1,U n i)]=_;rw[yF];exact au a
 ·have e:gP (x,Z n)=[(x,Z n)]:=au h;have:=aoR (-1,U n i) (x,Z n) (JO n i c b) a;rw[e]at this⊢;exact this
def iY(e:Nat)(H:ag)(b:Nat)(v:V)(a:List V):Prop:=(∃g,bu H b v a g)∨(a=[]∧v=.slice e 0 0 (.known 0)∧H.get e=.cells [] 0)
theorem iY.bP{v:V}(h:iY a c g v b):bP v=true∧cellsOf v=[v]∧V.one v=true:=by
 rcases h with⟨d,h⟩|⟨_,rfl,_⟩
 ·exact h.bP
 ·exact⟨rfl,rfl,rfl⟩
theorem iY.low{v:V}(h:iY a c g v b)(k:a<c.next)(d:∀y,y<c.next→J.get y=c.get y)(l:c.next≤J.next):iY a J g v b:=by
 rcases h with⟨e,h⟩|⟨f,i,j⟩
 ·exact .inl ⟨e,h.low d l⟩
 ·exact .inr ⟨f,i,by rw[d a k,j]⟩
theorem iY.set{v:V}{cs:List V}{y:Nat}(h:iY a c g v b)(j:c.get y=.cells cs 0)(k:y≠a)(o:eg):iY a (c.set y o) g v b:=by
 rcases h with⟨d,h⟩|⟨e,f,i⟩
 ·exact .inl ⟨d,h.set j o⟩
 ·exact .inr ⟨e,f,by rw[ag.a_,au k,i]⟩
theorem Y0{bytes:Nat}{v:V}{d:List V}(h:iY a c g v b)(G:a<c.next)(k:d.length=g)(r:0<g)(D:de d=true)(p:b.length+g≤1073741824∧bytes≤1024)
 (q:∀u e z,bu e g u (b++d) z→(∀y,y<c.next→(∀w x,c.get y≠ .b5 w x)→e.get y=c.get y)→c.next<e.next→f (put o j u) e):gT j f o (ga g bytes [v,.slice c.next 0 1 (.known 1)] (c.push (.cells d 0))):=by
 rcases h with⟨F,h⟩|⟨rfl,rfl,B⟩
 ·exact jR h k r D p fun n i A l t m E=>q n i A l (fun y s C=>m y s (h.r6 C)) E
 ·refine Y6 (n:=1) (cs:=d) (by rw[ag.bE,au aa,B]) rfl ?_ aj (by rw[k,fM]) r ⟨aj,p.2⟩ fun n i l t m=>?_
  ·show ag.dw (c.push (.cells d 0)) c.next 0 (1*g)=_
   rw[gj (cs:=d) (by rw[ag.bE,ay rfl]),eY,fM,jH k]
  ·refine q n i _ l (fun y s _=>by rw[t y (by simp only[go_sem];omega),ag.bE,au aa]) (by rw[m];simp only[go_sem];omega)
def acf:ah:=(.aH [ex 18 (mv (rd 16)),ex 19 (dX none 10 (rd 14) (rd 16)),ex 20 (ct true 10 (rd 19)),ex 7 (alloc [aq,.ak,aq,.ak,aq,.ak,aq,.ak,aq,aq]),ex 6 (fq (rd 18)),eP (st 10 (rd 7) (rd 20))])
def acg:ah:=(.aH [ex 21 (fa 0 (rd 2)),ex 22 (ct false 1 (rd 21)),ex 23 (mv (rd 6)),ex 24 (bF 51 [(rd 22),(rd 23)]),ex 8 (alloc [(ai 0),.ak]),eP (st 2 (rd 8) (rd 24))])
def Cp:ah:=(.seq (.aH [ex 25 (fa 8 (rd 7)),ex 26 (ct false 1 (rd 25))]) (.cond (rd 26) (.aH [ex 27 (fa 3 (rd 2)),ex 28 (ct false 1 (rd 27)),ex 29 (ct true 2 (rd 8)),ex 30 (fa 0 (rd 7)),ex 31 (ct true 4 (rd 30)),ex 33 (fa 0 (rd 2)),ex 34 (ct false 1 (rd 33)),ex 32 (bF 63 [(rd 31)]),re 28 (ct false 1 (rd 27)),re 29 (ct true 2 (rd 8)),re 34 (ct false 1 (rd 33)),ex 35 (bF 65 [(kc (ai 1))]),re 28 (ct false 1 (rd 27)),re 29 (ct true 2 (rd 8)),re 34 (ct false 1 (rd 33)),ex 36 (bF 64 [(rd 34),(rd 35)]),re 28 (ct false 1 (rd 27)),re 29 (ct true 2 (rd 8)),ex 37 (bF 62 [(rd 29),(rd 32),(rd 36)]),re 28 (ct false 1 (rd 27)),ex 38 (cW 1 [(0,2)] [(ai 0),.ak] [(rd 37)]),ex 39 (ap 2 32 (rd 28) (rd 38)),ex 40 (fa 3 (rd 2)),eP (st 1 (rd 40) (rd 39))]) .skip))
def Ke:ah:=(.aH [ex 41 (fa 9 (rd 7)),ex 42 (ct false 1 (rd 41))])
def Kf:ah:=(.cond (rd 42) (.aH [ex 43 (fa 3 (rd 2)),ex 44 (ct false 1 (rd 43)),ex 45 (fa 0 (rd 2)),ex 46 (ct false 1 (rd 45)),ex 47 (fa 4 (rd 7)),ex 48 (ct true 4 (rd 47)),ex 51 (ct true 2 (rd 8)),ex 49 (bF 64 [(rd 46),(rd 48)]),re 44 (ct false 1 (rd 43)),re 51 (ct true 2 (rd 8)),ex 50 (bF 65 [(kc (ai (-1)))]),re 44 (ct false 1 (rd 43)),re 51 (ct true 2 (rd 8)),ex 52 (bF 62 [(rd 49),(rd 50),(rd 51)]),re 44 (ct false 1 (rd 43)),ex 53 (cW 1 [(0,2)] [(ai 0),.ak] [(rd 52)]),ex 54 (ap 2 32 (rd 44) (rd 53)),ex 55 (fa 3 (rd 2)),eP (st 1 (rd 55) (rd 54))]) .skip)
def Cq:ah:=.seq Ke Kf
theorem aeL:Qr=(.seq (.block 1 (.seq acf (.seq acg (.seq Cp Cq)))) E_):=rfl
def ri(n i:Nat)(s:fO):List (List aI):=if s.hl then [g_ n i 1 (-s.lo)]else []
def sK(n i:Nat)(s:fO):List (List aI):=if s.hh then [g_ n i (-1) s.hi]else []
theorem yH:bB 100 1:=J1.mono aj
theorem abD:bB 100 (-1):=J0.mono aj
theorem apV(n:Nat)(u:n=1∨n=2)(i:Nat)(E:i<n)(s:fO)(hs:nN 90 s)(w:List aI)(d:V)(x y e:Nat)(v:V)(o:List V)(F:Fr)(H:ag)(R:X→Fr→ag→Prop)(K:Fr→ag→Prop)
 (M:rd 2 F=.ptr 5 0) (N:rd 7 F=.ptr x 0) (q:rd 8 F=.ptr y 0) (f:H.get 5=.cells [ai (n:Int),ai (n:Int),bV w,v,d] 0) (B:H.get x=.cells (fS s) 0) (k:H.get y=.cells (kC n [(1,U n i)]) 0) (D:iY e H 2 v o) (he:e<H.next) (a6:5≠e) (be:o.length≤1000) (a':8≤H.next) (bd:x<H.next) (bi:y<H.next)
 (a9:bP d=true∧cellsOf d=[d]∧V.one d=true)
 (P:∀L g v',(∀t,t<18→rd t L=rd t F)→iY e g 2 v' (o++eZ n (ri n i s))→g.get 5=.cells [ai (n:Int),ai (n:Int),bV w,v',d] 0→(∀z A,z<H.next→z≠5→H.get z=.cells A 0→g.get z=.cells A 0)→(∀z,z<5→H.get z=.none→g.get z=.none)→H.next≤g.next→K L g):
 bT Cp (e_ K R) F H:=by
 obtain⟨m,a8,hl,hh⟩:=s;obtain⟨Y,a1⟩:=hs;simp only at Y a1;simp only[fS,bY,fm,eM]at B;simp only[kC]at k;cases hl with
 |false=>
  simp only[go_sem,Cp,N,B];refine P _ _ v (fun t G=>?_) ?_ f (fun _ _ _ _ h=>h) (fun _ _ h=>h) (aR _)
  ·simp(disch:=omega)only[cc]
  ·show iY e H 2 v (o++[]);rw[fA];exact D
 |true=>
  have ac:=uT n i u E;have C:=ab' m;have c:=Cb 1 aj;rw[show((1:Int):Rat)=1 from rfl]at c;have r:=YB n i u E 1 yH;rw[yF,show gP (1,Z n)=[(1,Z n)]from au (by show¬(1:Rat).num=0;decide)]at r;have j:=abu n u [(1,U n i)] aJ (x2 n i ac 1 1).1 (fun t G=>by rw[dH.1 G];exact yH.mono aj) (-m) ((wE Y).mono aj) (1,Z n) yH (x2 n i ac 1 1).2;rw[aoN n i u E]at j;obtain⟨p,Q⟩:∃p,p=g_ n i 1 (-m):=⟨_,rfl⟩;rw[←Q]at j;obtain⟨W,ap⟩:∃W,W= -m:=⟨_,rfl⟩;rw[←ap]at C j;have a0:de [V.int .i64 (n:Int),bV p]=true:=rfl;have kk:∀l:List aI,bP (bV l)=true∧cellsOf (bV l)=[bV l]∧V.one (bV l)=true:=fun _=>⟨rfl,rfl,rfl⟩
  obtain⟨ba,bb,bc⟩:=D.bP;unfold cJ bY at C c r j;simp only[jx,kC]at r j;simp only[go_sem,Cp,M,N,q,f,B,k];refine use C ?_;simp only[go_sem,q,f,k,true_and];refine use c ?_;simp only[go_sem,q,f,k,true_and];refine use r ?_;simp only[go_sem,q,f,k,true_and];refine use j ?_;simp only[go_sem,f,true_and];refine Y0 (bytes:=32) D he rfl aj a0 ⟨aa,aj⟩ fun J H4 O r1 I bo=>?_
  have T:H4.get 5=.cells [ai (n:Int),ai (n:Int),bV w,v,d] 0:=by rw[I 5 aa (by intro a b h;rw[f]at h;cases h),f]
  obtain⟨w1,w2,w3⟩:=r1.bP;simp only[go_sem,M,T,w1,w2,w3];refine P _ _ J (fun t G=>?_) ?_ ?_ (fun z A S aw h=>?_) (fun z S h=>?_) ?_
  ·simp(disch:=omega)only[cc]
  ·refine .inl ⟨O,?_⟩;have a2:=r1.set T (.cells [ai (n:Int),ai (n:Int),bV w,J,d] 0);rw[ri,ay rfl];show bu _ 2 J (o++eZ n [g_ n i 1 (-m)]) O;rw[←Q];simpa [eZ,n9]using a2
  ·simp only[go_sem]
  ·rw[ag.a_,au (fun e=>aw e.symm),I z S (by intro a b c;rw[h]at c;cases c),h]
  ·rw[ag.a_,au aa,I z aa (by intro a b c;rw[h]at c;cases c),h]
  ·simp only[go_sem];omega
theorem apW(n:Nat)(u:n=1∨n=2)(i:Nat)(E:i<n)(s:fO)(hs:nN 90 s)(w:List aI)(f:V)(x y e:Nat)(v:V)(o:List V)(F:Fr)(H:ag)(R:X→Fr→ag→Prop)
 (L:rd 2 F=.ptr 5 0) (M:rd 7 F=.ptr x 0) (B:rd 8 F=.ptr y 0) (j:H.get 5=.cells [ai (n:Int),ai (n:Int),bV w,v,f] 0) (C:H.get x=.cells (fS s) 0) (q:H.get y=.cells (kC n [(1,U n i)]) 0) (D:iY e H 2 v o) (he:e<H.next) (a5:5≠e) (bc:o.length≤1000) (a8:8≤H.next) (bb:x<H.next) (bd:y<H.next)
 (a6:bP f=true∧cellsOf f=[f]∧V.one f=true)
 (O:∀K k v',(∀t,t<18→rd t K=rd t F)→iY e k 2 v' (o++eZ n (sK n i s))→k.get 5=.cells [ai (n:Int),ai (n:Int),bV w,v',f] 0→(∀z A,z<H.next→z≠5→H.get z=.cells A 0→k.get z=.cells A 0)→(∀z,z<5→H.get z=.none→k.get z=.none)→H.next≤k.next→R .norm K k):
 bT Cq R F H:=by
 obtain⟨lo,g,hl,hh⟩:=s;obtain⟨q1,G⟩:=hs;simp only at q1 G;simp only[fS,bY,fm,eM]at C;simp only[kC]at q;cases hh with
 |false=>
  simp only[go_sem,Cq,Ke,Kf,M,C];refine O _ _ v (fun t c=>?_) ?_ j (fun _ _ _ _ h=>h) (fun _ _ h=>h) (aR _)
  ·simp(disch:=omega)only[cc]
  ·show iY e H 2 v (o++[]);rw[fA];exact D
 |true=>
  have ab:=uT n i u E;have d:=Cb (-1) aj;rw[show(((-1:Int)):Rat)= -1 from rfl]at d;have r:=YB n i u E g (G.mono aj);have Q:∀t∈jy [(g,Z n)],t=(g,Z n):=fun t c=>by
   rw[yF]at c;unfold gP at c;split at c
   ·cases c
   ·exact dH.1 c
  have m:=abu n u (jy [(g,Z n)]) (by rw[yF];exact JE _) (fun t c=>by rw[Q t c];exact(x2 n i ab 1 g).2 _ aJ) (fun t c=>by rw[Q t c];exact G.mono aj) (-1) abD (1,U n i) yH (x2 n i ab 1 1).1;rw[aoL n i u E]at m;obtain⟨p,P⟩:∃p,p=g_ n i (-1) g:=⟨_,rfl⟩;rw[←P]at m;obtain⟨W,am⟩:∃W,W=jy [(g,Z n)]:=⟨_,rfl⟩;rw[←am]at r m;have aw:de [V.int .i64 (n:Int),bV p]=true:=rfl;have kk:∀l:List aI,bP (bV l)=true∧cellsOf (bV l)=[bV l]∧V.one (bV l)=true:=fun _=>⟨rfl,rfl,rfl⟩
  obtain⟨a9,a',ba⟩:=D.bP;unfold cJ bY at d r m;simp only[jx,kC]at r m;simp only[go_sem,Cq,Ke,Kf,L,M,B,j,C,q];refine use r ?_;simp only[go_sem,B,j,q,true_and];refine use d ?_;simp only[go_sem,B,j,q,true_and];refine use m ?_;simp only[go_sem,j,true_and];refine Y0 (bytes:=32) D he rfl aj aw ⟨aa,aj⟩ fun J H4 N Y I bj=>?_
  have T:H4.get 5=.cells [ai (n:Int),ai (n:Int),bV w,v,f] 0:=by rw[I 5 aa (by intro a b h;rw[j]at h;cases h),j]
  obtain⟨w1,w2,w3⟩:=Y.bP;simp only[go_sem,L,T,w1,w2,w3];refine O _ _ J (fun t c=>?_) ?_ ?_ (fun z A S ar h=>?_) (fun z S h=>?_) ?_
  ·simp(disch:=omega)only[cc]
  ·refine .inl ⟨N,?_⟩;have a1:=Y.set T (.cells [ai (n:Int),ai (n:Int),bV w,J,f] 0);rw[sK,ay rfl];show bu _ 2 J (o++eZ n [g_ n i (-1) g]) N;rw[←P];simpa [eZ,n9]using a1
  ·simp only[go_sem]
  ·rw[ag.a_,au (fun e=>ar e.symm),I z S (by intro a b d;rw[h]at d;cases d),h]
  ·rw[ag.a_,au aa,I z aa (by intro a b d;rw[h]at d;cases d),h]
  ·simp only[go_sem];omega
end Go.Proofs.YtddhncjmaahodaaGreatDoor
